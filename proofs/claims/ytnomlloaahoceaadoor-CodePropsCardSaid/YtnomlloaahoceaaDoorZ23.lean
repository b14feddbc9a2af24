/- Contracts of functions that CodeProps reaches, and words to say them. No condition. -/
import Derived.Test.YtnomlloaahoceaaDoorZ22
/- Contracts of package code: what is written. No condition. -/
namespace Go.Proofs.YtnomlloaahoceaaDoor
open Go.RowKit
set_option linter.unusedVariables false
set_option linter.unusedSimpArgs false
def encs (vs : List Int) : List UInt8 := (vs.map fun v => (uintV v).1).flatten
def encf (us : List Nat) : List UInt8 := (us.map fun u => (floatV u).1).flatten
theorem uintV_le {v : Int} (h : v ≤ 9223372036854775807) : (uintV v).1.length ≤ 9 := by
  unfold uintV
  split
  · exact Nat.zero_le _
  · exact encU_len 8 _ (by have : (128 : Nat) ^ (8 + 1) = 9223372036854775808 := by decide
                           omega)
theorem encU_pos (n : Nat) : 0 < (encU n).length := by
  by_cases h : n < 128
  · rw [encU_small h]; exact Nat.zero_lt_one
  · rw [encU_big h]; exact Nat.succ_pos _
theorem uintV_pos {v : Int} (h : 0 ≤ v) : 0 < (uintV v).1.length := by
  unfold uintV
  rw [if_neg (by omega)]
  exact encU_pos _
theorem floatV_le (u : Nat) : (floatV u).1.length ≤ 8 := by
  unfold floatV
  split
  · exact Nat.zero_le _
  · show (leB u 8).length ≤ 8
    simp [leB]
theorem encs_snoc (vs : List Int) (v : Int) : encs (vs ++ [v]) = encs vs ++ (uintV v).1 := by simp [encs]
theorem encf_snoc (vs : List Nat) (v : Nat) : encf (vs ++ [v]) = encf vs ++ (floatV v).1 := by simp [encf]
theorem encs_le : ∀ (vs : List Int), (∀ v ∈ vs, v ≤ 9223372036854775807) → (encs vs).length ≤ 9 * vs.length
  | [], _ => by simp [encs]
  | v :: r, h => by
    have h1 := encs_le r fun x hx => h x (.tail _ hx)
    have h2 := uintV_le (h v (.head _))
    have : encs (v :: r) = (uintV v).1 ++ encs r := by simp [encs]
    rw [this, List.length_append, List.length_cons]
    omega
theorem encf_le : ∀ (vs : List Nat), (encf vs).length ≤ 8 * vs.length
  | [] => by simp [encf]
  | v :: r => by
    have h1 := encf_le r
    have h2 := floatV_le v
    have : encf (v :: r) = (floatV v).1 ++ encf r := by simp [encf]
    rw [this, List.length_append, List.length_cons]
    omega
set_option maxRecDepth 100000 in
theorem putUint_calls {B : Nat} {w0 : World} (g : Nat) (bt : TypeId) (A : Option Addr) (c : Nat) (l : List UInt8) (at_ : Int) (cs : List Value) (L : List It) (A2 : Option Addr) (c2 n2 : Nat) (vs : List Int) (w : World)
    {X0 : It} (hS0 : St B w0 w (.blk g bt (cuC A l.length c at_ cs) :: X0 :: L)) (hX0 : X0 = .row A c 5 1 l.length (l.map uB) ∨ (ObjRow X0 5 A c l.length (l.map uB) ∧ ∃ v r, vs = v :: r ∧ 0 ≤ v)) {ok : Nat → Prop} (hv : ∀ {w1 : World} {X Y : It}, St B w0 w1 (X :: Y :: L) → RdE w1 ok iV A2 vs) (hn2 : n2 = vs.length) (hl : l.length + 9 * vs.length ≤ 137438953472) (hvs : ∀ v ∈ vs, v ≤ 9223372036854775807) :
    Calls Tryd.prog 20 ⟨[.pointer (some ⟨g, 0, none⟩), .slice A2 n2 c2]⟩ w fun en w' => en = .returned (.tuple #[]) ∧ ∃ A' c', St B w0 w' (.blk g bt (cuC A' (l ++ encs vs).length c' at_ cs) :: .row A' c' 5 1 (l ++ encs vs).length ((l ++ encs vs).map uB) :: L) := by
  subst hn2
  refine gc_enter (N := 29) Tryd.func20 rfl rfl rfl [(0, _), (1, _)] rfl ?_
  have hS := St.start w
  have hS := hS0
  refine gc_seq fun K1 hK1 => ?_
  refine gc_region ?_
  refine gl_op rfl rfl rfl (op_pure hT rfl) ?_
  refine gl_op rfl rfl rfl (op_pure hT rfl) ?_
  refine gl_op rfl rfl rfl (op_pure hT rfl) ?_
  refine gl_nil ?_
  refine hK1 _ _ ?_
  clear hK1; try clear K1
  refine gc_block ?_
  refine gc_loop (fun kk a' w' => ∃ (i : Nat) (m : List UInt8) (A' : Option Addr) (c' : Nat) (X : It), Fr 29 a' [(0, .pointer (some ⟨g, 0, none⟩)), (8, .slice A2 vs.length c2), (9, .int .i64 (vs.length : Nat)), (10, .int .i64 (i : Nat))] ∧ i ≤ vs.length ∧ kk = vs.length + 1 - i ∧ m = l ++ encs (vs.take i) ∧
    (X = .row A' c' 5 1 m.length (m.map uB) ∨ (ObjRow X 5 A' c' m.length (m.map uB) ∧ i = 0 ∧ ∃ v r, vs = v :: r ∧ 0 ≤ v)) ∧ St B w0 w' (.blk g bt (cuC A' m.length c' at_ cs) :: X :: L)) (vs.length + 1) ?_ ?_ ?_
  · intro a' ha; exact ⟨0, l, A, c, X0, ha.sub ⟨rfl, rfl, rfl, rfl, trivial⟩, by omega, by omega, by simp [encs], hX0.imp id (fun h => ⟨h.1, rfl, h.2⟩), hS⟩
  · rintro a' w' ⟨i, _, _, _, _, _, h1, h2, _⟩; omega
  clear hS
  rintro kk a' w1 ⟨i, m, A', c', X, hF, hi, hk, hm, hX, hS⟩
  refine gc_of hF ?_
  clear hF
  refine gc_seq fun K2 hK2 => ?_
  refine gc_region ?_
  refine gl_op rfl rfl rfl (op_pure hT rfl) ?_
  refine gl_nil ?_
  refine hK2 _ _ ?_
  clear hK2; try clear K2
  refine gc_seq fun K3 hK3 => ?_
  refine gc_cond rfl rfl (fun c11 => ?_) (fun c11 => ?_)
  · try simp only [decide_eq_true_eq, decide_eq_false_iff_not, Bool.not_eq_true', Bool.not_eq_false', Int.not_lt, Int.not_le, Nat.not_lt, Nat.not_le, Bool.true_eq, Bool.false_eq, reduceCtorEq] at c11
    refine gc_skip ?_
    refine hK3 _ _ ?_
    clear hK3; try clear K3
    refine gc_seq fun K4 hK4 => ?_
    refine gc_block ?_
    refine gc_seq fun K5 hK5 => ?_
    refine gc_region ?_
    have hil : i < vs.length := by omega
    obtain ⟨v, hv1⟩ : ∃ v, vs[i]? = some v := ⟨_, List.getElem?_eq_getElem hil⟩
    have htk : vs.take (i + 1) = vs.take i ++ [v] := by rw [List.take_add_one, hv1]; rfl
    have hvm := hvs v (List.mem_of_getElem? hv1)
    obtain ⟨ad, hA, hc⟩ := (hv hS).at 0 (i := (i : Int)) (by omega) (by omega)
    have hug : vs.getD ((i : Int)).toNat 0 = v := by rw [Int.toNat_natCast, List.getD_eq_getElem?_getD, hv1]; rfl
    rw [hug] at hc
    have hml : m.length ≤ l.length + 9 * i := by
      have := encs_le (vs.take i) fun x hx => hvs x (List.mem_of_mem_take hx)
      rw [hm, List.length_append]
      rw [List.length_take] at this
      omega
    have hul := uintV_le hvm
    refine gl_op rfl rfl rfl (op_indexAddr hT rfl rfl el3.cellsOf.1 el3.cellsOf.2 rfl rfl (by omega) (by omega) hA) ?_
    refine gl_op rfl rfl rfl (op_load hT rfl rfl rfl rfl hc) ?_
    refine gl_op rfl rfl rfl (op_pure hT rfl) ?_
    refine gl_nil ?_
    refine hK5 _ _ ?_
    clear hK5; try clear K5
    refine gc_seq fun K6 hK6 => ?_
    refine gc_region ?_
    refine gl_op rfl rfl rfl (op_pure hT rfl) ?_
    refine gl_callf rfl rfl rfl rfl Tryd.func39 rfl rfl rfl (Uint_calls v hvm _) ?_
    rintro _ w16 ⟨A16, c16, rfl, hr16, hb16⟩
    refine ⟨_, rfl, ?_⟩
    have hS := (hS.addRow hb16 hr16).moveIn 2
    refine gl_op rfl rfl rfl (op_pure hT rfl) ?_
    refine gl_op rfl rfl rfl (op_pure hT rfl) ?_
    refine gl_op rfl rfl rfl (op_pure hT rfl) ?_
    refine gl_op rfl rfl rfl (op_pure hT rfl) ?_
    refine gl_op rfl rfl rfl (op_pure hT rfl) ?_
    refine gl_nil ?_
    refine hK6 _ _ ?_
    clear hK6; try clear K6
    refine gc_region ?_
    refine gl_op rfl rfl rfl (op_pure hT rfl) ?_
    refine gl_op rfl rfl rfl (op_pure hT rfl) ?_
    refine gl_op rfl rfl rfl (op_pure hT rfl) ?_
    refine gl_op rfl rfl rfl (op_fieldB 0 rfl Tryd.underlying54 rfl el31 rfl rfl) ?_
    refine gl_op rfl rfl rfl (op_loadB 0 hT hS rfl rfl rfl rfl rfl rfl) ?_
    refine gl_op rfl rfl rfl (op_pure hT rfl) ?_
    have hX2 : X = .row A' c' 5 1 m.length (m.map uB) ∨ (ObjRow X 5 A' c' m.length (m.map uB) ∧ 0 < (uintV v).1.length) := hX.imp id fun h => by
      obtain ⟨h1, h2, v', r, h3, h4⟩ := h
      subst h2
      rw [h3] at hv1
      injection hv1 with hv1
      subst hv1
      exact ⟨h1, uintV_pos h4⟩
    refine gl_appendRO 1 hT hS el5 (hS.rd (i := 2) rfl) (allOne_map (fun _ => rfl) _) rfl rfl rfl rfl rfl rfl rfl rfl hX2 (by omega) (by omega) fun A25 c25 w25 hS => ?_
    refine gl_op rfl rfl rfl (op_pure hT rfl) ?_
    refine gl_op rfl rfl rfl (op_fieldB 0 rfl Tryd.underlying54 rfl el31 rfl rfl) ?_
    refine gl_store 0 hS el31.cellsOf.1 el31.cellsOf.2 rfl rfl rfl rfl rfl rfl rfl rfl fun wcode_go_100 hS => ?_
    refine gl_nil ?_
    refine hK4 _ _ ?_
    clear hK4; try clear K4
    refine gc_region ?_
    first | refine gl_fit hT rfl rfl rfl rfl (by omega) ?_ | refine gl_op rfl rfl rfl (op_pure hT rfl) ?_
    refine gl_op rfl rfl rfl (op_pure hT rfl) ?_
    refine gl_nil ?_
    intro a' ha
    refine ⟨i + 1, m ++ (uintV v).1, A25, c25, _, ha.sub ⟨rfl, rfl, rfl, rfl, trivial⟩, by omega, by omega, ?_, .inl rfl, ?_⟩
    · rw [hm, htk, encs_snoc, List.append_assoc]
    · rw [List.length_append, List.map_append]
      exact hS.erase 2
  · try simp only [decide_eq_true_eq, decide_eq_false_iff_not, Bool.not_eq_true', Bool.not_eq_false', Int.not_lt, Int.not_le, Nat.not_lt, Nat.not_le, Bool.true_eq, Bool.false_eq, reduceCtorEq] at c11
    refine gc_exit ?_
    simp only [x_then_exit, x_block_exit, ↓reduceIte]
    refine gk_end0 rfl ?_
    have hie : i = vs.length := by omega
    subst hie
    rw [List.take_length] at hm
    subst hm
    rcases hX with rfl | ⟨_, h2, v', r, h3, _⟩
    · exact ⟨rfl, A', c', hS⟩
    · rw [h3] at h2
      cases h2
set_option maxRecDepth 100000 in
theorem putFloats_calls {B : Nat} {w0 : World} (g : Nat) (bt : TypeId) (A : Option Addr) (c : Nat) (l : List UInt8) (at_ : Int) (cs : List Value) (L : List It) (A2 : Option Addr) (c2 n2 : Nat) (vs : List Nat) (w : World)
    (hS0 : St B w0 w (.blk g bt (cuC A l.length c at_ cs) :: .row A c 5 1 l.length (l.map uB) :: L)) {ok : Nat → Prop} (hv : ∀ {w1 : World} {X Y : It}, St B w0 w1 (X :: Y :: L) → RdE w1 ok fV A2 vs) (hn2 : n2 = vs.length) (hl : l.length + 8 * vs.length ≤ 137438953472) (hvs : ∀ v ∈ vs, v < 18446744073709551616) :
    Calls Tryd.prog 21 ⟨[.pointer (some ⟨g, 0, none⟩), .slice A2 n2 c2]⟩ w fun en w' => en = .returned (.tuple #[]) ∧ ∃ A' c', St B w0 w' (.blk g bt (cuC A' (l ++ encf vs).length c' at_ cs) :: .row A' c' 5 1 (l ++ encf vs).length ((l ++ encf vs).map uB) :: L) := by
  subst hn2
  refine gc_enter (N := 29) Tryd.func21 rfl rfl rfl [(0, _), (1, _)] rfl ?_
  have hS := St.start w
  have hS := hS0
  refine gc_seq fun K1 hK1 => ?_
  refine gc_region ?_
  refine gl_op rfl rfl rfl (op_pure hT rfl) ?_
  refine gl_op rfl rfl rfl (op_pure hT rfl) ?_
  refine gl_op rfl rfl rfl (op_pure hT rfl) ?_
  refine gl_nil ?_
  refine hK1 _ _ ?_
  clear hK1; try clear K1
  refine gc_block ?_
  refine gc_loop (fun kk a' w' => ∃ (i : Nat) (m : List UInt8) (A' : Option Addr) (c' : Nat), Fr 29 a' [(0, .pointer (some ⟨g, 0, none⟩)), (8, .slice A2 vs.length c2), (9, .int .i64 (vs.length : Nat)), (10, .int .i64 (i : Nat))] ∧ i ≤ vs.length ∧ kk = vs.length + 1 - i ∧ m = l ++ encf (vs.take i) ∧
    St B w0 w' (.blk g bt (cuC A' m.length c' at_ cs) :: .row A' c' 5 1 m.length (m.map uB) :: L)) (vs.length + 1) ?_ ?_ ?_
  · intro a' ha; exact ⟨0, l, A, c, ha.sub ⟨rfl, rfl, rfl, rfl, trivial⟩, by omega, by omega, by simp [encf], hS⟩
  · rintro a' w' ⟨i, _, _, _, _, h1, h2, _⟩; omega
  clear hS
  rintro kk a' w1 ⟨i, m, A', c', hF, hi, hk, hm, hS⟩
  refine gc_of hF ?_
  clear hF
  refine gc_seq fun K2 hK2 => ?_
  refine gc_region ?_
  refine gl_op rfl rfl rfl (op_pure hT rfl) ?_
  refine gl_nil ?_
  refine hK2 _ _ ?_
  clear hK2; try clear K2
  refine gc_seq fun K3 hK3 => ?_
  refine gc_cond rfl rfl (fun c11 => ?_) (fun c11 => ?_)
  · try simp only [decide_eq_true_eq, decide_eq_false_iff_not, Bool.not_eq_true', Bool.not_eq_false', Int.not_lt, Int.not_le, Nat.not_lt, Nat.not_le, Bool.true_eq, Bool.false_eq, reduceCtorEq] at c11
    refine gc_skip ?_
    refine hK3 _ _ ?_
    clear hK3; try clear K3
    refine gc_seq fun K4 hK4 => ?_
    refine gc_block ?_
    refine gc_seq fun K5 hK5 => ?_
    refine gc_region ?_
    have hil : i < vs.length := by omega
    obtain ⟨v, hv1⟩ : ∃ v, vs[i]? = some v := ⟨_, List.getElem?_eq_getElem hil⟩
    have htk : vs.take (i + 1) = vs.take i ++ [v] := by rw [List.take_add_one, hv1]; rfl
    have hvm := hvs v (List.mem_of_getElem? hv1)
    obtain ⟨ad, hA, hc⟩ := (hv hS).at 0 (i := (i : Int)) (by omega) (by omega)
    have hug : vs.getD ((i : Int)).toNat 0 = v := by rw [Int.toNat_natCast, List.getD_eq_getElem?_getD, hv1]; rfl
    rw [hug] at hc
    have hml : m.length ≤ l.length + 8 * i := by
      have := encf_le (vs.take i)
      rw [hm, List.length_append]
      rw [List.length_take] at this
      omega
    have hul := floatV_le v
    refine gl_op rfl rfl rfl (op_indexAddr hT rfl rfl el62.cellsOf.1 el62.cellsOf.2 rfl rfl (by omega) (by omega) hA) ?_
    refine gl_op rfl rfl rfl (op_load hT rfl rfl rfl rfl hc) ?_
    refine gl_op rfl rfl rfl (op_pure hT rfl) ?_
    refine gl_nil ?_
    refine hK5 _ _ ?_
    clear hK5; try clear K5
    refine gc_seq fun K6 hK6 => ?_
    refine gc_region ?_
    refine gl_op rfl rfl rfl (op_pure hT rfl) ?_
    refine gl_callf rfl rfl rfl rfl Tryd.func40 rfl rfl rfl (Float_calls v hvm _) ?_
    rintro _ w16 ⟨A16, c16, rfl, hr16, hb16⟩
    refine ⟨_, rfl, ?_⟩
    have hS := (hS.addRow hb16 hr16).moveIn 2
    refine gl_op rfl rfl rfl (op_pure hT rfl) ?_
    refine gl_op rfl rfl rfl (op_pure hT rfl) ?_
    refine gl_op rfl rfl rfl (op_pure hT rfl) ?_
    refine gl_op rfl rfl rfl (op_pure hT rfl) ?_
    refine gl_op rfl rfl rfl (op_pure hT rfl) ?_
    refine gl_nil ?_
    refine hK6 _ _ ?_
    clear hK6; try clear K6
    refine gc_region ?_
    refine gl_op rfl rfl rfl (op_pure hT rfl) ?_
    refine gl_op rfl rfl rfl (op_pure hT rfl) ?_
    refine gl_op rfl rfl rfl (op_pure hT rfl) ?_
    refine gl_op rfl rfl rfl (op_fieldB 0 rfl Tryd.underlying54 rfl el31 rfl rfl) ?_
    refine gl_op rfl rfl rfl (op_loadB 0 hT hS rfl rfl rfl rfl rfl rfl) ?_
    refine gl_op rfl rfl rfl (op_pure hT rfl) ?_
    refine gl_append 1 hT hS el5 (hS.rd (i := 2) rfl) (allOne_map (fun _ => rfl) _) rfl rfl rfl rfl rfl rfl rfl rfl (by first | omega | (simp; omega)) (by first | omega | (simp; omega)) fun A25 c25 w25 hS => ?_
    refine gl_op rfl rfl rfl (op_pure hT rfl) ?_
    refine gl_op rfl rfl rfl (op_fieldB 0 rfl Tryd.underlying54 rfl el31 rfl rfl) ?_
    refine gl_store 0 hS el31.cellsOf.1 el31.cellsOf.2 rfl rfl rfl rfl rfl rfl rfl rfl fun wcode_go_107 hS => ?_
    refine gl_nil ?_
    refine hK4 _ _ ?_
    clear hK4; try clear K4
    refine gc_region ?_
    first | refine gl_fit hT rfl rfl rfl rfl (by omega) ?_ | refine gl_op rfl rfl rfl (op_pure hT rfl) ?_
    refine gl_op rfl rfl rfl (op_pure hT rfl) ?_
    refine gl_nil ?_
    intro a' ha
    refine ⟨i + 1, m ++ (floatV v).1, A25, c25, ha.sub ⟨rfl, rfl, rfl, rfl, trivial⟩, by omega, by omega, ?_, ?_⟩
    · rw [hm, htk, encf_snoc, List.append_assoc]
    · rw [List.length_append, List.map_append]
      exact hS.erase 2
  · try simp only [decide_eq_true_eq, decide_eq_false_iff_not, Bool.not_eq_true', Bool.not_eq_false', Int.not_lt, Int.not_le, Nat.not_lt, Nat.not_le, Bool.true_eq, Bool.false_eq, reduceCtorEq] at c11
    refine gc_exit ?_
    simp only [x_then_exit, x_block_exit, ↓reduceIte]
    refine gk_end0 rfl ?_
    have hie : i = vs.length := by omega
    subst hie
    rw [List.take_length] at hm
    subst hm
    exact ⟨rfl, A', c', hS⟩
end Go.Proofs.YtnomlloaahoceaaDoor

