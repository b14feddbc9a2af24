/- Contracts: several lists laid with marks behind, their bits. No condition. -/
import Derived.Test.YtkfhablonnjgeaaDoorPr2
namespace Go.Proofs.YtkfhablonnjgeaaDoor
open Go.RowKit
set_option linter.unusedVariables false
set_option linter.unusedSimpArgs false
/-- What comes last, as one piece that stays. -/
theorem St.keepRest {B : Nat} {w0 w : World} {L L2 : List It} (h : St B w0 w (L ++ L2)) : St B w0 w (L ++ [.keep (fun b => ∃ it ∈ L2, it.fp b) w]) := by
  obtain ⟨h1, h2, h3⟩ := h
  refine ⟨h1, fun it hi => ?_, ?_⟩
  · rcases List.mem_append.1 hi with hi | hi
    · exact h2 it (List.mem_append_left _ hi)
    · rw [List.mem_singleton] at hi
      subst hi
      rintro b ⟨it, hit, hb⟩
      have := It.ok_lt (h2 it (List.mem_append_right _ hit)) hb
      exact ⟨this.1, this.2, this.2, rfl⟩
  · obtain ⟨g1, g2, g3⟩ := List.pairwise_append.1 h3
    refine List.pairwise_append.2 ⟨g1, List.pairwise_singleton _ _, fun z hz k hk b hb hkb => ?_⟩
    rw [List.mem_singleton] at hk
    subst hk
    obtain ⟨it, hit, hb2⟩ := hkb
    exact g3 z hz it hit b hb hb2
theorem St.rowRd {B : Nat} {w0 w : World} {L : List It} (h : St B w0 w L) {i : Nat} {A : Option Addr} {c : Nat} {el : TypeId} {sz m : Nat} {cs : List Value} (hi : L[i]? = some (.row A c el sz m cs)) {ok : Nat → Prop} (hok : ∀ b, It.fp (.row A c el sz m cs) b → ok b) : Rd w ok A m sz cs := (Owns.rdFp (h.at hi)).weaken hok
theorem Rd.pre {w : World} {ok : Nat → Prop} {A : Option Addr} {n m : Nat} {cs ds : List Value} (h : Rd w ok A n 1 (cs ++ ds)) (hm : cs.length = m) (hn : m ≤ n) : Rd w ok A m 1 cs := by
  have := h.take hn
  rw [Nat.mul_one, List.take_left' hm] at this
  exact this
@[reducible] def m31 : Value := fV 13852790978814935040
/-- Several lists with marks behind each, a mark list behind all. -/
structure LdM (w : World) (ok : Nat → Prop) (A : Option Addr) (c : Nat) (S : List Sv) (ls : List (List Nat)) (mk : Sv) : Prop where
  rS : Rd w ok A (ls.length + 1) 1 (S.map svV ++ [svV mk])
  cp : ls.length + 1 ≤ c
  len : S.length = ls.length
  rd : ∀ (i : Nat) x l, S[i]? = some x → ls[i]? = some l → Rd w ok x.1 (l.length + 9) 1 (laidC l) ∧ x.2.1 = l.length ∧ l.length + 9 ≤ x.2.2
  rm : Rd w ok mk.1 1 1 [m31]
  nm : mk.2.1 = 1
theorem LdM.keep {w w0 : World} {B : Nat} {L : List It} (hS : St B w0 w L) {i : Nat} {ok : Nat → Prop} {wk : World} (hi : L[i]? = some (.keep ok wk)) {A : Option Addr} {c : Nat} {S : List Sv} {ls : List (List Nat)} {mk : Sv} (h : LdM wk ok A c S ls mk) : LdM w ok A c S ls mk :=
  ⟨hS.keepRd hi h.rS, h.cp, h.len, fun j x l h1 h2 => ⟨hS.keepRd hi (h.rd j x l h1 h2).1, (h.rd j x l h1 h2).2⟩, hS.keepRd hi h.rm, h.nm⟩
theorem LdM.weaken {w : World} {ok ok' : Nat → Prop} {A : Option Addr} {c : Nat} {S : List Sv} {ls : List (List Nat)} {mk : Sv} (h : LdM w ok A c S ls mk) (hok : ∀ b, ok b → ok' b) : LdM w ok' A c S ls mk :=
  ⟨h.rS.weaken hok, h.cp, h.len, fun j x l h1 h2 => ⟨(h.rd j x l h1 h2).1.weaken hok, (h.rd j x l h1 h2).2⟩, h.rm.weaken hok, h.nm⟩
theorem LdM.lsM {w : World} {ok : Nat → Prop} {A : Option Addr} {c : Nat} {S : List Sv} {ls : List (List Nat)} {mk : Sv} (h : LdM w ok A c S ls mk) (hl : ∀ l ∈ ls, l.length ≤ 1048576 ∧ ∀ u ∈ l, u < 18446744073709551616) : LsM w ok A S ls := by
  refine ⟨rdE_of (h.rS.pre (by rw [List.length_map, h.len]) (by omega)) h.len, h.len, fun i x l h1 h2 => ?_⟩
  have := h.rd i x l h1 h2
  have hb := hl l (List.mem_of_getElem? h2)
  exact ⟨rdE_of (this.1.pre (cs := l.map fV) (m := l.length) (by rw [List.length_map]) (by omega)) rfl, this.2.1, by omega, hb.2⟩
theorem LsU.keep {w w0 : World} {B : Nat} {L : List It} (hS : St B w0 w L) {i : Nat} {ok : Nat → Prop} {wk : World} (hi : L[i]? = some (.keep ok wk)) {A : Option Addr} {S : List Sv} {ls : List (List Nat)} (h : LsU wk ok A S ls) : LsU w ok A S ls :=
  ⟨hS.keepRd hi h.rS, h.len, fun j x l h1 h2 => ⟨hS.keepRd hi (h.rd j x l h1 h2).1, (h.rd j x l h1 h2).2⟩⟩
theorem LsU.weaken {w : World} {ok ok' : Nat → Prop} {A : Option Addr} {S : List Sv} {ls : List (List Nat)} (h : LsU w ok A S ls) (hok : ∀ b, ok b → ok' b) : LsU w ok' A S ls :=
  ⟨Rd.weaken h.rS hok, h.len, fun j x l h1 h2 => ⟨Rd.weaken (h.rd j x l h1 h2).1 hok, (h.rd j x l h1 h2).2⟩⟩
theorem keep_mem {L2 : List It} {x : It} (h : x ∈ L2) : ∀ b, x.fp b → ∃ it ∈ L2, it.fp b := fun b hb => ⟨x, h, hb⟩
/-- The lists of bits made so far. -/
def Bcs (w : World) (ok : Nat → Prop) (S : List Sv) (ls : List (List Nat)) : Prop := S.length = ls.length ∧ ∀ (i : Nat) x l, S[i]? = some x → ls[i]? = some l → RdE w ok uV x.1 l ∧ x.2.1 = l.length ∧ l.length ≤ 17592186044416 ∧ ∀ u ∈ l, u < 18446744073709551616
theorem Bcs.lift {w w' : World} {ok ok' : Nat → Prop} {S : List Sv} {ls : List (List Nat)} (h : Bcs w ok S ls) (hl : ∀ {A : Option Addr} {n : Nat} {cs : List Value}, Rd w ok A n 1 cs → Rd w' ok' A n 1 cs) : Bcs w' ok' S ls := ⟨h.1, fun i x l h1 h2 => ⟨hl (h.2 i x l h1 h2).1, (h.2 i x l h1 h2).2⟩⟩
/-- The pieces made so far. -/
def Pcs (w : World) (ok : Nat → Prop) (S : List Sv) (ls : List (List Nat)) : Prop := S.length = ls.length ∧ ∀ (i : Nat) x l, S[i]? = some x → ls[i]? = some l → Rd w ok x.1 (l.length + 9) 1 (laidC l) ∧ x.2.1 = l.length ∧ l.length + 9 ≤ x.2.2
theorem Pcs.lift {w w' : World} {ok ok' : Nat → Prop} {S : List Sv} {ls : List (List Nat)} (h : Pcs w ok S ls) (hl : ∀ {A : Option Addr} {n : Nat} {cs : List Value}, Rd w ok A n 1 cs → Rd w' ok' A n 1 cs) : Pcs w' ok' S ls := ⟨h.1, fun i x l h1 h2 => ⟨hl (h.2 i x l h1 h2).1, (h.2 i x l h1 h2).2⟩⟩
theorem snoc_get {α : Type} {l : List α} {a x : α} {i : Nat} (h : (l ++ [a])[i]? = some x) : (l[i]? = some x ∧ i < l.length) ∨ (i = l.length ∧ x = a) := by
  rcases Nat.lt_or_ge i l.length with hi | hi
  · rw [List.getElem?_append_left hi] at h; exact .inl ⟨h, hi⟩
  · rw [List.getElem?_append_right hi] at h
    have h1 : i - l.length = 0 := by
      rcases Nat.eq_zero_or_pos (i - l.length) with h1 | h1
      · exact h1
      · rw [List.getElem?_eq_none (by simp; omega)] at h; cases h
    rw [h1] at h
    simp at h
    exact .inr ⟨by omega, h.symm⟩
theorem Pcs.snoc {w : World} {ok : Nat → Prop} {S : List Sv} {ls : List (List Nat)} {x : Sv} {l : List Nat} (h : Pcs w ok S ls) (h1 : Rd w ok x.1 (l.length + 9) 1 (laidC l)) (h2 : x.2.1 = l.length) (h3 : l.length + 9 ≤ x.2.2) : Pcs w ok (S ++ [x]) (ls ++ [l]) := by
  refine ⟨by simp [h.1], fun i y m hy hm => ?_⟩
  have hl := h.1
  rcases snoc_get hy with ⟨hy, hi⟩ | ⟨hi, rfl⟩ <;> rcases snoc_get hm with ⟨hm, hi2⟩ | ⟨hi2, rfl⟩
  · exact h.2 i y m hy hm
  · omega
  · omega
  · exact ⟨h1, h2, h3⟩
theorem Bcs.snoc {w : World} {ok : Nat → Prop} {S : List Sv} {ls : List (List Nat)} {x : Sv} {l : List Nat} (h : Bcs w ok S ls) (h1 : RdE w ok uV x.1 l) (h2 : x.2.1 = l.length) (h3 : l.length ≤ 17592186044416) (h4 : ∀ u ∈ l, u < 18446744073709551616) : Bcs w ok (S ++ [x]) (ls ++ [l]) := by
  refine ⟨by simp [h.1], fun i y m hy hm => ?_⟩
  have hl := h.1
  rcases snoc_get hy with ⟨hy, hi⟩ | ⟨hi, rfl⟩ <;> rcases snoc_get hm with ⟨hm, hi2⟩ | ⟨hi2, rfl⟩
  · exact h.2 i y m hy hm
  · omega
  · omega
  · exact ⟨h1, h2, h3, h4⟩
@[reducible] def cutL (ls : List (List Nat)) : List (List Nat) := (ls.take 300).map fun l => l.take 300
set_option maxRecDepth 100000 in
theorem lists6_calls (A : Option Addr) (n c : Nat) (S : List Sv) (ls : List (List Nat)) (w : World) {ok : Nat → Prop} (hm : LsM w ok A S ls) (hcp : ∀ x ∈ S, x.2.1 ≤ x.2.2) (hn : n = ls.length) (hl : ls.length ≤ 17592186044416) :
    Calls Tryd.prog 22 ⟨[.slice A n c]⟩ w fun e w' => ∃ AL cL S' mk K, e = .returned (.slice AL (cutL ls).length cL) ∧ St w.heap.size w w' [.keep K w'] ∧ LdM w' K AL cL S' (cutL ls) mk := by
  subst hn
  have hSl := hm.len
  refine gc_enter (N := 34) Tryd.func22 rfl rfl rfl [(0, _)] rfl ?_
  have hS := St.start w
  refine gc_seq fun K1 hK1 => ?_
  refine gc_region ?_
  refine gl_op rfl rfl rfl (op_pure hT rfl) ?_
  refine gl_nil ?_
  refine hK1 _ _ ?_
  clear hK1; try clear K1
  refine gc_seq fun K2 hK2 => ?_
  refine gc_region ?_
  refine gl_op rfl rfl rfl (op_pure hT rfl) ?_
  refine gl_nil ?_
  refine hK2 _ _ ?_
  clear hK2; try clear K2
  refine gc_seq fun K3 hK3 => ?_
  refine gc_seq fun K4 hK4 => ?_
  refine gc_region ?_
  refine gl_op rfl rfl rfl (op_pure hT rfl) ?_
  refine gl_nil ?_
  refine hK4 _ _ ?_
  clear hK4; try clear K4
  refine gc_block ?_
  have hS := (hS.nil 24 1).keep0
  refine gc_loop (fun k a w' => ∃ (i : Nat) (S' : List Sv) (AL : Option Addr) (cL : Nat) (ok' : Nat → Prop) (wk : World), Fr 34 a [(0, .slice A ls.length c), (3, .slice AL i cL), (4, .int .i64 (i : Nat))] ∧ i ≤ ls.length ∧ i ≤ 300 ∧ k = 301 - i ∧ Pcs wk ok' S' ((ls.take i).map fun l => l.take 300) ∧
    St w.heap.size w w' [.row AL cL 24 1 i (S'.map svV), .keep ok' wk]) 301 ?_ ?_ ?_
  · intro a ha; exact ⟨0, [], none, 0, _, _, ha.sub ⟨rfl, rfl, rfl, trivial⟩, by omega, by omega, by omega, ⟨rfl, fun i x l h => by simp at h⟩, hS⟩
  · rintro a w ⟨i, _, _, _, _, _, _, h1, h2, h3, _⟩; omega
  rintro k a w1 ⟨i, S', AL, cL, ok', wk, hF, hi, hi3, hk, hP, hS⟩
  refine gc_of hF ?_
  clear hF
  refine gc_seq fun K5 hK5 => ?_
  refine gc_seq fun K6 hK6 => ?_
  refine gc_region ?_
  refine gl_op rfl rfl rfl (op_pure hT rfl) ?_
  refine gl_op rfl rfl rfl (op_pure hT rfl) ?_
  refine gl_op rfl rfl rfl (op_pure hT rfl) ?_
  refine gl_op rfl rfl rfl (op_pure hT rfl) ?_
  refine gl_op rfl rfl rfl (op_pure hT rfl) ?_
  refine gl_split (t := 10) rfl (fun c10 => ?_) (fun c10 => ?_)
  · try simp only [decide_eq_true_eq, decide_eq_false_iff_not, Bool.not_eq_true', Bool.not_eq_false', Int.not_lt, Int.not_le, Nat.not_lt, Nat.not_le, Bool.true_eq, Bool.false_eq, reduceCtorEq] at c10
    refine gl_un rfl rfl rfl rfl ?_
    refine gl_op rfl rfl rfl (op_pure hT rfl) ?_
    refine gl_un rfl rfl rfl rfl ?_
    refine gl_op rfl rfl rfl (op_pure hT rfl) ?_
    refine gl_op rfl rfl rfl (op_pure hT rfl) ?_
    refine gl_nil ?_
    refine hK6 _ _ ?_
    clear hK6; try clear K6
    refine gc_cond rfl rfl (fun c13 => ?_) (fun c13 => ?_)
    · try simp only [decide_eq_true_eq, decide_eq_false_iff_not, Bool.not_eq_true', Bool.not_eq_false', Int.not_lt, Int.not_le, Nat.not_lt, Nat.not_le, Bool.true_eq, Bool.false_eq, reduceCtorEq] at c13
      refine gc_skip ?_
      refine hK5 _ _ ?_
      clear hK5; try clear K5
      refine gc_seq fun K7 hK7 => ?_
      refine gc_block ?_
      refine gc_region ?_
      refine gl_op rfl rfl rfl (op_pure hT rfl) ?_
      refine gl_op rfl rfl rfl (op_pure hT rfl) ?_
      refine gl_op rfl rfl rfl (op_pure hT rfl) ?_
      have hil : i < ls.length := by omega
      obtain ⟨l, hu⟩ : ∃ l, ls[i]? = some l := ⟨_, List.getElem?_eq_getElem hil⟩
      obtain ⟨x, hx⟩ : ∃ x, S[i]? = some x := ⟨_, List.getElem?_eq_getElem (by omega)⟩
      have hxc := hcp x (List.mem_of_getElem? hx)
      have hr := hm.rd i x l hx hu
      have htake : (ls.take (i + 1)).map (fun l => l.take 300) = (ls.take i).map (fun l => l.take 300) ++ [l.take 300] := by rw [List.take_add_one, hu]; simp
      obtain ⟨ad, hA, hc⟩ := (hm.rS.old hS).at (none, 0, 0) (i := (i : Int)) (by omega) (by omega)
      have hug : S.getD ((i : Int)).toNat (none, 0, 0) = x := by rw [Int.toNat_natCast, List.getD_eq_getElem?_getD, hx]; rfl
      rw [hug] at hc
      refine gl_op rfl rfl rfl (op_indexAddr hT rfl rfl el24.cellsOf.1 el24.cellsOf.2 rfl rfl (by omega) (by omega) hA) ?_
      refine gl_op rfl rfl rfl (op_load hT rfl rfl rfl rfl hc) ?_
      refine gl_callf rfl rfl rfl rfl Tryd.func21 rfl rfl rfl (laid_calls _ _ _ l _ (hr.1.old hS) hr.2.1 (by omega)) ?_
      rintro _ w21 ⟨A21, c21, rfl, h21⟩
      refine ⟨_, rfl, ?_⟩
      have hS := hS.more h21
      refine gl_lit hT hS el24 rfl rfl rfl rfl rfl rfl rfl rfl rfl fun g22 w22 hS => ?_
      refine gl_append 0 hT hS el24 (hS.rd (i := 3) rfl) (rfl) rfl rfl rfl rfl rfl rfl rfl rfl (by first | omega | (simp; omega)) (by first | omega | (simp; omega)) fun A23 c23 w23 hS => ?_
      have hS := hS.erase 3
      refine gl_op rfl rfl rfl (op_pure hT rfl) ?_
      refine gl_nil ?_
      refine hK7 _ _ ?_
      clear hK7; try clear K7
      refine gc_region ?_
      refine gl_op rfl rfl rfl (op_pure hT rfl) ?_
      first | refine gl_fit hT rfl rfl rfl rfl (by omega) ?_ | refine gl_op rfl rfl rfl (op_pure hT rfl) ?_
      refine gl_op rfl rfl rfl (op_pure hT rfl) ?_
      refine gl_nil ?_
      intro a ha
      have hlen : S'.length = i := by rw [hP.1, List.length_map, List.length_take]; omega
      have hS : St w.heap.size w _ ([.row A23 c23 24 1 (i + 1) (S'.map svV ++ [svV (A21, (l.take 300).length, c21)])] ++ [.keep ok' wk, .row A21 c21 46 1 ((l.take 300).length + 9) (laidC (l.take 300))]) := hS
      have hP1 := hP.lift (ok' := fun b => ∃ it ∈ [It.keep ok' wk, .row A21 c21 46 1 ((l.take 300).length + 9) (laidC (l.take 300))], it.fp b) fun h => (hS.keepRd (i := 1) rfl h).weaken fun b hb => ⟨_, List.mem_cons_self, hb⟩
      have hr2 : Rd _ (fun b => ∃ it ∈ [It.keep ok' wk, .row A21 c21 46 1 ((l.take 300).length + 9) (laidC (l.take 300))], it.fp b) A21 ((l.take 300).length + 9) 1 (laidC (l.take 300)) := hS.rowRd (i := 2) rfl fun b hb => ⟨_, List.mem_cons_of_mem _ List.mem_cons_self, hb⟩
      have hcp2 := (hS.cap (i := 2) rfl).1
      have hP2 := hP1.snoc (x := (A21, (l.take 300).length, c21)) (l := l.take 300) hr2 rfl hcp2
      rw [← htake] at hP2
      refine ⟨i + 1, S' ++ [(A21, (l.take 300).length, c21)], A23, c23, _, _, ha.sub ⟨rfl, rfl, rfl, trivial⟩, by omega, by omega, by omega, hP2, ?_⟩
      rw [List.map_append]
      exact hS.keepRest
    · try simp only [decide_eq_true_eq, decide_eq_false_iff_not, Bool.not_eq_true', Bool.not_eq_false', Int.not_lt, Int.not_le, Nat.not_lt, Nat.not_le, Bool.true_eq, Bool.false_eq, reduceCtorEq] at c13
      refine gc_exit ?_
      refine hK3 _ _ ?_
      clear hK3; try clear K3
      refine gc_seq fun K8 hK8 => ?_
      refine gc_region ?_
      refine gl_op rfl rfl rfl (op_pure hT rfl) ?_
      refine gl_op rfl rfl rfl (op_pure hT rfl) ?_
      refine gl_op rfl rfl rfl (op_pure hT rfl) ?_
      refine gl_nil ?_
      refine hK8 _ _ ?_
      clear hK8; try clear K8
      refine gc_seq fun K9 hK9 => ?_
      refine gc_region ?_
      refine gl_op rfl rfl rfl (op_pure hT rfl) ?_
      refine gl_lit hT hS el46 rfl rfl rfl rfl rfl rfl rfl rfl rfl fun g27 w27 hS => ?_
      refine gl_lit hT hS el46 rfl rfl rfl rfl rfl rfl rfl rfl rfl fun g28 w28 hS => ?_
      refine gl_lit hT hS el24 rfl rfl rfl rfl rfl rfl rfl rfl rfl fun g29 w29 hS => ?_
      have hlen : S'.length = i := by rw [hP.1, List.length_map, List.length_take]; omega
      refine gl_append 0 hT hS el24 (hS.rd (i := 4) rfl) (rfl) rfl rfl rfl rfl rfl rfl rfl rfl (by omega) (by omega) fun A30 c30 w30 hS => ?_
      have hS := hS.erase 4
      refine gl_op rfl rfl rfl (op_pure hT rfl) ?_
      refine gl_nil ?_
      refine hK9 _ _ ?_
      clear hK9; try clear K9
      refine gc_seq fun K10 hK10 => ?_
      refine gc_region ?_
      refine gl_op rfl rfl rfl (op_pure hT rfl) ?_
      refine gl_op rfl rfl rfl (op_pure hT rfl) ?_
      have hcap := (hS.cap (i := 0) rfl).1
      refine gl_op rfl rfl rfl (op_slice_h hT el24 rfl rfl rfl rfl (by omega) (by omega)) ?_
      refine gl_op rfl rfl rfl (op_pure hT rfl) ?_
      refine gl_nil ?_
      refine hK10 _ _ ?_
      clear hK10; try clear K10
      refine gc_ret ?_
      try simp only [x_then_ret, x_block_ret]
      refine gk_ret1 rfl rfl ?_
      have hti : ls.take i = ls.take 300 := by
        rcases Nat.lt_or_ge i 300 with h | h
        · rw [List.take_of_length_le (show ls.length ≤ i by omega), List.take_of_length_le (show ls.length ≤ 300 by omega)]
        · rw [show i = 300 by omega]
      rw [hti] at hP
      have hcl : (cutL ls).length = i := by unfold cutL; rw [List.length_map, List.length_take]; omega
      have hS : St w.heap.size w _ ([] ++ [It.row A30 c30 24 1 (i + 2) (S'.map svV ++ [svV (some ⟨g27, 0, none⟩, 1, 1), svV (some ⟨g28, 0, none⟩, 1, 1)]), .keep ok' wk, .row (some ⟨g27, 0, none⟩) 1 46 1 1 [m31], .row (some ⟨g28, 0, none⟩) 1 46 1 1 [m31]]) := hS
      refine ⟨A30, c30, S', ((some ⟨g27, 0, none⟩, 1, 1) : Sv), fun b => ∃ it ∈ [It.row A30 c30 24 1 (i + 2) (S'.map svV ++ [svV (some ⟨g27, 0, none⟩, 1, 1), svV (some ⟨g28, 0, none⟩, 1, 1)]), .keep ok' wk, .row (some ⟨g27, 0, none⟩) 1 46 1 1 [m31], .row (some ⟨g28, 0, none⟩) 1 46 1 1 [m31]], it.fp b, by rw [hcl]; rfl, hS.keepRest, ?_⟩
      have hP1 := hP.lift (ok' := fun b => ∃ it ∈ [It.row A30 c30 24 1 (i + 2) (S'.map svV ++ [svV (some ⟨g27, 0, none⟩, 1, 1), svV (some ⟨g28, 0, none⟩, 1, 1)]), .keep ok' wk, .row (some ⟨g27, 0, none⟩) 1 46 1 1 [m31], .row (some ⟨g28, 0, none⟩) 1 46 1 1 [m31]], it.fp b) fun h => (hS.keepRd (i := 1) rfl h).weaken (keep_mem (x := .keep ok' wk) (.tail _ (.head _)))
      refine ⟨?_, by rw [hcl]; omega, hP1.1, hP1.2, hS.rowRd (i := 2) rfl (keep_mem (.tail _ (.tail _ (.head _)))), rfl⟩
      rw [hcl]
      refine Rd.pre (ds := [svV (some ⟨g28, 0, none⟩, 1, 1)]) (n := i + 2) ?_ (by rw [List.length_append, List.length_map, hlen]; rfl) (by omega)
      rw [List.append_assoc]
      exact hS.rowRd (i := 0) rfl (keep_mem (.head _))
  · try simp only [decide_eq_true_eq, decide_eq_false_iff_not, Bool.not_eq_true', Bool.not_eq_false', Int.not_lt, Int.not_le, Nat.not_lt, Nat.not_le, Bool.true_eq, Bool.false_eq, reduceCtorEq] at c10
    refine gl_pass rfl rfl rfl rfl rfl rfl ?_
    refine gl_pass rfl rfl rfl rfl rfl rfl ?_
    refine gl_op rfl rfl rfl (op_pure hT rfl) ?_
    refine gl_nil ?_
    refine hK6 _ _ ?_
    clear hK6; try clear K6
    refine gc_cond_f rfl ?_
    refine gc_exit ?_
    refine hK3 _ _ ?_
    clear hK3; try clear K3
    refine gc_seq fun K11 hK11 => ?_
    refine gc_region ?_
    refine gl_op rfl rfl rfl (op_pure hT rfl) ?_
    refine gl_op rfl rfl rfl (op_pure hT rfl) ?_
    refine gl_op rfl rfl rfl (op_pure hT rfl) ?_
    refine gl_nil ?_
    refine hK11 _ _ ?_
    clear hK11; try clear K11
    refine gc_seq fun K12 hK12 => ?_
    refine gc_region ?_
    refine gl_op rfl rfl rfl (op_pure hT rfl) ?_
    refine gl_lit hT hS el46 rfl rfl rfl rfl rfl rfl rfl rfl rfl fun g27 w27 hS => ?_
    refine gl_lit hT hS el46 rfl rfl rfl rfl rfl rfl rfl rfl rfl fun g28 w28 hS => ?_
    refine gl_lit hT hS el24 rfl rfl rfl rfl rfl rfl rfl rfl rfl fun g29 w29 hS => ?_
    have hlen : S'.length = i := by rw [hP.1, List.length_map, List.length_take]; omega
    refine gl_append 0 hT hS el24 (hS.rd (i := 4) rfl) (rfl) rfl rfl rfl rfl rfl rfl rfl rfl (by omega) (by omega) fun A30 c30 w30 hS => ?_
    have hS := hS.erase 4
    refine gl_op rfl rfl rfl (op_pure hT rfl) ?_
    refine gl_nil ?_
    refine hK12 _ _ ?_
    clear hK12; try clear K12
    refine gc_seq fun K13 hK13 => ?_
    refine gc_region ?_
    refine gl_op rfl rfl rfl (op_pure hT rfl) ?_
    refine gl_op rfl rfl rfl (op_pure hT rfl) ?_
    have hcap := (hS.cap (i := 0) rfl).1
    refine gl_op rfl rfl rfl (op_slice_h hT el24 rfl rfl rfl rfl (by omega) (by omega)) ?_
    refine gl_op rfl rfl rfl (op_pure hT rfl) ?_
    refine gl_nil ?_
    refine hK13 _ _ ?_
    clear hK13; try clear K13
    refine gc_ret ?_
    try simp only [x_then_ret, x_block_ret]
    refine gk_ret1 rfl rfl ?_
    have hti : ls.take i = ls.take 300 := by
      rcases Nat.lt_or_ge i 300 with h | h
      · rw [List.take_of_length_le (show ls.length ≤ i by omega), List.take_of_length_le (show ls.length ≤ 300 by omega)]
      · rw [show i = 300 by omega]
    rw [hti] at hP
    have hcl : (cutL ls).length = i := by unfold cutL; rw [List.length_map, List.length_take]; omega
    have hS : St w.heap.size w _ ([] ++ [It.row A30 c30 24 1 (i + 2) (S'.map svV ++ [svV (some ⟨g27, 0, none⟩, 1, 1), svV (some ⟨g28, 0, none⟩, 1, 1)]), .keep ok' wk, .row (some ⟨g27, 0, none⟩) 1 46 1 1 [m31], .row (some ⟨g28, 0, none⟩) 1 46 1 1 [m31]]) := hS
    refine ⟨A30, c30, S', ((some ⟨g27, 0, none⟩, 1, 1) : Sv), fun b => ∃ it ∈ [It.row A30 c30 24 1 (i + 2) (S'.map svV ++ [svV (some ⟨g27, 0, none⟩, 1, 1), svV (some ⟨g28, 0, none⟩, 1, 1)]), .keep ok' wk, .row (some ⟨g27, 0, none⟩) 1 46 1 1 [m31], .row (some ⟨g28, 0, none⟩) 1 46 1 1 [m31]], it.fp b, by rw [hcl]; rfl, hS.keepRest, ?_⟩
    have hP1 := hP.lift (ok' := fun b => ∃ it ∈ [It.row A30 c30 24 1 (i + 2) (S'.map svV ++ [svV (some ⟨g27, 0, none⟩, 1, 1), svV (some ⟨g28, 0, none⟩, 1, 1)]), .keep ok' wk, .row (some ⟨g27, 0, none⟩) 1 46 1 1 [m31], .row (some ⟨g28, 0, none⟩) 1 46 1 1 [m31]], it.fp b) fun h => (hS.keepRd (i := 1) rfl h).weaken (keep_mem (x := .keep ok' wk) (.tail _ (.head _)))
    refine ⟨?_, by rw [hcl]; omega, hP1.1, hP1.2, hS.rowRd (i := 2) rfl (keep_mem (.tail _ (.tail _ (.head _)))), rfl⟩
    rw [hcl]
    refine Rd.pre (ds := [svV (some ⟨g28, 0, none⟩, 1, 1)]) (n := i + 2) ?_ (by rw [List.length_append, List.length_map, hlen]; rfl) (by omega)
    rw [List.append_assoc]
    exact hS.rowRd (i := 0) rfl (keep_mem (.head _))
theorem bitsOf_calls (A : Option Addr) (n c : Nat) (S : List Sv) (ls : List (List Nat)) (w : World) {ok : Nat → Prop} (hm : LsM w ok A S ls) (hn : n = ls.length) (hl : ls.length ≤ 1048576) (hll : ∀ l ∈ ls, l.length ≤ 1048576) :
    Calls Tryd.prog 24 ⟨[.slice A n c]⟩ w fun e w' => ∃ AL cL S' K, e = .returned (.slice AL ls.length cL) ∧ St w.heap.size w w' [.keep K w'] ∧ LsU w' K AL S' ls := by
  subst hn
  have hSl := hm.len
  refine gc_enter (N := 20) Tryd.func24 rfl rfl rfl [(0, _)] rfl ?_
  have hS := St.start w
  refine gc_seq fun K1 hK1 => ?_
  refine gc_region ?_
  refine gl_op rfl rfl rfl (op_pure hT rfl) ?_
  refine gl_nil ?_
  refine hK1 _ _ ?_
  clear hK1; try clear K1
  refine gc_seq fun K2 hK2 => ?_
  refine gc_region ?_
  refine gl_op rfl rfl rfl (op_pure hT rfl) ?_
  refine gl_nil ?_
  refine hK2 _ _ ?_
  clear hK2; try clear K2
  refine gc_seq fun K3 hK3 => ?_
  refine gc_seq fun K4 hK4 => ?_
  refine gc_region ?_
  refine gl_op rfl rfl rfl (op_pure hT rfl) ?_
  refine gl_nil ?_
  refine hK4 _ _ ?_
  clear hK4; try clear K4
  refine gc_block ?_
  have hS := (hS.nil 29 1).keep0
  refine gc_loop (fun k a w' => ∃ (i : Nat) (S' : List Sv) (AL : Option Addr) (cL : Nat) (ok' : Nat → Prop) (wk : World), Fr 20 a [(0, .slice A ls.length c), (3, .slice AL i cL), (4, .int .i64 (i : Nat))] ∧ i ≤ ls.length ∧ k = ls.length + 1 - i ∧ Bcs wk ok' S' (ls.take i) ∧
    St w.heap.size w w' [.row AL cL 29 1 i (S'.map svV), .keep ok' wk]) (ls.length + 1) ?_ ?_ ?_
  · intro a ha; exact ⟨0, [], none, 0, _, _, ha.sub ⟨rfl, rfl, rfl, trivial⟩, by omega, by omega, ⟨rfl, fun i x l h => by simp at h⟩, hS⟩
  · rintro a w ⟨i, _, _, _, _, _, _, h1, h2, _⟩; omega
  rintro k a w1 ⟨i, S', AL, cL, ok', wk, hF, hi, hk, hP, hS⟩
  refine gc_of hF ?_
  clear hF
  refine gc_seq fun K5 hK5 => ?_
  refine gc_seq fun K6 hK6 => ?_
  refine gc_region ?_
  refine gl_op rfl rfl rfl (op_pure hT rfl) ?_
  refine gl_op rfl rfl rfl (op_pure hT rfl) ?_
  refine gl_op rfl rfl rfl (op_pure hT rfl) ?_
  refine gl_op rfl rfl rfl (op_pure hT rfl) ?_
  refine gl_nil ?_
  refine hK6 _ _ ?_
  clear hK6; try clear K6
  refine gc_cond rfl rfl (fun c8 => ?_) (fun c8 => ?_)
  · try simp only [decide_eq_true_eq, decide_eq_false_iff_not, Bool.not_eq_true', Bool.not_eq_false', Int.not_lt, Int.not_le, Nat.not_lt, Nat.not_le, Bool.true_eq, Bool.false_eq, reduceCtorEq] at c8
    refine gc_skip ?_
    refine hK5 _ _ ?_
    clear hK5; try clear K5
    refine gc_seq fun K7 hK7 => ?_
    refine gc_block ?_
    refine gc_region ?_
    refine gl_op rfl rfl rfl (op_pure hT rfl) ?_
    refine gl_op rfl rfl rfl (op_pure hT rfl) ?_
    refine gl_op rfl rfl rfl (op_pure hT rfl) ?_
    have hil : i < ls.length := by omega
    obtain ⟨l, hu⟩ : ∃ l, ls[i]? = some l := ⟨_, List.getElem?_eq_getElem hil⟩
    have hlm := hll l (List.mem_of_getElem? hu)
    obtain ⟨x, hx⟩ : ∃ x, S[i]? = some x := ⟨_, List.getElem?_eq_getElem (by omega)⟩
    have hr := hm.rd i x l hx hu
    have htake : ls.take (i + 1) = ls.take i ++ [l] := by rw [List.take_add_one, hu]; rfl
    obtain ⟨ad, hA, hc⟩ := (hm.rS.old hS).at (none, 0, 0) (i := (i : Int)) (by omega) (by omega)
    have hug : S.getD ((i : Int)).toNat (none, 0, 0) = x := by rw [Int.toNat_natCast, List.getD_eq_getElem?_getD, hx]; rfl
    rw [hug] at hc
    refine gl_op rfl rfl rfl (op_indexAddr hT rfl rfl el24.cellsOf.1 el24.cellsOf.2 rfl rfl (by omega) (by omega) hA) ?_
    refine gl_op rfl rfl rfl (op_load hT rfl rfl rfl rfl hc) ?_
    refine gl_callf rfl rfl rfl rfl Tryd.func23 rfl rfl rfl (bits_calls _ _ _ l _ (hr.1.old hS) hr.2.1 hlm) ?_
    rintro _ w16 ⟨A16, c16, rfl, h16⟩
    refine ⟨_, rfl, ?_⟩
    have hS := hS.more h16
    refine gl_lit hT hS el29 rfl rfl rfl rfl rfl rfl rfl rfl rfl fun g17 w17 hS => ?_
    refine gl_append 0 hT hS el29 (hS.rd (i := 3) rfl) (rfl) rfl rfl rfl rfl rfl rfl rfl rfl (by first | omega | (simp; omega)) (by first | omega | (simp; omega)) fun A18 c18 w18 hS => ?_
    have hS := hS.erase 3
    refine gl_op rfl rfl rfl (op_pure hT rfl) ?_
    refine gl_nil ?_
    refine hK7 _ _ ?_
    clear hK7; try clear K7
    refine gc_region ?_
    refine gl_op rfl rfl rfl (op_pure hT rfl) ?_
    first | refine gl_fit hT rfl rfl rfl rfl (by omega) ?_ | refine gl_op rfl rfl rfl (op_pure hT rfl) ?_
    refine gl_op rfl rfl rfl (op_pure hT rfl) ?_
    refine gl_nil ?_
    intro a ha
    have hS : St w.heap.size w _ ([.row A18 c18 29 1 (i + 1) (S'.map svV ++ [svV (A16, l.length, c16)])] ++ [.keep ok' wk, .row A16 c16 82 1 l.length (l.map uV)]) := hS
    have hP1 := hP.lift (ok' := fun b => ∃ it ∈ [It.keep ok' wk, .row A16 c16 82 1 l.length (l.map uV)], it.fp b) fun h => (hS.keepRd (i := 1) rfl h).weaken (keep_mem (x := .keep ok' wk) (.head _))
    have hP2 := hP1.snoc (x := (A16, l.length, c16)) (l := l) (hS.rowRd (i := 2) rfl (keep_mem (.tail _ (.head _)))) rfl hr.2.2.1 hr.2.2.2
    rw [← htake] at hP2
    refine ⟨i + 1, S' ++ [(A16, l.length, c16)], A18, c18, _, _, ha.sub ⟨rfl, rfl, rfl, trivial⟩, by omega, by omega, hP2, ?_⟩
    rw [List.map_append]
    exact hS.keepRest
  · try simp only [decide_eq_true_eq, decide_eq_false_iff_not, Bool.not_eq_true', Bool.not_eq_false', Int.not_lt, Int.not_le, Nat.not_lt, Nat.not_le, Bool.true_eq, Bool.false_eq, reduceCtorEq] at c8
    refine gc_exit ?_
    refine hK3 _ _ ?_
    clear hK3; try clear K3
    refine gc_seq fun K8 hK8 => ?_
    refine gc_region ?_
    refine gl_op rfl rfl rfl (op_pure hT rfl) ?_
    refine gl_op rfl rfl rfl (op_pure hT rfl) ?_
    refine gl_nil ?_
    refine hK8 _ _ ?_
    clear hK8; try clear K8
    refine gc_ret ?_
    try simp only [x_then_ret, x_block_ret]
    refine gk_ret1 rfl rfl ?_
    have hie : i = ls.length := by omega
    subst hie
    rw [List.take_length] at hP
    have hS : St w.heap.size w _ ([] ++ [It.row AL cL 29 1 ls.length (S'.map svV), .keep ok' wk]) := hS
    have hP1 := hP.lift (ok' := fun b => ∃ it ∈ [It.row AL cL 29 1 ls.length (S'.map svV), .keep ok' wk], it.fp b) fun h => (hS.keepRd (i := 1) rfl h).weaken (keep_mem (x := .keep ok' wk) (.tail _ (.head _)))
    exact ⟨AL, cL, S', _, rfl, hS.keepRest, ⟨rdE_of (hS.rowRd (i := 0) rfl (keep_mem (.head _))) hP.1, hP.1, hP1.2⟩⟩
theorem listsStand_calls (A : Option Addr) (n c : Nat) (S : List Sv) (mk : Sv) (B : Option Addr) (n2 c2 : Nat) (S2 : List Sv) (ls : List (List Nat)) (w : World) {ok ok2 : Nat → Prop} (hA : LdM w ok A c S ls mk) (hn : n = ls.length) (hB : LsU w ok2 B S2 ls) (hn2 : n2 = ls.length) (hl : ls.length ≤ 1048576) (hll : ∀ l ∈ ls, l.length ≤ 1048576) :
    Calls Tryd.prog 31 ⟨[.slice A n c, .slice B n2 c2]⟩ w fun e w' => e = .returned (.bool true) ∧ Below w.heap.size w w' := by
  subst hn
  subst hn2
  have hSl := hA.len
  have hSl2 := hB.len
  have hcp := hA.cp
  obtain ⟨ad, hAd, _, hcell⟩ := hA.rS.2 (by omega)
  obtain ⟨mA, mn, mc⟩ := mk
  have hnm : mn = 1 := hA.nm
  subst hnm
  obtain ⟨adm, hAm, _, hcellm⟩ := hA.rm.2 (by omega)
  have hAm : mA = some adm := hAm
  have hc1 : w.cell? (ad.add ls.length) = some (svV (mA, 1, mc)) := hcell _ _ (by rw [List.getElem?_append_right (by rw [List.length_map]; omega), List.length_map, hSl, Nat.sub_self]; rfl)
  have hcm : w.cell? (adm.add 0) = some m31 := hcellm 0 _ rfl
  have hcl : ∀ (i : Nat) (x : Sv), S[i]? = some x → w.cell? (ad.add i) = some (svV x) := fun i u h => hcell _ _ (by rw [List.getElem?_append_left (by rw [List.length_map]; exact (List.getElem?_eq_some_iff.1 h).1), List.getElem?_map, h]; rfl)
  refine gc_enter (N := 51) Tryd.func31 rfl rfl rfl [(0, _), (1, _)] rfl ?_
  have hS := St.start w
  refine gc_seq fun K1 hK1 => ?_
  refine gc_region ?_
  refine gl_op rfl rfl rfl (op_pure hT rfl) ?_
  refine gl_nil ?_
  refine hK1 _ _ ?_
  clear hK1; try clear K1
  refine gc_seq fun K2 hK2 => ?_
  refine gc_region ?_
  refine gl_op rfl rfl rfl (op_pure hT rfl) ?_
  refine gl_op rfl rfl rfl (op_pure hT rfl) ?_
  refine gl_op rfl rfl rfl (op_pure hT rfl) ?_
  refine gl_nil ?_
  refine hK2 _ _ ?_
  clear hK2; try clear K2
  refine gc_seq fun K3 hK3 => ?_
  refine gc_seq fun K4 hK4 => ?_
  refine gc_region ?_
  refine gl_op rfl rfl rfl (op_pure hT rfl) ?_
  refine gl_op rfl rfl rfl (op_pure hT rfl) ?_
  refine gl_op rfl rfl rfl (op_pure hT rfl) ?_
  refine gl_op rfl rfl rfl (op_pure hT rfl) ?_
  refine gl_spell 12 (v := .bool false) rfl (by simp) ?_
  refine gl_op rfl rfl rfl (op_pure hT rfl) ?_
  refine gl_un rfl rfl rfl rfl ?_
  refine gl_op rfl rfl rfl (op_pure hT rfl) ?_
  refine gl_un rfl rfl rfl rfl ?_
  refine gl_op rfl rfl rfl (op_pure hT rfl) ?_
  refine gl_un rfl rfl rfl rfl ?_
  first | refine gl_fit hT rfl rfl rfl rfl (by omega) ?_ | refine gl_op rfl rfl rfl (op_pure hT rfl) ?_
  refine gl_un rfl rfl rfl rfl ?_
  refine gl_op rfl rfl rfl (op_slice_h hT el24 rfl rfl rfl rfl (by first | omega | (simp; omega)) (by first | omega | (simp; omega))) ?_
  refine gl_un rfl rfl rfl rfl ?_
  refine gl_op rfl rfl rfl (op_pure hT rfl) ?_
  refine gl_un rfl rfl rfl rfl ?_
  refine gl_op rfl rfl rfl (op_indexAddr hT rfl rfl el24.cellsOf.1 el24.cellsOf.2 rfl rfl (by omega) (by omega) hAd) ?_
  refine gl_spell 19 (v := .pointer (some (ad.add ls.length))) rfl (by rw [Int.toNat_natCast, Nat.mul_one]) ?_
  refine gl_un rfl rfl rfl rfl ?_
  refine gl_op rfl rfl rfl (op_load hT rfl rfl rfl rfl (cellOf hS.below hc1)) ?_
  refine gl_un rfl rfl rfl rfl ?_
  refine gl_op rfl rfl rfl (op_pure hT rfl) ?_
  refine gl_un rfl rfl rfl rfl ?_
  refine gl_op rfl rfl rfl (op_pure hT rfl) ?_
  refine gl_op rfl rfl rfl (op_pure hT rfl) ?_
  refine gl_op rfl rfl rfl (op_pure hT rfl) ?_
  refine gl_un rfl rfl rfl rfl ?_
  refine gl_op rfl rfl rfl (op_pure hT rfl) ?_
  refine gl_un rfl rfl rfl rfl ?_
  refine gl_op rfl rfl rfl (op_pure hT rfl) ?_
  refine gl_un rfl rfl rfl rfl ?_
  first | refine gl_fit hT rfl rfl rfl rfl (by omega) ?_ | refine gl_op rfl rfl rfl (op_pure hT rfl) ?_
  refine gl_un rfl rfl rfl rfl ?_
  refine gl_op rfl rfl rfl (op_slice_h hT el24 rfl rfl rfl rfl (by first | omega | (simp; omega)) (by first | omega | (simp; omega))) ?_
  refine gl_un rfl rfl rfl rfl ?_
  refine gl_op rfl rfl rfl (op_pure hT rfl) ?_
  refine gl_un rfl rfl rfl rfl ?_
  refine gl_op rfl rfl rfl (op_indexAddr hT rfl rfl el24.cellsOf.1 el24.cellsOf.2 rfl rfl (by omega) (by omega) hAd) ?_
  refine gl_spell 30 (v := .pointer (some (ad.add ls.length))) rfl (by rw [Int.toNat_natCast, Nat.mul_one]) ?_
  refine gl_un rfl rfl rfl rfl ?_
  refine gl_op rfl rfl rfl (op_load hT rfl rfl rfl rfl (cellOf hS.below hc1)) ?_
  refine gl_un rfl rfl rfl rfl ?_
  refine gl_op rfl rfl rfl (op_indexAddr hT rfl rfl el46.cellsOf.1 el46.cellsOf.2 rfl rfl (by decide) (show (0 : Int) < ((1 : Nat) : Int) by decide) hAm) ?_
  refine gl_un rfl rfl rfl rfl ?_
  refine gl_op rfl rfl rfl (op_load hT rfl rfl rfl rfl (cellOf hS.below hcm)) ?_
  refine gl_un rfl rfl rfl rfl ?_
  refine gl_op rfl rfl rfl (op_fcmp rfl rfl rfl rfl) ?_
  refine gl_op rfl rfl rfl (op_pure hT rfl) ?_
  refine gl_nil ?_
  refine hK4 _ _ ?_
  clear hK4; try clear K4
  refine gc_cond_f rfl ?_
  refine gc_skip ?_
  refine hK3 _ _ ?_
  clear hK3; try clear K3
  refine gc_seq fun K5 hK5 => ?_
  refine gc_seq fun K6 hK6 => ?_
  refine gc_region ?_
  refine gl_op rfl rfl rfl (op_pure hT rfl) ?_
  refine gl_nil ?_
  refine hK6 _ _ ?_
  clear hK6; try clear K6
  refine gc_block ?_
  refine gc_loop (fun k a w' => ∃ i : Nat, Fr 51 a [(0, .slice A ls.length c), (1, .slice B ls.length c2), (5, .int .i64 (ls.length : Nat)), (6, .int .i64 (i : Nat))] ∧ i ≤ ls.length ∧ k = ls.length + 1 - i ∧ St w.heap.size w w' []) (ls.length + 1) ?_ ?_ ?_
  · intro a ha; exact ⟨0, ha.sub ⟨rfl, rfl, rfl, rfl, trivial⟩, by omega, by omega, hS⟩
  · rintro a w ⟨i, _, h1, h2, _⟩; omega
  rintro k a w1 ⟨i, hF, hi, hk, hS⟩
  refine gc_of hF ?_
  clear hF
  refine gc_seq fun K7 hK7 => ?_
  refine gc_seq fun K8 hK8 => ?_
  refine gc_region ?_
  refine gl_op rfl rfl rfl (op_pure hT rfl) ?_
  refine gl_op rfl rfl rfl (op_pure hT rfl) ?_
  refine gl_op rfl rfl rfl (op_pure hT rfl) ?_
  refine gl_nil ?_
  refine hK8 _ _ ?_
  clear hK8; try clear K8
  refine gc_cond rfl rfl (fun c38 => ?_) (fun c38 => ?_)
  · try simp only [decide_eq_true_eq, decide_eq_false_iff_not, Bool.not_eq_true', Bool.not_eq_false', Int.not_lt, Int.not_le, Nat.not_lt, Nat.not_le, Bool.true_eq, Bool.false_eq, reduceCtorEq] at c38
    refine gc_skip ?_
    refine hK7 _ _ ?_
    clear hK7; try clear K7
    refine gc_seq fun K9 hK9 => ?_
    refine gc_block ?_
    refine gc_seq fun K10 hK10 => ?_
    refine gc_anyS hS (by kernel_rfl) rfl fun nq7 hK => ?_
    have hS := hS.dr nq7
    have hil : i < ls.length := by omega
    obtain ⟨l, hu⟩ : ∃ l, ls[i]? = some l := ⟨_, List.getElem?_eq_getElem hil⟩
    have hlm := hll l (List.mem_of_getElem? hu)
    obtain ⟨x, hx⟩ : ∃ x, S[i]? = some x := ⟨_, List.getElem?_eq_getElem (by omega)⟩
    obtain ⟨y, hy⟩ : ∃ y, S2[i]? = some y := ⟨_, List.getElem?_eq_getElem (by omega)⟩
    have hyg : S2.getD ((i : Int)).toNat (none, 0, 0) = y := by rw [Int.toNat_natCast, List.getD_eq_getElem?_getD, hy]; rfl
    obtain ⟨adB, hAB, hcB⟩ := hB.rS.at (none, 0, 0) (i := (i : Int)) (by omega) (by omega)
    rw [hyg] at hcB
    have hrx := hA.rd i x l hx hu
    have hry := hB.rd i y l hy hu
    refine ga_take 0 rfl rfl rfl rfl (by kernel_rfl) (fun _ _ _ _ _ h => h) hK (fun w1 hS => op_pure hT rfl) ?_
    refine ga_take 1 rfl rfl rfl rfl (by kernel_rfl) (fun _ _ _ _ _ h => h) hK (fun w1 hS => op_pure hT rfl) ?_
    refine ga_take 2 rfl rfl rfl rfl (by kernel_rfl) (fun _ _ _ _ _ h => h) hK (fun w1 hS => op_indexAddr hT rfl rfl el24.cellsOf.1 el24.cellsOf.2 rfl rfl (by omega) (by omega) hAd) ?_
    refine ga_spell 43 (v := .pointer (some (ad.add i))) rfl (by rw [Int.toNat_natCast, Nat.mul_one]) ?_
    refine ga_take 3 rfl rfl rfl rfl (by kernel_rfl) (fun _ _ _ _ _ h => h) hK (fun w1 hS => op_load hT rfl rfl rfl rfl (cellOf hS.below (hcl i x hx))) ?_
    refine ga_take 4 rfl rfl rfl rfl (by kernel_rfl) (fun _ _ _ _ _ h => h) hK (fun w1 hS => op_pure hT rfl) ?_
    refine ga_take 5 rfl rfl rfl rfl (by kernel_rfl) (fun _ _ _ _ _ h => h) hK (fun w1 hS => op_pure hT rfl) ?_
    refine ga_take 6 rfl rfl rfl rfl (by kernel_rfl) (fun _ _ _ _ _ h => h) hK (fun w1 hS => op_indexAddr hT rfl rfl el29.cellsOf.1 el29.cellsOf.2 rfl rfl (by omega) (by omega) hAB) ?_
    refine ga_take 7 rfl rfl rfl rfl (by kernel_rfl) (fun _ _ _ _ _ h => h) hK (fun w1 hS => op_load hT rfl rfl rfl rfl (cellOf hS.below hcB)) ?_
    refine ga_one 8 (by kernel_rfl) rfl ?_
    refine gl_callf rfl rfl rfl rfl Tryd.func30 rfl rfl rfl (stand_calls _ _ _ _ _ _ l _ (hrx.1.old (by decide) hS) hrx.2.1 hrx.2.2 (hry.1.old hS) hry.2.1 hlm) ?_
    rintro _ w49 ⟨rfl, hb49⟩
    refine ⟨_, rfl, ?_⟩
    have hS := hS.grown hb49
    refine gl_nil ?_
    refine ga_next (hS.pre 0) fun hK => ?_
    refine ga_take 9 rfl rfl rfl rfl (by kernel_rfl) (fun _ _ _ _ _ h => h) hK (fun w1 hS => op_pure hT rfl) ?_
    refine ga_done (by kernel_rfl) ?_
    refine hK10 _ _ ?_
    clear hK10; try clear K10
    refine gc_cond_f rfl ?_
    refine gc_skip ?_
    refine hK9 _ _ ?_
    clear hK9; try clear K9
    refine gc_region ?_
    refine gl_op rfl rfl rfl (op_pure hT rfl) ?_
    first | refine gl_fit hT rfl rfl rfl rfl (by omega) ?_ | refine gl_op rfl rfl rfl (op_pure hT rfl) ?_
    refine gl_op rfl rfl rfl (op_pure hT rfl) ?_
    refine gl_nil ?_
    intro a ha
    exact ⟨i + 1, ha.sub ⟨rfl, rfl, rfl, rfl, trivial⟩, by omega, by omega, hS⟩
  · try simp only [decide_eq_true_eq, decide_eq_false_iff_not, Bool.not_eq_true', Bool.not_eq_false', Int.not_lt, Int.not_le, Nat.not_lt, Nat.not_le, Bool.true_eq, Bool.false_eq, reduceCtorEq] at c38
    refine gc_exit ?_
    refine hK5 _ _ ?_
    clear hK5; try clear K5
    refine gc_seq fun K11 hK11 => ?_
    refine gc_region ?_
    refine gl_op rfl rfl rfl (op_pure hT rfl) ?_
    refine gl_nil ?_
    refine hK11 _ _ ?_
    clear hK11; try clear K11
    refine gc_ret ?_
    try simp only [x_then_ret, x_block_ret]
    refine gk_ret1 rfl rfl ?_
    exact ⟨rfl, hS.below⟩
end Go.Proofs.YtkfhablonnjgeaaDoor
