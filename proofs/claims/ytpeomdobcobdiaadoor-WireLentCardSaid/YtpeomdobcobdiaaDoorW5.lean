/- Contracts of the check sum. No condition. -/
import Derived.Test.YtpeomdobcobdiaaDoorW4
import Derived.Test.YtpeomdobcobdiaaDoorCrc
import Derived.Test.YtpeomdobcobdiaaDoorLibF
namespace Go.Proofs.YtpeomdobcobdiaaDoor
open Go.RowKit
set_option linter.unusedVariables false
set_option linter.unusedSimpArgs false
/-- A slice, and its value. -/
abbrev Sl := Option Addr × Nat × Nat
def sV (x : Sl) : Value := .slice x.1 x.2.1 x.2.2
def sl0 : Sl := (none, 0, 0)
def iV (n : Int) : Value := .int .i64 n
/-- These slices hold these bytes. -/
def Parts (w : World) (S : List Sl) (L : List (List UInt8)) : Prop :=
  S.length = L.length ∧ ∀ i, i < S.length → (S.getD i sl0).2.1 = (L.getD i []).length ∧ (L.getD i []).length ≤ 4611686018427387904 ∧ RdE w All uB (S.getD i sl0).1 (L.getD i [])
theorem Rd.all {w : World} {ok : Nat → Prop} {A : Option Addr} {n sz : Nat} {cs : List Value} (h : Rd w ok A n sz cs) : Rd w All A n sz cs := ⟨h.1, fun hn => let ⟨a, h1, _, h3⟩ := h.2 hn; ⟨a, h1, trivial, h3⟩⟩
theorem RdE.all {α : Type} {w : World} {ok : Nat → Prop} {enc : α → Value} {A : Option Addr} {l : List α} (h : RdE w ok enc A l) : RdE w All enc A l := Rd.all h
theorem Parts.old {w w0 : World} {L : List It} {S : List Sl} {D : List (List UInt8)} (h : Parts w0 S D) (hS : St w0.heap.size w0 w L) : Parts w S D :=
  ⟨h.1, fun i hi => ⟨(h.2 i hi).1, (h.2 i hi).2.1, (h.2 i hi).2.2.old hS⟩⟩
theorem Parts.one {w : World} {A : Option Addr} {c : Nat} {l : List UInt8} {ok : Nat → Prop} (h : RdE w ok uB A l) (hb : l.length ≤ 4611686018427387904) : Parts w [(A, l.length, c)] [l] :=
  ⟨rfl, fun i hi => by obtain rfl : i = 0 := by simpa using hi
                       exact ⟨rfl, hb, h.all⟩⟩
theorem Parts.nil {w : World} : Parts w [] [] := ⟨rfl, fun i hi => absurd hi (Nat.not_lt_zero i)⟩
theorem Parts.cons {w : World} {A : Option Addr} {c : Nat} {l : List UInt8} {ok : Nat → Prop} {S : List Sl} {D : List (List UInt8)} (h : RdE w ok uB A l) (hb : l.length ≤ 4611686018427387904) (hp : Parts w S D) : Parts w ((A, l.length, c) :: S) (l :: D) := by
  refine ⟨by simp [hp.1], fun i hi => ?_⟩
  cases i with
  | zero => exact ⟨rfl, hb, h.all⟩
  | succ i => exact hp.2 i (by simpa using hi)
theorem flat_drop (L : List (List UInt8)) (i : Nat) (h : i < L.length) : (L.drop i).flatten = L.getD i [] ++ (L.drop (i + 1)).flatten := by
  rw [List.drop_eq_getElem_cons h, List.flatten_cons, List.getD_eq_getElem?_getD, List.getElem?_eq_getElem h]; rfl
theorem drop_at (l : List UInt8) (j : Nat) (h : j < l.length) : l.drop j = l.getD j 0 :: l.drop (j + 1) := by
  rw [List.drop_eq_getElem_cons h]; simp [List.getD_eq_getElem?_getD, h]
def halfV : List Value := half.map fun (n : Nat) => Value.int .u32 (n : Int)
theorem halfV_get (i : Nat) (h : i < 16) : halfV.getD i default = .int .u32 (half.getD i 0 : Nat) := by
  have hl : half.length = 16 := rfl
  unfold halfV
  rw [List.getD_eq_getElem?_getD, List.getElem?_map, List.getElem?_eq_getElem (by omega), List.getD_eq_getElem?_getD, List.getElem?_eq_getElem (by omega)]
  rfl
theorem Sum_calls (A : Option Addr) (c : Nat) (S : List Sl) (D : List (List UInt8)) (w : World) {ok : Nat → Prop} (h1 : RdE w ok sV A S) (hp : Parts w S D) (hb : S.length ≤ 4611686018427387904) :
    Calls Tryd.prog 23 ⟨[.slice A S.length c]⟩ w fun e w' => e = .returned (.int .u32 (crcV D.flatten)) ∧ Below w.heap.size w w' := by
  refine gc_enter (N := 44) Tryd.func23 rfl rfl rfl [(0, _)] rfl ?_
  have hS := St.start w
  refine gc_seq fun K1 hK1 => ?_
  refine gc_region ?_
  refine gl_op rfl rfl rfl (op_pure hT rfl) ?_
  refine gl_nil ?_
  refine hK1 _ _ ?_
  clear hK1; try clear K1
  refine gc_seq fun K2 hK2 => ?_
  refine gc_region ?_
  refine gl_op rfl rfl rfl (op_buildA hT rfl rfl el95 el37 rfl rfl rfl) ?_
  refine gl_alloc el95 hS rfl rfl rfl rfl fun g3 w3 hS => ?_
  refine gl_storeA 0 hS el95 rfl rfl rfl rfl rfl rfl rfl rfl rfl fun wwire_go_128 hS => ?_
  refine gl_nil ?_
  refine hK2 _ _ ?_
  clear hK2; try clear K2
  refine gc_seq fun K3 hK3 => ?_
  refine gc_region ?_
  refine gl_op rfl rfl rfl (op_pure hT rfl) ?_
  refine gl_nil ?_
  refine hK3 _ _ ?_
  clear hK3; try clear K3
  refine gc_seq fun K4 hK4 => ?_
  refine gc_seq fun K5 hK5 => ?_
  refine gc_region ?_
  refine gl_op rfl rfl rfl (op_pure hT rfl) ?_
  refine gl_op rfl rfl rfl (op_pure hT rfl) ?_
  refine gl_op rfl rfl rfl (op_pure hT rfl) ?_
  refine gl_nil ?_
  refine hK5 _ _ ?_
  clear hK5; try clear K5
  refine gc_block ?_
  have hD := hp.1
  refine gc_loop (fun k a w' => ∃ (i r g : Nat), Fr 44 a [(0, .slice A S.length c), (3, .pointer (some ⟨g, 0, none⟩)), (4, .int .u32 r), (10, .slice A S.length c), (11, .int .i64 S.length), (12, .int .i64 i)] ∧ i ≤ S.length ∧ k = S.length - i + 1 ∧ r < 4294967296 ∧ crcGo r (D.drop i).flatten = crcGo 4294967295 D.flatten ∧
    St w.heap.size w w' [.blk g 95 halfV]) (S.length + 1) ?_ ?_ ?_
  · intro a ha; exact ⟨0, 4294967295, _, ha.sub ⟨rfl, rfl, rfl, rfl, rfl, rfl, trivial⟩, by omega, by omega, by decide, rfl, hS⟩
  · rintro a w ⟨i, r, g, _, h1, h2, _⟩; omega
  rintro k a w1 ⟨i, r, g, hF, hi, hk, hr, hg, hS⟩
  refine gc_of hF ?_
  refine gc_seq fun K6 hK6 => ?_
  refine gc_region ?_
  refine gl_op rfl rfl rfl (op_pure hT rfl) ?_
  refine gl_nil ?_
  refine hK6 _ _ ?_
  clear hK6; try clear K6
  refine gc_seq fun K7 hK7 => ?_
  refine gc_cond rfl rfl (fun c13 => ?_) (fun c13 => ?_)
  · try simp only [decide_eq_true_eq, decide_eq_false_iff_not, Bool.not_eq_true', Bool.not_eq_false', Int.not_lt, Int.not_le, Nat.not_lt, Nat.not_le, Bool.true_eq, Bool.false_eq, reduceCtorEq] at c13
    refine gc_skip ?_
    refine hK7 _ _ ?_
    clear hK7; try clear K7
    refine gc_seq fun K8 hK8 => ?_
    refine gc_block ?_
    refine gc_seq fun K9 hK9 => ?_
    refine gc_region ?_
    refine gl_ix sl0 hT (h1.old hS) rfl rfl rfl rfl rfl el22.cellsOf.1 el22.cellsOf.2 rfl (by simp) rfl (by omega) (by first | omega | (simp; omega)) fun p14 hp14 => ?_
    have hpi := hp.2 i (by omega)
    have hst : (S.getD ((i : Int)).toNat sl0) = S.getD i sl0 := by simp
    rw [hst] at hp14
    refine gl_op rfl rfl rfl (op_load hT rfl rfl rfl rfl hp14) ?_
    refine gl_op rfl rfl rfl (op_pure hT rfl) ?_
    refine gl_nil ?_
    refine hK9 _ _ ?_
    clear hK9; try clear K9
    refine gc_seq fun K10 hK10 => ?_
    refine gc_region ?_
    refine gl_op rfl rfl rfl (op_pure hT rfl) ?_
    refine gl_op rfl rfl rfl (op_pure hT rfl) ?_
    refine gl_op rfl rfl rfl (op_pure hT rfl) ?_
    refine gl_nil ?_
    refine hK10 _ _ ?_
    clear hK10; try clear K10
    refine gc_block ?_
    have hln := hpi.2.1
    refine gc_loop (fun k a w' => ∃ (j q : Nat), Fr 44 a [(0, .slice A S.length c), (3, .pointer (some ⟨g, 0, none⟩)), (4, .int .u32 q), (10, .slice A S.length c), (11, .int .i64 S.length), (12, .int .i64 i), (16, .slice (S.getD i sl0).1 (D.getD i []).length (S.getD i sl0).2.2), (17, .int .i64 ((D.getD i []).length : Nat)), (18, .int .i64 j)] ∧ j ≤ (D.getD i []).length ∧ k = (D.getD i []).length - j + 1 ∧ q < 4294967296 ∧ crcGo q ((D.getD i []).drop j) = crcGo r (D.getD i []) ∧
      St w.heap.size w w' [.blk g 95 halfV]) ((D.getD i []).length + 1) ?_ ?_ ?_
    · intro a ha; exact ⟨0, r, ha.sub ⟨rfl, rfl, rfl, rfl, rfl, rfl, by rw [← hpi.1]; rfl, by rw [← hpi.1]; rfl, rfl, trivial⟩, by omega, by omega, hr, rfl, hS⟩
    · rintro a w ⟨j, q, _, h1, h2, _⟩; omega
    rintro k2 a w2 ⟨j, q, hF, hj, hk2, hq, hgq, hS⟩
    refine gc_of hF ?_
    refine gc_seq fun K11 hK11 => ?_
    refine gc_region ?_
    refine gl_op rfl rfl rfl (op_pure hT rfl) ?_
    refine gl_nil ?_
    refine hK11 _ _ ?_
    clear hK11; try clear K11
    refine gc_seq fun K12 hK12 => ?_
    refine gc_cond rfl rfl (fun c19 => ?_) (fun c19 => ?_)
    · try simp only [decide_eq_true_eq, decide_eq_false_iff_not, Bool.not_eq_true', Bool.not_eq_false', Int.not_lt, Int.not_le, Nat.not_lt, Nat.not_le, Bool.true_eq, Bool.false_eq, reduceCtorEq] at c19
      refine gc_skip ?_
      refine hK12 _ _ ?_
      clear hK12; try clear K12
      refine gc_seq fun K13 hK13 => ?_
      refine gc_block ?_
      refine gc_seq fun K14 hK14 => ?_
      refine gc_region ?_
      refine gl_ix (0 : UInt8) hT (hpi.2.2.old hS) rfl rfl rfl rfl rfl el5.cellsOf.1 el5.cellsOf.2 rfl (by simp) rfl (by omega) (by first | omega | (simp; omega)) fun p20 hp20 => ?_
      refine gl_op rfl rfl rfl (op_load hT rfl rfl rfl rfl hp20) ?_
      have hx : ((j : Int)).toNat = j := by omega
      have hx8 := u8_range ((D.getD i []).getD j 0)
      have hq1 : q ^^^ ((D.getD i []).getD j 0).toNat < 4294967296 := xor_lt32 hq (by omega)
      have hq2 : stps 4 (q ^^^ ((D.getD i []).getD j 0).toNat) < 4294967296 := stps_lt 4 hq1
      refine gl_op rfl rfl rfl (op_pure hT rfl) ?_
      refine gl_nil ?_
      refine hK14 _ _ ?_
      clear hK14; try clear K14
      refine gc_seq fun K15 hK15 => ?_
      refine gc_region ?_
      refine gl_op rfl rfl rfl (op_pure hT rfl) ?_
      refine gl_op rfl rfl rfl (op_pure hT rfl) ?_
      refine gl_op rfl rfl rfl (op_pure hT rfl) ?_
      refine gl_op rfl rfl rfl (op_pure hT rfl) ?_
      refine gl_spell 25 (v := .int .u32 ((q ^^^ ((D.getD i []).getD j 0).toNat : Nat) : Int)) rfl ?_ ?_
      · rw [hx, IntKind.wrap_u32, Int.emod_eq_of_lt hx8.1 (by omega), u32_xor _ _ hq (by omega)]
      refine gl_op rfl rfl rfl (op_pure hT rfl) ?_
      refine gl_nil ?_
      refine hK15 _ _ ?_
      clear hK15; try clear K15
      refine gc_seq fun K16 hK16 => ?_
      refine gc_region ?_
      refine gl_op rfl rfl rfl (op_pure hT rfl) ?_
      refine gl_op rfl rfl rfl (op_pure hT rfl) ?_
      refine gl_op rfl rfl rfl (op_pure hT rfl) ?_
      refine gl_op rfl rfl rfl (op_pure hT rfl) ?_
      refine gl_spell 29 (v := .int .u32 (((q ^^^ ((D.getD i []).getD j 0).toNat) % 16 : Nat) : Int)) rfl (by rw [u32_and15 _ hq1]) ?_
      refine gl_ixB 0 (default) hT hS rfl rfl rfl rfl rfl el37.cellsOf.1 el37.cellsOf.2 rfl rfl rfl (by omega) (by omega) rfl fun hp30 => ?_
      rw [Int.toNat_natCast, halfV_get _ (Nat.mod_lt _ (by decide))] at hp30
      refine gl_op rfl rfl rfl (op_load hT rfl rfl rfl rfl hp30) ?_
      refine gl_op rfl rfl rfl (op_pure hT rfl) ?_
      refine gl_spell 32 (v := .int .u32 (stps 4 (q ^^^ ((D.getD i []).getD j 0).toNat) : Nat)) rfl ?_ ?_
      · rw [stps4]
        have e16 : ∀ x : Nat, (x : Int) / 2 ^ 4 = ((x / 16 : Nat) : Int) := by intro x; omega
        show Value.int .u32 (bits .xor .u32 (((q ^^^ ((D.getD i []).getD j 0).toNat : Nat) : Int) / 2 ^ 4) _) = _
        rw [e16, u32_xor _ _ (by omega) (half_lt ⟨_, Nat.mod_lt _ (by decide)⟩)]
      refine gl_op rfl rfl rfl (op_pure hT rfl) ?_
      refine gl_nil ?_
      refine hK16 _ _ ?_
      clear hK16; try clear K16
      refine gc_region ?_
      refine gl_op rfl rfl rfl (op_pure hT rfl) ?_
      refine gl_op rfl rfl rfl (op_pure hT rfl) ?_
      refine gl_op rfl rfl rfl (op_pure hT rfl) ?_
      refine gl_op rfl rfl rfl (op_pure hT rfl) ?_
      refine gl_spell 36 (v := .int .u32 ((stps 4 (q ^^^ ((D.getD i []).getD j 0).toNat) % 16 : Nat) : Int)) rfl (by rw [u32_and15 _ hq2]) ?_
      refine gl_ixB 0 (default) hT hS rfl rfl rfl rfl rfl el37.cellsOf.1 el37.cellsOf.2 rfl rfl rfl (by omega) (by omega) rfl fun hp37 => ?_
      rw [Int.toNat_natCast, halfV_get _ (Nat.mod_lt _ (by decide))] at hp37
      refine gl_op rfl rfl rfl (op_load hT rfl rfl rfl rfl hp37) ?_
      refine gl_op rfl rfl rfl (op_pure hT rfl) ?_
      refine gl_spell 39 (v := .int .u32 (byt q ((D.getD i []).getD j 0) : Nat)) rfl ?_ ?_
      · rw [byt_half]
        generalize stps 4 (q ^^^ ((D.getD i []).getD j 0).toNat) = y at hq2
        rw [stps4]
        have e16 : ∀ x : Nat, (x : Int) / 2 ^ 4 = ((x / 16 : Nat) : Int) := by intro x; omega
        show Value.int .u32 (bits .xor .u32 ((y : Int) / 2 ^ 4) _) = _
        rw [e16, u32_xor _ _ (by omega) (half_lt ⟨_, Nat.mod_lt _ (by decide)⟩)]
      refine gl_op rfl rfl rfl (op_pure hT rfl) ?_
      refine gl_nil ?_
      refine hK13 _ _ ?_
      clear hK13; try clear K13
      refine gc_region ?_
      first | refine gl_fit hT rfl rfl rfl rfl (by omega) ?_ | refine gl_op rfl rfl rfl (op_pure hT rfl) ?_
      refine gl_op rfl rfl rfl (op_pure hT rfl) ?_
      refine gl_nil ?_
      intro a ha
      refine ⟨j + 1, _, ha.sub ⟨rfl, rfl, rfl, rfl, rfl, rfl, rfl, rfl, rfl, trivial⟩, by omega, by omega, byt_lt hq _, ?_, hS⟩
      rw [← hgq, drop_at _ j (by omega), crcGo_cons]
    · try simp only [decide_eq_true_eq, decide_eq_false_iff_not, Bool.not_eq_true', Bool.not_eq_false', Int.not_lt, Int.not_le, Nat.not_lt, Nat.not_le, Bool.true_eq, Bool.false_eq, reduceCtorEq] at c19
      refine gc_exit ?_
      refine hK8 _ _ ?_
      clear hK8; try clear K8
      refine gc_region ?_
      first | refine gl_fit hT rfl rfl rfl rfl (by omega) ?_ | refine gl_op rfl rfl rfl (op_pure hT rfl) ?_
      refine gl_op rfl rfl rfl (op_pure hT rfl) ?_
      refine gl_nil ?_
      intro a ha
      have hje : j = (D.getD i []).length := by omega
      refine ⟨i + 1, _, _, ha.sub ⟨rfl, rfl, rfl, rfl, rfl, rfl, trivial⟩, by omega, by omega, hq, ?_, hS⟩
      rw [← hg, flat_drop D i (by omega), crcGo_append, ← hgq, hje, List.drop_length, crcGo_nil]
  · try simp only [decide_eq_true_eq, decide_eq_false_iff_not, Bool.not_eq_true', Bool.not_eq_false', Int.not_lt, Int.not_le, Nat.not_lt, Nat.not_le, Bool.true_eq, Bool.false_eq, reduceCtorEq] at c13
    refine gc_exit ?_
    refine hK4 _ _ ?_
    clear hK4; try clear K4
    refine gc_seq fun K17 hK17 => ?_
    refine gc_region ?_
    refine gl_op rfl rfl rfl (op_pure hT rfl) ?_
    refine gl_op rfl rfl rfl (op_pure hT rfl) ?_
    refine gl_op rfl rfl rfl (op_pure hT rfl) ?_
    refine gl_nil ?_
    refine hK17 _ _ ?_
    clear hK17; try clear K17
    refine gc_ret ?_
    try simp only [x_then_ret, x_block_ret]
    refine gk_ret1 rfl rfl ?_
    have hie : i = S.length := by omega
    have hgg : crcGo 4294967295 D.flatten = r := by rw [← hg, hie, hD, List.drop_length]; rfl
    refine ⟨?_, hS.below⟩
    have e1 : bits .xor .u32 (4294967295 : Int) (r : Int) = ((4294967295 - r : Nat) : Int) := by
      have := u32_xor 4294967295 r (by decide) hr
      rw [xor_ones r hr] at this
      exact this
    unfold crcV
    rw [hgg, ← e1]
    rfl
theorem Sum1_calls (A A1 : Option Addr) (c c1 : Nat) (l : List UInt8) (w : World) {ok ok1 : Nat → Prop} (h1 : RdE w ok sV A [(A1, l.length, c1)]) (h2 : RdE w ok1 uB A1 l) (hb : l.length ≤ 4611686018427387904) :
    Calls Tryd.prog 23 ⟨[.slice A 1 c]⟩ w fun e w' => e = .returned (.int .u32 (crcV l)) ∧ Below w.heap.size w w' := by
  have := Sum_calls A c [(A1, l.length, c1)] [l] w h1 (Parts.one h2 hb) (by simp)
  simpa using this
end Go.Proofs.YtpeomdobcobdiaaDoor
