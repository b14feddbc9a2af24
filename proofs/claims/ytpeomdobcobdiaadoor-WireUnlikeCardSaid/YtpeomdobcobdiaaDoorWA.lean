/- The walk of WireAgain. No condition. -/
import Derived.Test.YtpeomdobcobdiaaDoorWL
namespace Go.Proofs.YtpeomdobcobdiaaDoor
open Go.RowKit
set_option linter.unusedVariables false
set_option linter.unusedSimpArgs false
/-- Two numbers beside one another. -/
def RdP (w : World) (A : Option Addr) (l : List (Int × Int)) : Prop := 0 < l.length → ∃ ad, A = some ad ∧ ∀ i, i < l.length → w.cell? (ad.add (i * 2)) = some (.int .i64 (l.getD i (0, 0)).1) ∧ w.cell? ((ad.add (i * 2)).add 1) = some (.int .i64 (l.getD i (0, 0)).2)
theorem RdP.old {w w0 : World} {L : List It} {A : Option Addr} {l : List (Int × Int)} (h : RdP w0 A l) (hS : St w0.heap.size w0 w L) : RdP w A l := by
  intro hl
  obtain ⟨ad, hA, hc⟩ := h hl
  exact ⟨ad, hA, fun i hi => ⟨cellOf hS.below (hc i hi).1, cellOf hS.below (hc i hi).2⟩⟩
theorem SpotN_calls (i n : Int) (hi : -9223372036854775808 ≤ i ∧ i ≤ 9223372036854775807) (hn : 0 < n ∧ n ≤ 4611686018427387904) (w : World) :
    Calls Tryd.prog 26 ⟨[.int .i64 i, .int .i64 n]⟩ w fun e w' => ∃ v, e = .returned v ∧ Below w.heap.size w w' ∧ (Inf.det (.int .i64 (i % n))).holds v w' :=
  (Spot_calls i n hi ⟨by omega, hn.2⟩ w).mono fun e w' ⟨h1, h2⟩ => ⟨_, by rw [h1, if_neg (by omega)], by subst h2; exact ⟨rfl, rfl, rfl, Nat.le_refl _, fun _ _ => rfl⟩, rfl⟩
theorem addr0 (g j : Nat) : (⟨g, 0, none⟩ : Addr).add (j * 1) = ⟨g, j, none⟩ := by
  unfold Addr.add; split <;> simp_all
theorem set_marks (m : List UInt8) (j : Nat) (h : j < m.length) (b : UInt8) : ((m ++ marks).map uB).set j (uB b) = ((m.set j b) ++ marks).map uB := by
  rw [← List.map_set, List.set_append_left _ _ h]
set_option maxRecDepth 100000 in
theorem WireAgain_calls (A : Option Addr) (c : Nat) (l : List UInt8) (at_ : Int) (At : Option Addr) (ct : Nat) (ts : List (Int × Int)) (w : World) (hU : Tabs w) {ok : Nat → Prop} (h1 : RdE w ok uB A l) (hc : l.length ≤ c) (hb : l.length ≤ 140737488355328) (hmin : -9223372036854775808 ≤ at_) (ht : RdP w At ts)
    (hr : ∀ i, -9223372036854775808 ≤ (ts.getD i (0, 0)).1 ∧ (ts.getD i (0, 0)).1 ≤ 9223372036854775807) :
    Calls Tryd.prog 11 ⟨[.slice A l.length c, .int .i64 at_, .slice At ts.length ct]⟩ w fun e w' => e = .returned (.bool true) ∧ Below w.heap.size w w' := by
  refine gc_enter (N := 194) Tryd.func11 rfl rfl rfl [(0, _), (1, _), (2, _)] rfl ?_
  have hS := St.start w
  refine gc_seq fun K1 hK1 => ?_
  refine gc_region ?_
  refine gl_op rfl rfl rfl (op_pure hT rfl) ?_
  refine gl_nil ?_
  refine hK1 _ _ ?_
  clear hK1; try clear K1
  refine gc_seq fun K2 hK2 => ?_
  refine gc_seq fun K3 hK3 => ?_
  refine gc_region ?_
  refine gl_callf rfl rfl rfl rfl Tryd.func15 rfl rfl rfl (told_calls _ hU) ?_
  rintro _ w26 ⟨rfl, hb26⟩
  refine ⟨_, rfl, ?_⟩
  have hS := hS.grown hb26
  refine gl_op rfl rfl rfl (op_pure hT rfl) ?_
  refine gl_nil ?_
  refine hK3 _ _ ?_
  clear hK3; try clear K3
  refine gc_cond_f rfl ?_
  refine gc_skip ?_
  refine hK2 _ _ ?_
  clear hK2; try clear K2
  refine gc_cut (fun a w' => Fr 194 a [(0, .slice A (l.take 4000).length c), (1, .int .i64 at_), (2, .slice At ts.length ct)] ∧ St w.heap.size w w' []) ?_ ?_
  · skip
    refine gc_seq fun K4 hK4 => ?_
    refine gc_region ?_
    refine gl_op rfl rfl rfl (op_pure hT rfl) ?_
    refine gl_op rfl rfl rfl (op_pure hT rfl) ?_
    refine gl_op rfl rfl rfl (op_pure hT rfl) ?_
    refine gl_nil ?_
    refine hK4 _ _ ?_
    clear hK4; try clear K4
    refine gc_cond rfl rfl (fun c30 => ?_) (fun c30 => ?_)
    · try simp only [decide_eq_true_eq, decide_eq_false_iff_not, Bool.not_eq_true', Bool.not_eq_false', Int.not_lt, Int.not_le, Nat.not_lt, Nat.not_le, Bool.true_eq, Bool.false_eq, reduceCtorEq] at c30
      refine gc_region ?_
      refine gl_op rfl rfl rfl (op_pure hT rfl) ?_
      refine gl_op rfl rfl rfl (op_slice_h hT el5 rfl rfl rfl rfl (by first | omega | (simp; omega)) (by first | omega | (simp; omega))) ?_
      refine gl_op rfl rfl rfl (op_pure hT rfl) ?_
      refine gl_nil ?_
      intro a ha
      refine ⟨ha.sub ⟨?_, rfl, rfl, trivial⟩, hS⟩
      first
        | (show some (Value.slice A (4000 : Int).toNat c) = _; rw [List.length_take, Nat.min_eq_left (by omega)]; rfl)
        | (show some (Value.slice A l.length c) = _; rw [List.length_take, Nat.min_eq_right (by omega)])
    · try simp only [decide_eq_true_eq, decide_eq_false_iff_not, Bool.not_eq_true', Bool.not_eq_false', Int.not_lt, Int.not_le, Nat.not_lt, Nat.not_le, Bool.true_eq, Bool.false_eq, reduceCtorEq] at c30
      refine gc_skip ?_
      intro a ha
      refine ⟨ha.sub ⟨?_, rfl, rfl, trivial⟩, hS⟩
      first
        | (show some (Value.slice A (4000 : Int).toNat c) = _; rw [List.length_take, Nat.min_eq_left (by omega)]; rfl)
        | (show some (Value.slice A l.length c) = _; rw [List.length_take, Nat.min_eq_right (by omega)])
  rintro a w1 ⟨hF, hS⟩
  refine gc_of hF ?_
  have h1 := h1.take 4000
  have hlen : (l.take 4000).length ≤ 4000 := by simp; omega
  have hc : (l.take 4000).length ≤ c := by simp; omega
  generalize l.take 4000 = l at h1 hlen hc ⊢
  refine gc_seq fun K5 hK5 => ?_
  refine gc_region ?_
  refine gl_op rfl rfl rfl (op_pure hT rfl) ?_
  refine gl_callf rfl rfl rfl rfl Tryd.func19 rfl rfl rfl (Laid_calls A c l _ (h1.old hS) hc) ?_
  rintro _ w34 ⟨A34, c34, rfl, hr34, hb34⟩
  refine ⟨_, rfl, ?_⟩
  have hS := hS.addRow hb34 hr34; rw [List.take_of_length_le (show l.length ≤ 1048676 by omega)] at hS ⊢
  refine gl_op rfl rfl rfl (op_pure hT rfl) ?_
  refine gl_nil ?_
  refine hK5 _ _ ?_
  clear hK5; try clear K5
  refine gc_seq fun K6 hK6 => ?_
  refine gc_seq fun K7 hK7 => ?_
  refine gc_region ?_
  refine gl_op rfl rfl rfl (op_pure hT rfl) ?_
  refine gl_nil ?_
  refine hK7 _ _ ?_
  clear hK7; try clear K7
  refine gc_block ?_
  refine gc_loop (fun k a w' => ∃ (i : Nat) (m : List UInt8), Fr 194 a [(1, .int .i64 at_), (2, .slice At ts.length ct), (7, .slice A34 m.length c34), (8, .int .i64 i)] ∧ i ≤ 21 ∧ i ≤ ts.length + 1 ∧ k = 22 - i ∧ m.length ≤ 4000 ∧
    St w.heap.size w w' [.row A34 c34 5 1 (m.length + 73) ((m ++ marks).map uB)]) 22 ?_ ?_ ?_
  · intro a ha; exact ⟨0, l, ha.sub ⟨rfl, rfl, rfl, rfl, trivial⟩, by omega, by omega, by omega, hlen, hS⟩
  · rintro a w ⟨i, _, _, h1, h2, h3, _⟩; omega
  rintro k a w1 ⟨i, m, hF, hi, hi2, hk, hml, hS⟩
  refine gc_of hF ?_
  have hcap0 := (hS.cap (i := 0) rfl).1
  refine gc_seq fun K8 hK8 => ?_
  refine gc_seq fun K9 hK9 => ?_
  refine gc_region ?_
  refine gl_op rfl rfl rfl (op_pure hT rfl) ?_
  refine gl_op rfl rfl rfl (op_pure hT rfl) ?_
  refine gl_op rfl rfl rfl (op_pure hT rfl) ?_
  refine gl_op rfl rfl rfl (op_pure hT rfl) ?_
  refine gl_op rfl rfl rfl (op_pure hT rfl) ?_
  refine gl_split (t := 39) rfl (fun c39 => ?_) (fun c39 => ?_)
  · try simp only [decide_eq_true_eq, decide_eq_false_iff_not, Bool.not_eq_true', Bool.not_eq_false', Int.not_lt, Int.not_le, Nat.not_lt, Nat.not_le, Bool.true_eq, Bool.false_eq, reduceCtorEq] at c39
    refine gl_un rfl rfl rfl rfl ?_
    refine gl_op rfl rfl rfl (op_pure hT rfl) ?_
    refine gl_un rfl rfl rfl rfl ?_
    refine gl_op rfl rfl rfl (op_pure hT rfl) ?_
    refine gl_op rfl rfl rfl (op_pure hT rfl) ?_
    refine gl_nil ?_
    refine hK9 _ _ ?_
    clear hK9; try clear K9
    refine gc_cond rfl rfl (fun c42 => ?_) (fun c42 => ?_)
    · try simp only [decide_eq_true_eq, decide_eq_false_iff_not, Bool.not_eq_true', Bool.not_eq_false', Int.not_lt, Int.not_le, Nat.not_lt, Nat.not_le, Bool.true_eq, Bool.false_eq, reduceCtorEq] at c42
      refine gc_skip ?_
      refine hK8 _ _ ?_
      clear hK8; try clear K8
      refine gc_seq fun K10 hK10 => ?_
      refine gc_block ?_
      refine gc_seq fun K11 hK11 => ?_
      refine gc_region ?_
      refine gl_op rfl rfl rfl (op_pure hT rfl) ?_
      refine gl_append0 hT hS el5 (laid_rd 0 hS rfl) (allOne_uB _) rfl rfl rfl rfl rfl rfl rfl (by omega) (by omega) fun A46 c46 w46 hS => ?_
      have hcap1 := (hS.cap (i := 1) rfl).1
      refine gl_op rfl rfl rfl (op_pure hT rfl) ?_
      refine gl_nil ?_
      refine hK11 _ _ ?_
      clear hK11; try clear K11
      refine gc_seq fun K12 hK12 => ?_
      refine gc_region ?_
      refine gl_op rfl rfl rfl (op_pure hT rfl) ?_
      refine gl_op rfl rfl rfl (op_pure hT rfl) ?_
      refine gl_callf rfl rfl rfl rfl Tryd.func20 rfl rfl rfl (ReadUint_calls A34 c34 m at_ _ (laid_rd 0 hS rfl) (by omega)) ?_
      rintro _ _ ⟨rfl, n50, rfl⟩
      refine ⟨_, rfl, ?_⟩
      have hS := hS.dr n50
      refine gl_op rfl rfl rfl (op_pure hT rfl) ?_
      refine gl_op rfl rfl rfl (op_pure hT rfl) ?_
      refine gl_op rfl rfl rfl (op_pure hT rfl) ?_
      refine gl_op rfl rfl rfl (op_pure hT rfl) ?_
      refine gl_op rfl rfl rfl (op_pure hT rfl) ?_
      refine gl_op rfl rfl rfl (op_pure hT rfl) ?_
      refine gl_op rfl rfl rfl (op_pure hT rfl) ?_
      refine gl_nil ?_
      refine hK12 _ _ ?_
      clear hK12; try clear K12
      refine gc_seq fun K13 hK13 => ?_
      refine gc_region ?_
      refine gl_op rfl rfl rfl (op_pure hT rfl) ?_
      refine gl_op rfl rfl rfl (op_pure hT rfl) ?_
      refine gl_callf rfl rfl rfl rfl Tryd.func21 rfl rfl rfl (rReadUint_calls A46 c46 m at_ _ (hS.rdE (i := 1) rfl) (by omega)) ?_
      rintro _ _ ⟨rfl, n57, rfl⟩
      refine ⟨_, rfl, ?_⟩
      have hS := hS.dr n57
      refine gl_op rfl rfl rfl (op_pure hT rfl) ?_
      refine gl_op rfl rfl rfl (op_pure hT rfl) ?_
      refine gl_op rfl rfl rfl (op_pure hT rfl) ?_
      refine gl_op rfl rfl rfl (op_pure hT rfl) ?_
      refine gl_op rfl rfl rfl (op_pure hT rfl) ?_
      refine gl_op rfl rfl rfl (op_pure hT rfl) ?_
      refine gl_op rfl rfl rfl (op_pure hT rfl) ?_
      refine gl_nil ?_
      refine hK13 _ _ ?_
      clear hK13; try clear K13
      refine gc_seq fun K14 hK14 => ?_
      refine gc_region ?_
      refine gl_op rfl rfl rfl (op_pure hT rfl) ?_
      refine gl_op rfl rfl rfl (op_pure hT rfl) ?_
      refine gl_callf rfl rfl rfl rfl Tryd.func31 rfl rfl rfl (ReadText_calls A34 c34 m at_ 5000 _ (laid_rd 0 hS rfl) (by omega) (by omega) (hU.old hS)) ?_
      rintro _ w64 ⟨rfl, hb64⟩
      refine ⟨_, rfl, ?_⟩
      have hS := hS.grown hb64
      refine gl_op rfl rfl rfl (op_pure hT rfl) ?_
      refine gl_op rfl rfl rfl (op_pure hT rfl) ?_
      refine gl_op rfl rfl rfl (op_pure hT rfl) ?_
      refine gl_op rfl rfl rfl (op_pure hT rfl) ?_
      refine gl_op rfl rfl rfl (op_pure hT rfl) ?_
      refine gl_op rfl rfl rfl (op_pure hT rfl) ?_
      refine gl_op rfl rfl rfl (op_pure hT rfl) ?_
      refine gl_nil ?_
      refine hK14 _ _ ?_
      clear hK14; try clear K14
      refine gc_seq fun K15 hK15 => ?_
      refine gc_region ?_
      refine gl_op rfl rfl rfl (op_pure hT rfl) ?_
      refine gl_op rfl rfl rfl (op_pure hT rfl) ?_
      refine gl_callf rfl rfl rfl rfl Tryd.func32 rfl rfl rfl (rReadText_calls A46 c46 m at_ 5000 _ (hS.rdE (i := 1) rfl) (by omega) (by omega)) ?_
      rintro _ w71 ⟨rfl, hb71⟩
      refine ⟨_, rfl, ?_⟩
      have hS := hS.grown hb71
      refine gl_op rfl rfl rfl (op_pure hT rfl) ?_
      refine gl_op rfl rfl rfl (op_pure hT rfl) ?_
      refine gl_op rfl rfl rfl (op_pure hT rfl) ?_
      refine gl_op rfl rfl rfl (op_pure hT rfl) ?_
      refine gl_op rfl rfl rfl (op_pure hT rfl) ?_
      refine gl_op rfl rfl rfl (op_pure hT rfl) ?_
      refine gl_op rfl rfl rfl (op_pure hT rfl) ?_
      refine gl_nil ?_
      refine hK15 _ _ ?_
      clear hK15; try clear K15
      refine gc_seq fun K16 hK16 => ?_
      refine gc_seq fun K17 hK17 => ?_
      refine gc_region ?_
      refine gl_op rfl rfl rfl (op_pure hT rfl) ?_
      refine gl_op rfl rfl rfl (op_pure hT rfl) ?_
      refine gl_op rfl rfl rfl (op_pure hT rfl) ?_
      refine gl_spell 77 (v := .bool false) rfl (by simp) ?_
      refine gl_op rfl rfl rfl (op_pure hT rfl) ?_
      refine gl_un rfl rfl rfl rfl ?_
      refine gl_op rfl rfl rfl (op_pure hT rfl) ?_
      refine gl_un rfl rfl rfl rfl ?_
      refine gl_op rfl rfl rfl (op_pure hT rfl) ?_
      refine gl_un rfl rfl rfl rfl ?_
      refine gl_op rfl rfl rfl (op_pure hT rfl) ?_
      refine gl_spell 81 (v := .bool false) rfl (by simp) ?_
      refine gl_op rfl rfl rfl (op_pure hT rfl) ?_
      refine gl_op rfl rfl rfl (op_pure hT rfl) ?_
      refine gl_un rfl rfl rfl rfl ?_
      refine gl_op rfl rfl rfl (op_pure hT rfl) ?_
      refine gl_un rfl rfl rfl rfl ?_
      refine gl_op rfl rfl rfl (op_pure hT rfl) ?_
      refine gl_un rfl rfl rfl rfl ?_
      refine gl_op rfl rfl rfl (op_pure hT rfl) ?_
      refine gl_spell 86 (v := .bool false) rfl (by simp) ?_
      refine gl_op rfl rfl rfl (op_pure hT rfl) ?_
      refine gl_op rfl rfl rfl (op_pure hT rfl) ?_
      refine gl_un rfl rfl rfl rfl ?_
      refine gl_op rfl rfl rfl (op_pure hT rfl) ?_
      refine gl_un rfl rfl rfl rfl ?_
      refine gl_op rfl rfl rfl (op_pure hT rfl) ?_
      refine gl_un rfl rfl rfl rfl ?_
      refine gl_op rfl rfl rfl (op_pure hT rfl) ?_
      refine gl_spell 91 (v := .bool false) rfl (by simp) ?_
      refine gl_op rfl rfl rfl (op_pure hT rfl) ?_
      refine gl_op rfl rfl rfl (op_pure hT rfl) ?_
      refine gl_un rfl rfl rfl rfl ?_
      refine gl_op rfl rfl rfl (op_pure hT rfl) ?_
      refine gl_un rfl rfl rfl rfl ?_
      refine gl_op rfl rfl rfl (op_pure hT rfl) ?_
      refine gl_un rfl rfl rfl rfl ?_
      refine gl_op rfl rfl rfl (op_pure hT rfl) ?_
      refine gl_spell 96 (v := .bool false) rfl (by simp) ?_
      refine gl_op rfl rfl rfl (op_pure hT rfl) ?_
      refine gl_op rfl rfl rfl (op_pure hT rfl) ?_
      refine gl_un rfl rfl rfl rfl ?_
      refine gl_op rfl rfl rfl (op_pure hT rfl) ?_
      refine gl_un rfl rfl rfl rfl ?_
      refine gl_op rfl rfl rfl (op_pure hT rfl) ?_
      refine gl_un rfl rfl rfl rfl ?_
      refine gl_op rfl rfl rfl (op_pure hT rfl) ?_
      refine gl_spell 101 (v := .bool false) rfl (by simp) ?_
      refine gl_op rfl rfl rfl (op_pure hT rfl) ?_
      refine gl_nil ?_
      refine hK17 _ _ ?_
      clear hK17; try clear K17
      refine gc_cond_f rfl ?_
      refine gc_skip ?_
      refine hK16 _ _ ?_
      clear hK16; try clear K16
      refine gc_seq fun K18 hK18 => ?_
      refine gc_region ?_
      refine gl_op rfl rfl rfl (op_pure hT rfl) ?_
      refine gl_op rfl rfl rfl (op_pure hT rfl) ?_
      refine gl_callf rfl rfl rfl rfl Tryd.func42 rfl rfl rfl (ReadFrame_calls A34 c34 m at_ _ (laid_rd 0 hS rfl) (by omega) (by omega)) ?_
      rintro _ w106 ⟨A106, c106, rfl, hr106, hb106⟩
      refine ⟨_, rfl, ?_⟩
      have hS := hS.addRow hb106 hr106
      refine gl_op rfl rfl rfl (op_pure hT rfl) ?_
      refine gl_op rfl rfl rfl (op_pure hT rfl) ?_
      refine gl_op rfl rfl rfl (op_pure hT rfl) ?_
      refine gl_op rfl rfl rfl (op_pure hT rfl) ?_
      refine gl_op rfl rfl rfl (op_pure hT rfl) ?_
      refine gl_op rfl rfl rfl (op_pure hT rfl) ?_
      refine gl_op rfl rfl rfl (op_pure hT rfl) ?_
      refine gl_nil ?_
      refine hK18 _ _ ?_
      clear hK18; try clear K18
      refine gc_seq fun K19 hK19 => ?_
      refine gc_region ?_
      refine gl_op rfl rfl rfl (op_pure hT rfl) ?_
      refine gl_op rfl rfl rfl (op_pure hT rfl) ?_
      refine gl_callf rfl rfl rfl rfl Tryd.func43 rfl rfl rfl (rReadFrame_calls A46 c46 m at_ _ (hS.rdE (i := 1) rfl) (by omega) (by omega) hmin) ?_
      rintro _ w113 ⟨A113, c113, rfl, hr113, hb113⟩
      refine ⟨_, rfl, ?_⟩
      have hS := hS.addRow hb113 hr113
      refine gl_op rfl rfl rfl (op_pure hT rfl) ?_
      refine gl_op rfl rfl rfl (op_pure hT rfl) ?_
      refine gl_op rfl rfl rfl (op_pure hT rfl) ?_
      refine gl_op rfl rfl rfl (op_pure hT rfl) ?_
      refine gl_op rfl rfl rfl (op_pure hT rfl) ?_
      refine gl_op rfl rfl rfl (op_pure hT rfl) ?_
      refine gl_op rfl rfl rfl (op_pure hT rfl) ?_
      refine gl_nil ?_
      refine hK19 _ _ ?_
      clear hK19; try clear K19
      refine gc_seq fun K20 hK20 => ?_
      refine gc_region ?_
      refine gl_op rfl rfl rfl (op_pure hT rfl) ?_
      refine gl_callf rfl rfl rfl rfl Tryd.func40 rfl rfl rfl (Frame_calls A34 c34 m _ (laid_rd 0 hS rfl) (by omega)) ?_
      rintro _ w119 ⟨A119, c119, rfl, hr119, hb119⟩
      refine ⟨_, rfl, ?_⟩
      have hS := hS.addRow hb119 hr119
      refine gl_op rfl rfl rfl (op_pure hT rfl) ?_
      refine gl_op rfl rfl rfl (op_pure hT rfl) ?_
      refine gl_op rfl rfl rfl (op_pure hT rfl) ?_
      refine gl_op rfl rfl rfl (op_pure hT rfl) ?_
      refine gl_op rfl rfl rfl (op_pure hT rfl) ?_
      refine gl_nil ?_
      refine hK20 _ _ ?_
      clear hK20; try clear K20
      refine gc_seq fun K21 hK21 => ?_
      refine gc_region ?_
      refine gl_op rfl rfl rfl (op_pure hT rfl) ?_
      refine gl_callf rfl rfl rfl rfl Tryd.func41 rfl rfl rfl (rFrame_calls A46 c46 m _ (hS.rdE (i := 1) rfl) (by omega)) ?_
      rintro _ w124 ⟨A124, c124, rfl, hr124, hb124⟩
      refine ⟨_, rfl, ?_⟩
      have hS := hS.addRow hb124 hr124
      refine gl_op rfl rfl rfl (op_pure hT rfl) ?_
      refine gl_op rfl rfl rfl (op_pure hT rfl) ?_
      refine gl_op rfl rfl rfl (op_pure hT rfl) ?_
      refine gl_op rfl rfl rfl (op_pure hT rfl) ?_
      refine gl_op rfl rfl rfl (op_pure hT rfl) ?_
      refine gl_nil ?_
      refine hK21 _ _ ?_
      clear hK21; try clear K21
      refine gc_seq fun K22 hK22 => ?_
      refine gc_seq fun K23 hK23 => ?_
      refine gc_region ?_
      refine gl_op rfl rfl rfl (op_pure hT rfl) ?_
      refine gl_op rfl rfl rfl (op_pure hT rfl) ?_
      refine gl_callf rfl rfl rfl rfl Tryd.func18 rfl rfl rfl (Same_calls _ _ _ _ (readFrameV m at_).1 (readFrameV m at_).1 _ (hS.rdE (i := 2) rfl) (hS.rdE (i := 3) rfl) (by have := (hS.cap (i := 2) rfl); omega)) ?_
      rintro _ _ ⟨rfl, n129, rfl⟩
      refine ⟨_, rfl, ?_⟩
      have hS := hS.dr n129
      refine gl_spell 129 (v := .bool true) rfl (by simp) ?_
      refine gl_op rfl rfl rfl (op_pure hT rfl) ?_
      refine gl_op rfl rfl rfl (op_pure hT rfl) ?_
      refine gl_un rfl rfl rfl rfl ?_
      refine gl_op rfl rfl rfl (op_pure hT rfl) ?_
      refine gl_un rfl rfl rfl rfl ?_
      refine gl_op rfl rfl rfl (op_pure hT rfl) ?_
      refine gl_un rfl rfl rfl rfl ?_
      refine gl_op rfl rfl rfl (op_pure hT rfl) ?_
      refine gl_spell 134 (v := .bool false) rfl (by simp) ?_
      refine gl_op rfl rfl rfl (op_pure hT rfl) ?_
      refine gl_op rfl rfl rfl (op_pure hT rfl) ?_
      refine gl_un rfl rfl rfl rfl ?_
      refine gl_op rfl rfl rfl (op_pure hT rfl) ?_
      refine gl_un rfl rfl rfl rfl ?_
      refine gl_op rfl rfl rfl (op_pure hT rfl) ?_
      refine gl_un rfl rfl rfl rfl ?_
      refine gl_op rfl rfl rfl (op_pure hT rfl) ?_
      refine gl_spell 139 (v := .bool false) rfl (by simp) ?_
      refine gl_op rfl rfl rfl (op_pure hT rfl) ?_
      refine gl_op rfl rfl rfl (op_pure hT rfl) ?_
      refine gl_un rfl rfl rfl rfl ?_
      refine gl_op rfl rfl rfl (op_pure hT rfl) ?_
      refine gl_un rfl rfl rfl rfl ?_
      refine gl_op rfl rfl rfl (op_pure hT rfl) ?_
      refine gl_un rfl rfl rfl rfl ?_
      refine gl_callf rfl rfl rfl rfl Tryd.func18 rfl rfl rfl (Same_calls _ _ _ _ (frameV m).1 (frameV m).1 _ (hS.rdE (i := 4) rfl) (hS.rdE (i := 5) rfl) (by have := (hS.cap (i := 4) rfl); omega)) ?_
      rintro _ _ ⟨rfl, n144, rfl⟩
      refine ⟨_, rfl, ?_⟩
      have hS := hS.dr n144
      refine gl_spell 144 (v := .bool true) rfl (by simp) ?_
      refine gl_un rfl rfl rfl rfl ?_
      refine gl_op rfl rfl rfl (op_pure hT rfl) ?_
      refine gl_op rfl rfl rfl (op_pure hT rfl) ?_
      refine gl_op rfl rfl rfl (op_pure hT rfl) ?_
      refine gl_un rfl rfl rfl rfl ?_
      refine gl_op rfl rfl rfl (op_pure hT rfl) ?_
      refine gl_un rfl rfl rfl rfl ?_
      refine gl_op rfl rfl rfl (op_pure hT rfl) ?_
      refine gl_un rfl rfl rfl rfl ?_
      refine gl_op rfl rfl rfl (op_pure hT rfl) ?_
      refine gl_spell 150 (v := .bool false) rfl (by simp) ?_
      refine gl_op rfl rfl rfl (op_pure hT rfl) ?_
      refine gl_op rfl rfl rfl (op_pure hT rfl) ?_
      refine gl_un rfl rfl rfl rfl ?_
      refine gl_op rfl rfl rfl (op_pure hT rfl) ?_
      refine gl_un rfl rfl rfl rfl ?_
      refine gl_op rfl rfl rfl (op_pure hT rfl) ?_
      refine gl_un rfl rfl rfl rfl ?_
      refine gl_lit hT hS el22 rfl rfl rfl rfl rfl rfl rfl rfl rfl fun g155 w155 hS => ?_
      refine gl_un rfl rfl rfl rfl ?_
      refine gl_callf rfl rfl rfl rfl Tryd.func23 rfl rfl rfl (Sum_calls _ _ [(A34, m.length, c34), (A34, m.length, c34)] [m, m] _ (hS.rdE (l := [(A34, m.length, c34), (A34, m.length, c34)]) (i := 6) rfl) (Parts.cons (laid_rd 0 hS rfl) (by omega) (Parts.cons (laid_rd 0 hS rfl) (by omega) Parts.nil)) (by simp)) ?_
      rintro _ w156 ⟨rfl, hb156⟩
      refine ⟨_, rfl, ?_⟩
      have hS := hS.grown hb156
      refine gl_un rfl rfl rfl rfl ?_
      refine gl_op rfl rfl rfl (op_pure hT rfl) ?_
      refine gl_un rfl rfl rfl rfl ?_
      refine gl_op rfl rfl rfl (op_pure hT rfl) ?_
      refine gl_un rfl rfl rfl rfl ?_
      refine gl_lit hT hS el22 rfl rfl rfl rfl rfl rfl rfl rfl rfl fun g159 w159 hS => ?_
      refine gl_un rfl rfl rfl rfl ?_
      refine gl_callf rfl rfl rfl rfl Tryd.func39 rfl rfl rfl (rSum_calls _ _ [(A46, m.length, c46), (A46, m.length, c46)] [m, m] _ (hS.rdE (l := [(A46, m.length, c46), (A46, m.length, c46)]) (i := 7) rfl) (Parts.cons (hS.rdE (i := 1) rfl) (by omega) (Parts.cons (hS.rdE (i := 1) rfl) (by omega) Parts.nil)) (by simp)) ?_
      rintro _ _ ⟨rfl, n160, rfl⟩
      refine ⟨_, rfl, ?_⟩
      have hS := hS.dr n160
      refine gl_un rfl rfl rfl rfl ?_
      refine gl_op rfl rfl rfl (op_pure hT rfl) ?_
      refine gl_spell 161 (v := .bool false) rfl (by simp) ?_
      refine gl_op rfl rfl rfl (op_pure hT rfl) ?_
      refine gl_op rfl rfl rfl (op_pure hT rfl) ?_
      refine gl_un rfl rfl rfl rfl ?_
      refine gl_op rfl rfl rfl (op_pure hT rfl) ?_
      refine gl_un rfl rfl rfl rfl ?_
      refine gl_op rfl rfl rfl (op_pure hT rfl) ?_
      refine gl_un rfl rfl rfl rfl ?_
      refine gl_callf rfl rfl rfl rfl Tryd.func22 rfl rfl rfl (Intact_calls A34 A46 c34 c46 m [201, 202, 203] m _ (laid_rd3 0 hS rfl) rfl (by omega) (by omega) (hS.rdE (i := 1) rfl)) ?_
      rintro _ w166 ⟨rfl, hb166⟩
      refine ⟨_, rfl, ?_⟩
      have hS := hS.grown hb166
      refine gl_spell 166 (v := .bool true) rfl (by simp) ?_
      refine gl_un rfl rfl rfl rfl ?_
      refine gl_op rfl rfl rfl (op_pure hT rfl) ?_
      refine gl_op rfl rfl rfl (op_pure hT rfl) ?_
      refine gl_nil ?_
      refine hK23 _ _ ?_
      clear hK23; try clear K23
      refine gc_cond_f rfl ?_
      refine gc_skip ?_
      refine hK22 _ _ ?_
      clear hK22; try clear K22
      refine gc_seq fun K24 hK24 => ?_
      refine gc_region ?_
      refine gl_op rfl rfl rfl (op_pure hT rfl) ?_
      refine gl_op rfl rfl rfl (op_pure hT rfl) ?_
      refine gl_op rfl rfl rfl (op_pure hT rfl) ?_
      refine gl_op rfl rfl rfl (op_pure hT rfl) ?_
      refine gl_op rfl rfl rfl (op_pure hT rfl) ?_
      refine gl_split (t := 173) rfl (fun c173 => ?_) (fun c173 => ?_)
      · try simp only [decide_eq_true_eq, decide_eq_false_iff_not, Bool.not_eq_true', Bool.not_eq_false', Int.not_lt, Int.not_le, Nat.not_lt, Nat.not_le, Bool.true_eq, Bool.false_eq, reduceCtorEq] at c173
        refine gl_un rfl rfl rfl rfl ?_
        refine gl_op rfl rfl rfl (op_pure hT rfl) ?_
        refine gl_un rfl rfl rfl rfl ?_
        refine gl_op rfl rfl rfl (op_pure hT rfl) ?_
        refine gl_un rfl rfl rfl rfl ?_
        refine gl_op rfl rfl rfl (op_pure hT rfl) ?_
        refine gl_op rfl rfl rfl (op_pure hT rfl) ?_
        refine gl_nil ?_
        refine hK24 _ _ ?_
        clear hK24; try clear K24
        refine gc_cond rfl rfl (fun c177 => ?_) (fun c177 => ?_)
        · try simp only [decide_eq_true_eq, decide_eq_false_iff_not, Bool.not_eq_true', Bool.not_eq_false', Int.not_lt, Int.not_le, Nat.not_lt, Nat.not_le, Bool.true_eq, Bool.false_eq, reduceCtorEq] at c177
          have hS := (((((((hS.erase 7).erase 6).erase 5).erase 4).erase 3).erase 2).erase 1)
          have hit : i < ts.length := by omega
          obtain ⟨adt, hAt, hct⟩ := ht.old hS (by omega)
          have hcti := hct i hit
          have hx : ((i : Int)).toNat = i := by omega
          have hri := hr i
          have hm0 : (0 : Int) < (m.length : Nat) := by omega
          obtain ⟨g, rfl⟩ := Owns.addr (hS.at (i := 0) rfl) (by omega)
          have hs0 := Int.emod_nonneg (ts.getD i (0, 0)).1 (show ((m.length : Nat) : Int) ≠ 0 by omega)
          have hs1 := Int.emod_lt_of_pos (ts.getD i (0, 0)).1 hm0
          refine gc_grow_end (e0 := [(1, .int .i64 at_), (2, .slice At ts.length ct), (7, .slice (some ⟨g, 0, none⟩) m.length c34), (8, .int .i64 i)]) (by kernel_rfl) ⟨rfl, rfl, rfl, rfl, trivial⟩ rfl (by kernel_rfl) (by kernel_rfl) (by kernel_rfl) (by kernel_rfl) ?_
          refine gg_op [] rfl rfl rfl (by kernel_rfl) (fun w1 hw1 => by have hS := hS.grown hw1; exact op_pure hT rfl) ?_
          refine gg_op [] rfl rfl rfl (by kernel_rfl) (fun w1 hw1 => by have hS := hS.grown hw1; exact op_pure hT rfl) ?_
          refine gg_op [] rfl rfl rfl (by kernel_rfl) (fun w1 hw1 => by have hS := hS.grown hw1; exact op_pure hT rfl) ?_
          refine gg_op [179, 180] rfl rfl rfl (by kernel_rfl) (fun w1 hw1 => by have hS := hS.grown hw1; exact op_indexAddr hT rfl rfl el77.cellsOf.1 el77.cellsOf.2 rfl rfl (by omega) (by omega) hAt) ?_
          refine gg_op [181] rfl rfl rfl (by kernel_rfl) (fun w1 hw1 => by have hS := hS.grown hw1; exact op_fieldAddr rfl Tryd.underlying77 rfl el3 (by decide) rfl) ?_
          refine gg_op [182] rfl rfl rfl (by kernel_rfl) (fun w1 hw1 => by have hS := hS.grown hw1; exact op_load hT rfl rfl rfl rfl (cellOf hw1 (by rw [hx]; exact hcti.1))) ?_
          refine gg_op [] rfl rfl rfl (by kernel_rfl) (fun w1 hw1 => by have hS := hS.grown hw1; exact op_pure hT rfl) ?_
          refine gg_op [184] rfl rfl rfl (by kernel_rfl) (fun w1 hw1 => by have hS := hS.grown hw1; exact op_pure hT rfl) ?_
          refine gg_call [183, 185] (.det (.int .i64 ((ts.getD i (0, 0)).1 % ((m.length : Nat) : Int)))) (trivial) rfl rfl rfl (by kernel_rfl) rfl Tryd.func26 rfl rfl rfl (fun w1 hw1 => ?_) ?_
          · have hS := hS.grown hw1
            exact SpotN_calls _ _ hri ⟨hm0, by omega⟩ w1
          refine gg_op [] rfl rfl rfl (by kernel_rfl) (fun w1 hw1 => by have hS := hS.grown hw1; exact op_pure hT rfl) ?_
          refine gg_op [] rfl rfl rfl (by kernel_rfl) (fun w1 hw1 => by have hS := hS.grown hw1; exact op_pure hT rfl) ?_
          refine gg_op [187, 188] rfl rfl rfl (by kernel_rfl) (fun w1 hw1 => by have hS := hS.grown hw1; exact op_indexAddr hT rfl rfl el77.cellsOf.1 el77.cellsOf.2 rfl rfl (by omega) (by omega) hAt) ?_
          refine gg_op [189] rfl rfl rfl (by kernel_rfl) (fun w1 hw1 => by have hS := hS.grown hw1; exact op_fieldAddr rfl Tryd.underlying77 rfl el3 (by decide) rfl) ?_
          refine gg_op [190] rfl rfl rfl (by kernel_rfl) (fun w1 hw1 => by have hS := hS.grown hw1; exact op_load hT rfl rfl rfl rfl (cellOf hw1 (by rw [hx]; exact hcti.2))) ?_
          refine gg_op [191] rfl rfl rfl (by kernel_rfl) (fun w1 hw1 => by have hS := hS.grown hw1; exact op_pure hT rfl) ?_
          refine gg_op [178, 186] rfl rfl rfl (by kernel_rfl) (fun w1 hw1 => by have hS := hS.grown hw1; exact op_indexAddr hT rfl rfl el5.cellsOf.1 el5.cellsOf.2 rfl rfl hs0 hs1 rfl) ?_
          refine gg_spell (v := .pointer (some ⟨g, ((ts.getD i (0, 0)).1 % ((m.length : Nat) : Int)).toNat, none⟩)) (congrArg (fun a => Value.pointer (some a)) (addr0 g _)) ?_
          refine gg_last [193, 192] fun wr23 hwr23 => ?_
          have hS := hS.grown hwr23
          refine gl_storeR 0 hS el5.cellsOf.1 el5.cellsOf.2 rfl rfl rfl rfl rfl rfl (by omega) rfl fun ws193 hS => ?_
          refine gl_nil ?_
          refine hK10 _ _ ?_
          clear hK10; try clear K10
          refine gc_region ?_
          refine gl_op rfl rfl rfl (op_pure hT rfl) ?_
          first | refine gl_fit hT rfl rfl rfl rfl (by omega) ?_ | refine gl_op rfl rfl rfl (op_pure hT rfl) ?_
          refine gl_op rfl rfl rfl (op_pure hT rfl) ?_
          refine gl_nil ?_
          intro a ha
          first
            | (have hS : St w.heap.size w ws193 [.row (some ⟨g, 0, none⟩) c34 5 1 (m.length + 73) (((m ++ marks).map uB).set ((ts.getD i (0, 0)).1 % ((m.length : Nat) : Int)).toNat (.int .u8 (IntKind.u8.wrap (ts.getD i (0, 0)).2)))] := hS
               rw [u8_mod, set_marks _ _ (by omega)] at hS
               exact ⟨i + 1, m.set ((ts.getD i (0, 0)).1 % ((m.length : Nat) : Int)).toNat (UInt8.ofNat ((ts.getD i (0, 0)).2 % 256).toNat), ha.sub ⟨rfl, rfl, by rw [List.length_set]; rfl, rfl, trivial⟩, by omega, by omega, by omega, by rw [List.length_set]; omega, by rw [List.length_set]; exact hS⟩)
            | (have hS := (((((((hS.erase 7).erase 6).erase 5).erase 4).erase 3).erase 2).erase 1)
               exact ⟨i + 1, m, ha.sub ⟨rfl, rfl, rfl, rfl, trivial⟩, by omega, by omega, by omega, by omega, hS⟩)
        · try simp only [decide_eq_true_eq, decide_eq_false_iff_not, Bool.not_eq_true', Bool.not_eq_false', Int.not_lt, Int.not_le, Nat.not_lt, Nat.not_le, Bool.true_eq, Bool.false_eq, reduceCtorEq] at c177
          refine gc_skip ?_
          refine hK10 _ _ ?_
          clear hK10; try clear K10
          refine gc_region ?_
          refine gl_op rfl rfl rfl (op_pure hT rfl) ?_
          first | refine gl_fit hT rfl rfl rfl rfl (by omega) ?_ | refine gl_op rfl rfl rfl (op_pure hT rfl) ?_
          refine gl_op rfl rfl rfl (op_pure hT rfl) ?_
          refine gl_nil ?_
          intro a ha
          first
            | (have hS : St w.heap.size w ws193 [.row (some ⟨g, 0, none⟩) c34 5 1 (m.length + 73) (((m ++ marks).map uB).set ((ts.getD i (0, 0)).1 % ((m.length : Nat) : Int)).toNat (.int .u8 (IntKind.u8.wrap (ts.getD i (0, 0)).2)))] := hS
               rw [u8_mod, set_marks _ _ (by omega)] at hS
               exact ⟨i + 1, m.set ((ts.getD i (0, 0)).1 % ((m.length : Nat) : Int)).toNat (UInt8.ofNat ((ts.getD i (0, 0)).2 % 256).toNat), ha.sub ⟨rfl, rfl, by rw [List.length_set]; rfl, rfl, trivial⟩, by omega, by omega, by omega, by rw [List.length_set]; omega, by rw [List.length_set]; exact hS⟩)
            | (have hS := (((((((hS.erase 7).erase 6).erase 5).erase 4).erase 3).erase 2).erase 1)
               exact ⟨i + 1, m, ha.sub ⟨rfl, rfl, rfl, rfl, trivial⟩, by omega, by omega, by omega, by omega, hS⟩)
      · try simp only [decide_eq_true_eq, decide_eq_false_iff_not, Bool.not_eq_true', Bool.not_eq_false', Int.not_lt, Int.not_le, Nat.not_lt, Nat.not_le, Bool.true_eq, Bool.false_eq, reduceCtorEq] at c173
        refine gl_pass rfl rfl rfl rfl rfl rfl ?_
        refine gl_pass rfl rfl rfl rfl rfl rfl ?_
        refine gl_pass rfl rfl rfl rfl rfl rfl ?_
        refine gl_op rfl rfl rfl (op_pure hT rfl) ?_
        refine gl_nil ?_
        refine hK24 _ _ ?_
        clear hK24; try clear K24
        refine gc_cond_f rfl ?_
        refine gc_skip ?_
        refine hK10 _ _ ?_
        clear hK10; try clear K10
        refine gc_region ?_
        refine gl_op rfl rfl rfl (op_pure hT rfl) ?_
        first | refine gl_fit hT rfl rfl rfl rfl (by omega) ?_ | refine gl_op rfl rfl rfl (op_pure hT rfl) ?_
        refine gl_op rfl rfl rfl (op_pure hT rfl) ?_
        refine gl_nil ?_
        intro a ha
        first
          | (have hS : St w.heap.size w ws193 [.row (some ⟨g, 0, none⟩) c34 5 1 (m.length + 73) (((m ++ marks).map uB).set ((ts.getD i (0, 0)).1 % ((m.length : Nat) : Int)).toNat (.int .u8 (IntKind.u8.wrap (ts.getD i (0, 0)).2)))] := hS
             rw [u8_mod, set_marks _ _ (by omega)] at hS
             exact ⟨i + 1, m.set ((ts.getD i (0, 0)).1 % ((m.length : Nat) : Int)).toNat (UInt8.ofNat ((ts.getD i (0, 0)).2 % 256).toNat), ha.sub ⟨rfl, rfl, by rw [List.length_set]; rfl, rfl, trivial⟩, by omega, by omega, by omega, by rw [List.length_set]; omega, by rw [List.length_set]; exact hS⟩)
          | (have hS := (((((((hS.erase 7).erase 6).erase 5).erase 4).erase 3).erase 2).erase 1)
             exact ⟨i + 1, m, ha.sub ⟨rfl, rfl, rfl, rfl, trivial⟩, by omega, by omega, by omega, by omega, hS⟩)
    · try simp only [decide_eq_true_eq, decide_eq_false_iff_not, Bool.not_eq_true', Bool.not_eq_false', Int.not_lt, Int.not_le, Nat.not_lt, Nat.not_le, Bool.true_eq, Bool.false_eq, reduceCtorEq] at c42
      refine gc_exit ?_
      refine hK6 _ _ ?_
      clear hK6; try clear K6
      refine gc_seq fun K25 hK25 => ?_
      refine gc_region ?_
      refine gl_op rfl rfl rfl (op_pure hT rfl) ?_
      refine gl_nil ?_
      refine hK25 _ _ ?_
      clear hK25; try clear K25
      refine gc_ret ?_
      try simp only [x_then_ret, x_block_ret]
      refine gk_ret1 rfl rfl ?_
      exact ⟨rfl, hS.below⟩
  · try simp only [decide_eq_true_eq, decide_eq_false_iff_not, Bool.not_eq_true', Bool.not_eq_false', Int.not_lt, Int.not_le, Nat.not_lt, Nat.not_le, Bool.true_eq, Bool.false_eq, reduceCtorEq] at c39
    refine gl_pass rfl rfl rfl rfl rfl rfl ?_
    refine gl_pass rfl rfl rfl rfl rfl rfl ?_
    refine gl_op rfl rfl rfl (op_pure hT rfl) ?_
    refine gl_nil ?_
    refine hK9 _ _ ?_
    clear hK9; try clear K9
    refine gc_cond_f rfl ?_
    refine gc_exit ?_
    refine hK6 _ _ ?_
    clear hK6; try clear K6
    refine gc_seq fun K26 hK26 => ?_
    refine gc_region ?_
    refine gl_op rfl rfl rfl (op_pure hT rfl) ?_
    refine gl_nil ?_
    refine hK26 _ _ ?_
    clear hK26; try clear K26
    refine gc_ret ?_
    try simp only [x_then_ret, x_block_ret]
    refine gk_ret1 rfl rfl ?_
    exact ⟨rfl, hS.below⟩
end Go.Proofs.YtpeomdobcobdiaaDoor
