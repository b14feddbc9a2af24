/- The walk of WireJoined. No condition. -/
import Derived.Test.YtpeomdobcobdiaaDoorW9
import Derived.Test.YtpeomdobcobdiaaDoorLibG
namespace Go.Proofs.YtpeomdobcobdiaaDoor
open Go.RowKit
set_option linter.unusedVariables false
set_option linter.unusedSimpArgs false
theorem Parts.take {w : World} {S : List Sl} {D : List (List UInt8)} (h : Parts w S D) (k : Nat) : Parts w (S.take k) (D.take k) := by
  refine ⟨by simp [h.1], fun i hi => ?_⟩
  have hi2 : i < k ∧ i < S.length := by rw [List.length_take] at hi; omega
  have e1 : (S.take k).getD i sl0 = S.getD i sl0 := by simp [List.getD_eq_getElem?_getD, List.getElem?_take, hi2.1]
  have e2 : (D.take k).getD i [] = D.getD i [] := by simp [List.getD_eq_getElem?_getD, List.getElem?_take, hi2.1]
  rw [e1, e2]
  exact h.2 i hi2.2
def cutS (x : Sl) : Sl := (x.1, min x.2.1 1048576, x.2.2)
def cutL (l : List UInt8) : List UInt8 := l.take 1048576
theorem cutL_len (l : List UInt8) : (cutL l).length ≤ 1048576 := by simp [cutL]; omega
theorem Parts.cut {w : World} {S : List Sl} {D : List (List UInt8)} (h : Parts w S D) : Parts w (S.map cutS) (D.map cutL) := by
  refine ⟨by simp [h.1], fun i hi => ?_⟩
  have hi2 : i < S.length := by simpa using hi
  have hi3 : i < D.length := by rw [← h.1]; exact hi2
  have e1 : (S.map cutS).getD i sl0 = cutS (S.getD i sl0) := by simp [List.getD_eq_getElem?_getD, hi2]
  have e2 : (D.map cutL).getD i [] = cutL (D.getD i []) := by simp [List.getD_eq_getElem?_getD, hi3]
  rw [e1, e2]
  obtain ⟨h1, h2, h3⟩ := h.2 i hi2
  exact ⟨by show min (S.getD i sl0).2.1 1048576 = (List.take 1048576 (D.getD i [])).length; rw [List.length_take, h1, Nat.min_comm], by have := cutL_len (D.getD i []); omega, h3.take _⟩
theorem getD_map_cut {S : List Sl} {i : Nat} (h : i < S.length) : S.map cutS = (S.map cutS).take i ++ cutS (S.getD i sl0) :: (S.map cutS).drop (i + 1) := by
  have hl : i < (S.map cutS).length := by simpa using h
  conv => lhs; rw [← List.take_append_drop i (S.map cutS), List.drop_eq_getElem_cons hl]
  simp [List.getD_eq_getElem?_getD, h]
theorem take_succ_cut {S : List Sl} {i : Nat} (h : i < S.length) : (S.map cutS).take (i + 1) = (S.map cutS).take i ++ [cutS (S.getD i sl0)] := by
  have hl : i < (S.map cutS).length := by simpa using h
  rw [List.take_add_one, List.getElem?_eq_getElem hl]; simp [List.getD_eq_getElem?_getD, h]
theorem flat_cut {D : List (List UInt8)} : ∀ i, ((D.map cutL).take i).flatten.length ≤ i * 1048576 := by
  intro i
  induction i with
  | zero => simp
  | succ i ih =>
    by_cases h : i < (D.map cutL).length
    · rw [flat_take _ _ h, List.length_append]
      have : ((D.map cutL).getD i []).length ≤ 1048576 := by
        have h2 : i < D.length := by simpa using h
        have e2 : (D.map cutL).getD i [] = cutL (D.getD i []) := by simp [List.getD_eq_getElem?_getD, h2]
        rw [e2]; exact cutL_len _
      omega
    · rw [List.take_of_length_le (by omega)]
      rw [List.take_of_length_le (by omega)] at ih
      exact Nat.le_trans ih (Nat.mul_le_mul_right _ (Nat.le_succ i))
def digits9 : List UInt8 := [49, 50, 51, 52, 53, 54, 55, 56, 57]
theorem crc_digits : crcV digits9 = 3808858755 := by kernel_rfl
theorem WireJoined_calls (A : Option Addr) (c : Nat) (S : List Sl) (D : List (List UInt8)) (w : World) (hU : Tabs w) {ok : Nat → Prop} (h1 : RdE w ok sV A S) (hp : Parts w S D) (hc : S.length ≤ c) (hcs : ∀ i, i < S.length → (S.getD i sl0).2.1 ≤ (S.getD i sl0).2.2) (hb : S.length ≤ 140737488355328) :
    Calls Tryd.prog 4 ⟨[.slice A S.length c]⟩ w fun e w' => e = .returned (.bool true) ∧ Below w.heap.size w w' := by
  refine gc_enter (N := 54) Tryd.func4 rfl rfl rfl [(0, _)] rfl ?_
  have hS := St.start w
  refine gc_seq fun K1 hK1 => ?_
  refine gc_region ?_
  refine gl_op rfl rfl rfl (op_pure hT rfl) ?_
  refine gl_nil ?_
  refine hK1 _ _ ?_
  clear hK1; try clear K1
  refine gc_cut (fun a w' => w = w' ∧ Fr 54 a [(0, .slice A (S.take 20).length c)]) ?_ ?_
  · skip
    refine gc_seq fun K2 hK2 => ?_
    refine gc_region ?_
    refine gl_op rfl rfl rfl (op_pure hT rfl) ?_
    refine gl_op rfl rfl rfl (op_pure hT rfl) ?_
    refine gl_op rfl rfl rfl (op_pure hT rfl) ?_
    refine gl_nil ?_
    refine hK2 _ _ ?_
    clear hK2; try clear K2
    refine gc_cond rfl rfl (fun c9 => ?_) (fun c9 => ?_)
    · try simp only [decide_eq_true_eq, decide_eq_false_iff_not, Bool.not_eq_true', Bool.not_eq_false', Int.not_lt, Int.not_le, Nat.not_lt, Nat.not_le, Bool.true_eq, Bool.false_eq, reduceCtorEq] at c9
      refine gc_region ?_
      refine gl_op rfl rfl rfl (op_pure hT rfl) ?_
      refine gl_op rfl rfl rfl (op_slice_h hT el22 rfl rfl rfl rfl (by first | omega | (simp; omega)) (by first | omega | (simp; omega))) ?_
      refine gl_op rfl rfl rfl (op_pure hT rfl) ?_
      refine gl_nil ?_
      intro a ha
      refine ⟨rfl, ha.sub ⟨?_, trivial⟩⟩
      first
        | (show some (Value.slice A (20 : Int).toNat c) = _; rw [List.length_take, Nat.min_eq_left (by omega)]; rfl)
        | (show some (Value.slice A S.length c) = _; rw [List.length_take, Nat.min_eq_right (by omega)])
    · try simp only [decide_eq_true_eq, decide_eq_false_iff_not, Bool.not_eq_true', Bool.not_eq_false', Int.not_lt, Int.not_le, Nat.not_lt, Nat.not_le, Bool.true_eq, Bool.false_eq, reduceCtorEq] at c9
      refine gc_skip ?_
      intro a ha
      refine ⟨rfl, ha.sub ⟨?_, trivial⟩⟩
      first
        | (show some (Value.slice A (20 : Int).toNat c) = _; rw [List.length_take, Nat.min_eq_left (by omega)]; rfl)
        | (show some (Value.slice A S.length c) = _; rw [List.length_take, Nat.min_eq_right (by omega)])
  rintro a _ ⟨rfl, hF⟩
  refine gc_of hF ?_
  have h1 := h1.take 20
  have hp := hp.take 20
  have hcs : ∀ i, i < (S.take 20).length → ((S.take 20).getD i sl0).2.1 ≤ ((S.take 20).getD i sl0).2.2 := by
    intro i hi
    have hi2 : i < 20 ∧ i < S.length := by rw [List.length_take] at hi; omega
    have e1 : (S.take 20).getD i sl0 = S.getD i sl0 := by simp [List.getD_eq_getElem?_getD, List.getElem?_take, hi2.1]
    rw [e1]; exact hcs i hi2.2
  have hlen : (S.take 20).length ≤ 20 := by simp; omega
  generalize S.take 20 = S at h1 hp hcs hlen ⊢
  generalize D.take 20 = D at hp
  refine gc_seq fun K3 hK3 => ?_
  refine gc_region ?_
  refine gl_op rfl rfl rfl (op_pure hT rfl) ?_
  refine gl_nil ?_
  refine hK3 _ _ ?_
  clear hK3; try clear K3
  refine gc_seq fun K4 hK4 => ?_
  refine gc_region ?_
  refine gl_op rfl rfl rfl (op_pure hT rfl) ?_
  refine gl_nil ?_
  refine hK4 _ _ ?_
  clear hK4; try clear K4
  refine gc_seq fun K5 hK5 => ?_
  refine gc_seq fun K6 hK6 => ?_
  refine gc_region ?_
  refine gl_op rfl rfl rfl (op_pure hT rfl) ?_
  refine gl_nil ?_
  refine hK6 _ _ ?_
  clear hK6; try clear K6
  refine gc_block ?_
  have hS := hS.nil 5 1
  have hS := hS.nil 22 1
  have hpc := hp.cut
  refine gc_loop (fun k a w' => ∃ (i : Nat) (A3 : Option Addr) (c3 : Nat) (A4 : Option Addr) (c4 : Nat), Fr 54 a [(0, .slice A S.length c), (3, .slice A3 ((D.map cutL).take i).flatten.length c3), (4, .slice A4 i c4), (5, .int .i64 i)] ∧ i ≤ S.length ∧ k = S.length - i + 1 ∧
    St w.heap.size w w' [.row A3 c3 5 1 ((D.map cutL).take i).flatten.length (((D.map cutL).take i).flatten.map uB), .row A4 c4 22 1 i (((S.map cutS).take i).map sV)]) (S.length + 1) ?_ ?_ ?_
  · intro a ha; exact ⟨0, _, _, _, _, ha.sub ⟨rfl, rfl, rfl, rfl, trivial⟩, by omega, by omega, hS⟩
  · rintro a w ⟨i, _, _, _, _, _, h1, h2, _⟩; omega
  rintro k a w1 ⟨i, A3, c3, A4, c4, hF, hi, hk, hS⟩
  refine gc_of hF ?_
  have hfl := flat_cut (D := D) i
  refine gc_seq fun K7 hK7 => ?_
  refine gc_seq fun K8 hK8 => ?_
  refine gc_region ?_
  refine gl_op rfl rfl rfl (op_pure hT rfl) ?_
  refine gl_op rfl rfl rfl (op_pure hT rfl) ?_
  refine gl_op rfl rfl rfl (op_pure hT rfl) ?_
  refine gl_op rfl rfl rfl (op_pure hT rfl) ?_
  refine gl_nil ?_
  refine hK8 _ _ ?_
  clear hK8; try clear K8
  refine gc_cond rfl rfl (fun c15 => ?_) (fun c15 => ?_)
  · try simp only [decide_eq_true_eq, decide_eq_false_iff_not, Bool.not_eq_true', Bool.not_eq_false', Int.not_lt, Int.not_le, Nat.not_lt, Nat.not_le, Bool.true_eq, Bool.false_eq, reduceCtorEq] at c15
    refine gc_skip ?_
    refine hK7 _ _ ?_
    clear hK7; try clear K7
    refine gc_seq fun K9 hK9 => ?_
    refine gc_block ?_
    refine gc_seq fun K10 hK10 => ?_
    refine gc_region ?_
    refine gl_op rfl rfl rfl (op_pure hT rfl) ?_
    refine gl_op rfl rfl rfl (op_pure hT rfl) ?_
    refine gl_ix sl0 hT (h1.old hS) rfl rfl rfl rfl rfl el22.cellsOf.1 el22.cellsOf.2 rfl (by simp) rfl (by omega) (by first | omega | (simp; omega)) fun p20 hp20 => ?_
    have hil : i < S.length := by omega
    have hcsi := hcs i hil
    have hst : (S.getD ((i : Int)).toNat sl0) = S.getD i sl0 := by simp
    rw [hst] at hp20
    refine gl_op rfl rfl rfl (op_load hT rfl rfl rfl rfl hp20) ?_
    refine gl_op rfl rfl rfl (op_pure hT rfl) ?_
    refine gl_nil ?_
    refine hK10 _ _ ?_
    clear hK10; try clear K10
    refine gc_cut (fun a w' => w1 = w' ∧ Fr 54 a [(0, .slice A S.length c), (3, .slice A3 ((D.map cutL).take i).flatten.length c3), (4, .slice A4 i c4), (5, .int .i64 i), (6, sV (cutS (S.getD i sl0)))]) ?_ ?_
    · skip
      refine gc_seq fun K11 hK11 => ?_
      refine gc_region ?_
      refine gl_op rfl rfl rfl (op_pure hT rfl) ?_
      refine gl_op rfl rfl rfl (op_pure hT rfl) ?_
      refine gl_op rfl rfl rfl (op_pure hT rfl) ?_
      refine gl_nil ?_
      refine hK11 _ _ ?_
      clear hK11; try clear K11
      refine gc_cond rfl rfl (fun c24 => ?_) (fun c24 => ?_)
      · try simp only [decide_eq_true_eq, decide_eq_false_iff_not, Bool.not_eq_true', Bool.not_eq_false', Int.not_lt, Int.not_le, Nat.not_lt, Nat.not_le, Bool.true_eq, Bool.false_eq, reduceCtorEq] at c24
        refine gc_region ?_
        refine gl_op rfl rfl rfl (op_pure hT rfl) ?_
        refine gl_op rfl rfl rfl (op_slice_h hT el5 rfl rfl rfl rfl (by omega) (by omega)) ?_
        refine gl_op rfl rfl rfl (op_pure hT rfl) ?_
        refine gl_nil ?_
        intro a ha
        refine ⟨rfl, ha.sub ⟨rfl, rfl, rfl, rfl, ?_, trivial⟩⟩
        first
          | (show some (Value.slice (S.getD i sl0).1 (1048576 : Int).toNat (S.getD i sl0).2.2) = _; unfold sV cutS; rw [Nat.min_eq_right (by omega)]; rfl)
          | (show some (Value.slice (S.getD i sl0).1 (S.getD i sl0).2.1 (S.getD i sl0).2.2) = _; unfold sV cutS; rw [Nat.min_eq_left (by omega)])
      · try simp only [decide_eq_true_eq, decide_eq_false_iff_not, Bool.not_eq_true', Bool.not_eq_false', Int.not_lt, Int.not_le, Nat.not_lt, Nat.not_le, Bool.true_eq, Bool.false_eq, reduceCtorEq] at c24
        refine gc_skip ?_
        intro a ha
        refine ⟨rfl, ha.sub ⟨rfl, rfl, rfl, rfl, ?_, trivial⟩⟩
        first
          | (show some (Value.slice (S.getD i sl0).1 (1048576 : Int).toNat (S.getD i sl0).2.2) = _; unfold sV cutS; rw [Nat.min_eq_right (by omega)]; rfl)
          | (show some (Value.slice (S.getD i sl0).1 (S.getD i sl0).2.1 (S.getD i sl0).2.2) = _; unfold sV cutS; rw [Nat.min_eq_left (by omega)])
    rintro a _ ⟨rfl, hF⟩
    refine gc_of hF ?_
    have hpi := hpc.2 i (by simpa using hil)
    have hidl : i < D.length := by rw [← hp.1]; exact hil
    have ec : (S.map cutS).getD i sl0 = cutS (S.getD i sl0) := by simp [List.getD_eq_getElem?_getD, hil]
    rw [ec] at hpi
    have ed : (D.map cutL).getD i [] = cutL (D.getD i []) := by simp [List.getD_eq_getElem?_getD, hidl]
    have hcl := cutL_len (D.getD i [])
    rw [ed] at hpi
    have hft := flat_take (D.map cutL) i (by simpa using hidl)
    rw [ed] at hft
    have hftl := congrArg List.length hft
    rw [List.length_append] at hftl
    refine gc_seq fun K12 hK12 => ?_
    refine gc_region ?_
    refine gl_op rfl rfl rfl (op_pure hT rfl) ?_
    refine gl_op rfl rfl rfl (op_pure hT rfl) ?_
    refine gl_lit hT hS el22 rfl rfl rfl rfl rfl rfl rfl rfl rfl fun g29 w29 hS => ?_
    refine gl_append 1 hT hS el22 (hS.rd (i := 2) rfl) rfl rfl rfl rfl rfl rfl rfl rfl rfl (by omega) (by omega) fun A30 c30 w30 hS => ?_
    have hS := hS.erase 2
    have e30 : ((S.map cutS).take i).map sV ++ [sV (cutS (S.getD i sl0))] = ((S.map cutS).take (i + 1)).map sV := by rw [take_succ_cut hil]; simp
    have hS : St w.heap.size w w30 [.row A3 c3 5 1 ((D.map cutL).take i).flatten.length (((D.map cutL).take i).flatten.map uB), .row A30 c30 22 1 (i + 1) (((S.map cutS).take i).map sV ++ [sV (cutS (S.getD i sl0))])] := hS
    rw [e30] at hS
    refine gl_op rfl rfl rfl (op_pure hT rfl) ?_
    refine gl_nil ?_
    refine hK12 _ _ ?_
    clear hK12; try clear K12
    refine gc_region ?_
    refine gl_op rfl rfl rfl (op_pure hT rfl) ?_
    refine gl_op rfl rfl rfl (op_pure hT rfl) ?_
    have hrd : Rd w30 All (cutS (S.getD i sl0)).1 (cutS (S.getD i sl0)).2.1 1 ((cutL (D.getD i [])).map uB) := by rw [hpi.1]; exact hpi.2.2.old hS
    have hb8 : i < 20 := by omega
    refine gl_append 0 hT hS el5 hrd (allOne_uB _) rfl rfl rfl rfl rfl rfl rfl rfl (by rw [hpi.1]; omega) (by rw [hpi.1]; omega) fun A33 c33 w33 hS => ?_
    rw [hpi.1, ← hftl, ← List.map_append, ← hft] at hS
    refine gl_spell 33 (v := .slice A33 ((D.map cutL).take (i + 1)).flatten.length c33) rfl (by rw [hpi.1, hftl]) ?_
    refine gl_op rfl rfl rfl (op_pure hT rfl) ?_
    refine gl_nil ?_
    refine hK9 _ _ ?_
    clear hK9; try clear K9
    refine gc_region ?_
    refine gl_op rfl rfl rfl (op_pure hT rfl) ?_
    first | refine gl_fit hT rfl rfl rfl rfl (by omega) ?_ | refine gl_op rfl rfl rfl (op_pure hT rfl) ?_
    refine gl_op rfl rfl rfl (op_pure hT rfl) ?_
    refine gl_nil ?_
    intro a ha
    exact ⟨i + 1, _, _, _, _, ha.sub ⟨rfl, rfl, rfl, rfl, trivial⟩, by omega, by omega, hS⟩
  · try simp only [decide_eq_true_eq, decide_eq_false_iff_not, Bool.not_eq_true', Bool.not_eq_false', Int.not_lt, Int.not_le, Nat.not_lt, Nat.not_le, Bool.true_eq, Bool.false_eq, reduceCtorEq] at c15
    refine gc_exit ?_
    refine hK5 _ _ ?_
    clear hK5; try clear K5
    refine gc_seq fun K13 hK13 => ?_
    refine gc_region ?_
    refine gl_op rfl rfl rfl (op_pure hT rfl) ?_
    have hie : i = S.length := by omega
    have eD : (D.map cutL).take i = D.map cutL := List.take_of_length_le (by rw [List.length_map, ← hp.1]; omega)
    have eS : (S.map cutS).take i = S.map cutS := List.take_of_length_le (by rw [List.length_map]; omega)
    rw [eD, eS] at hS
    rw [eD]
    rw [eD] at hfl
    have el : i = (S.map cutS).length := by simp [hie]
    have hi20 : i ≤ 20 := by omega
    refine gl_callf rfl rfl rfl rfl Tryd.func23 rfl rfl (by rw [el]; rfl) (Sum_calls A4 c4 (S.map cutS) (D.map cutL) _ (hS.rdE (i := 1) rfl) (hpc.old hS) (by rw [← el]; omega)) ?_
    rintro _ w35 ⟨rfl, hb35⟩
    refine ⟨_, rfl, ?_⟩
    have hS := hS.grown hb35
    refine gl_op rfl rfl rfl (op_pure hT rfl) ?_
    refine gl_lit hT hS el22 rfl rfl rfl rfl rfl rfl rfl rfl rfl fun g37 w37 hS => ?_
    refine gl_callf rfl rfl rfl rfl Tryd.func23 rfl rfl rfl (Sum1_calls _ _ _ _ (D.map cutL).flatten _ (hS.rdE (l := [(A3, (D.map cutL).flatten.length, c3)]) (i := 2) rfl) (hS.rdE (i := 0) rfl) (by omega)) ?_
    rintro _ w38 ⟨rfl, hb38⟩
    refine ⟨_, rfl, ?_⟩
    have hS := hS.grown hb38
    refine gl_op rfl rfl rfl (op_pure hT rfl) ?_
    refine gl_spell 39 (v := .bool true) rfl (by simp) ?_
    refine gl_op rfl rfl rfl (op_pure hT rfl) ?_
    refine gl_un rfl rfl rfl rfl ?_
    refine gl_lit hT hS el5 rfl rfl rfl rfl rfl rfl rfl rfl rfl fun g41 w41 hS => ?_
    refine gl_un rfl rfl rfl rfl ?_
    refine gl_mark 3 hT hS rfl rfl rfl rfl rfl rfl rfl rfl fun w42 cur42 fz42 hcur42 hS => ?_
    refine gl_un rfl rfl rfl rfl ?_
    refine gl_lit hT hS el22 rfl rfl rfl rfl rfl rfl rfl rfl rfl fun g43 w43 hS => ?_
    refine gl_un rfl rfl rfl rfl ?_
    refine gl_callf rfl rfl rfl rfl Tryd.func23 rfl rfl rfl (Sum1_calls _ _ _ _ digits9 _ (hS.rdE (l := [(some ⟨g41, 0, none⟩, 9, 9)]) (i := 4) rfl) (hS.objRd (enc := uB) (l := digits9) (i := 3) rfl hcur42) (by decide)) ?_
    rintro _ w44 ⟨rfl, hb44⟩
    refine ⟨_, rfl, ?_⟩
    have hS := hS.grown hb44
    refine gl_un rfl rfl rfl rfl ?_
    rw [crc_digits]
    refine gl_op rfl rfl rfl (op_pure hT rfl) ?_
    refine gl_op rfl rfl rfl (op_pure hT rfl) ?_
    refine gl_op rfl rfl rfl (op_pure hT rfl) ?_
    refine gl_un rfl rfl rfl rfl ?_
    refine gl_callf rfl rfl rfl rfl Tryd.func23 rfl rfl rfl (Sum_calls none 0 [] [] _ (rdE_nil _) Parts.nil (by simp)) ?_
    rintro _ w48 ⟨rfl, hb48⟩
    refine ⟨_, rfl, ?_⟩
    have hS := hS.grown hb48
    refine gl_un rfl rfl rfl rfl ?_
    refine gl_op rfl rfl rfl (op_pure hT rfl) ?_
    refine gl_op rfl rfl rfl (op_pure hT rfl) ?_
    refine gl_op rfl rfl rfl (op_pure hT rfl) ?_
    refine gl_un rfl rfl rfl rfl ?_
    refine gl_callf rfl rfl rfl rfl Tryd.func15 rfl rfl rfl (told_calls _ (hU.old hS)) ?_
    rintro _ w52 ⟨rfl, hb52⟩
    refine ⟨_, rfl, ?_⟩
    have hS := hS.grown hb52
    refine gl_op rfl rfl rfl (op_pure hT rfl) ?_
    refine gl_op rfl rfl rfl (op_pure hT rfl) ?_
    refine gl_nil ?_
    refine hK13 _ _ ?_
    clear hK13; try clear K13
    refine gc_ret ?_
    try simp only [x_then_ret, x_block_ret]
    refine gk_ret1 rfl rfl ?_
    exact ⟨rfl, hS.below⟩
end Go.Proofs.YtpeomdobcobdiaaDoor
