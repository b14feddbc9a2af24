/- Contracts of functions that CodeProps reaches, and words to say them. No condition. -/
import Derived.Test.YtnomlloaahoceaaDoorZ15
import Derived.Test.YtnomlloaahoceaaDoorZ16
import Derived.Test.YtnomlloaahoceaaDoorZ17
/- Contracts of package ambitref8: a reader that goes on when it has failed. No condition. -/
namespace Go.Proofs.YtnomlloaahoceaaDoor
open Go.RowKit
set_option linter.unusedVariables false
set_option linter.unusedSimpArgs false
structure RS where
  a : Int
  e : Int
  i : Int
end Go.Proofs.YtnomlloaahoceaaDoor


/- Contracts of package ambitref8: the form of a question. No condition. -/
namespace Go.Proofs.YtnomlloaahoceaaDoor
open Go.RowKit
set_option linter.unusedVariables false
set_option linter.unusedSimpArgs false
set_option maxRecDepth 100000 in
theorem least_calls (C G M : Sv) (SG SM : List Sv) (p : Px) (w : World) {ok : Nat → Prop} (D : PrU w ok C G M SG SM p) :
    Calls Tryd.prog 34 ⟨[.agg ⟨propC C G M p⟩]⟩ w fun e w' => e = .returned (.int .i64 (leastV p)) ∧ Below w.heap.size w w' := by
  have hiT := D.iT
  have hl := D.rM.len
  have hnM := D.nM
  have hlM := D.lM
  obtain ⟨R, hR⟩ : ∃ R, R = leastV p := ⟨_, rfl⟩
  rw [← hR]
  unfold leastV at hR
  unfold i64 at hiT
  obtain ⟨M1, M2, M3⟩ := M
  simp only at hnM
  subst hnM
  refine gc_enter (N := 27) Tryd.func34 rfl rfl rfl [(0, _)] rfl ?_
  have hS := St.start w
  refine gc_seq fun K1 hK1 => ?_
  refine gc_region ?_
  refine gl_box hS rfl rfl rfl rfl rfl fun g1 w1 hS => ?_
  refine gl_op rfl rfl rfl (op_pure hT rfl) ?_
  refine gl_nil ?_
  refine hK1 _ _ ?_
  clear hK1; try clear K1
  refine gc_seq fun K2 hK2 => ?_
  refine gc_seq fun K3 hK3 => ?_
  refine gc_region ?_
  refine gl_op rfl rfl rfl (op_fieldB 3 rfl Tryd.underlying29 rfl el27 rfl rfl) ?_
  refine gl_op rfl rfl rfl (op_loadB 0 hT hS rfl rfl rfl rfl rfl rfl) ?_
  refine gl_op rfl rfl rfl (op_pure hT rfl) ?_
  refine gl_op rfl rfl rfl (op_pure hT rfl) ?_
  refine gl_nil ?_
  refine hK3 _ _ ?_
  clear hK3; try clear K3
  refine gc_cond rfl rfl (fun c6 => ?_) (fun c6 => ?_)
  · try simp only [decide_eq_true_eq, decide_eq_false_iff_not, Bool.not_eq_true', Bool.not_eq_false', Int.not_lt, Int.not_le, Nat.not_lt, Nat.not_le, Bool.true_eq, Bool.false_eq, reduceCtorEq] at c6
    refine gc_seq fun K4 hK4 => ?_
    refine gc_region ?_
    refine gl_op rfl rfl rfl (op_fieldB 3 rfl Tryd.underlying29 rfl el27 rfl rfl) ?_
    refine gl_op rfl rfl rfl (op_loadB 0 hT hS rfl rfl rfl rfl rfl rfl) ?_
    have hM0 : p.M[0]? = some (p.M.getD 0 []) := by rw [List.getD_eq_getElem?_getD, List.getElem?_eq_getElem (by omega)]; rfl
    obtain ⟨x, hx2⟩ : ∃ x, SM[0]? = some x := ⟨_, List.getElem?_eq_getElem (by omega)⟩
    have hx3 := D.rM.rd 0 x _ hx2 hM0
    obtain ⟨ad, hA, hc⟩ := (D.rM.rS.old hS).at (none, 0, 0) (i := (0 : Int)) (by omega) (by omega)
    have hug : SM.getD ((0 : Int)).toNat (none, 0, 0) = x := by show SM.getD 0 _ = x; rw [List.getD_eq_getElem?_getD, hx2]; rfl
    rw [hug] at hc
    refine gl_op rfl rfl rfl (op_indexAddr hT rfl rfl el26.cellsOf.1 el26.cellsOf.2 rfl rfl (by omega) (by omega) hA) ?_
    refine gl_op rfl rfl rfl (op_load hT rfl rfl rfl rfl hc) ?_
    refine gl_op rfl rfl rfl (op_pure hT rfl) ?_
    first | refine gl_fit hT rfl rfl rfl rfl (by omega) ?_ | refine gl_op rfl rfl rfl (op_pure hT rfl) ?_
    refine gl_op rfl rfl rfl (op_pure hT rfl) ?_
    refine gl_nil ?_
    refine hK4 _ _ ?_
    clear hK4; try clear K4
    refine gc_ret ?_
    try simp only [x_then_ret, x_block_ret]
    refine gk_ret1 rfl rfl ?_
    refine ⟨congrArg (fun z => Ending.returned (Value.int .i64 z)) ?_, hS.below⟩
    rw [hR]
    split <;> omega
  · try simp only [decide_eq_true_eq, decide_eq_false_iff_not, Bool.not_eq_true', Bool.not_eq_false', Int.not_lt, Int.not_le, Nat.not_lt, Nat.not_le, Bool.true_eq, Bool.false_eq, reduceCtorEq] at c6
    refine gc_skip ?_
    refine hK2 _ _ ?_
    clear hK2; try clear K2
    refine gc_seq fun K5 hK5 => ?_
    refine gc_seq fun K6 hK6 => ?_
    refine gc_region ?_
    refine gl_op rfl rfl rfl (op_fieldB 2 rfl Tryd.underlying29 rfl el3 rfl rfl) ?_
    refine gl_op rfl rfl rfl (op_loadB 0 hT hS rfl rfl rfl rfl rfl rfl) ?_
    refine gl_op rfl rfl rfl (op_pure hT rfl) ?_
    refine gl_op rfl rfl rfl (op_pure hT rfl) ?_
    refine gl_split (t := 16) rfl (fun c16 => ?_) (fun c16 => ?_)
    · try simp only [decide_eq_true_eq, decide_eq_false_iff_not, Bool.not_eq_true', Bool.not_eq_false', Int.not_lt, Int.not_le, Nat.not_lt, Nat.not_le, Bool.true_eq, Bool.false_eq, reduceCtorEq] at c16
      refine gl_pass rfl rfl rfl rfl rfl rfl ?_
      refine gl_pass rfl rfl rfl rfl rfl rfl ?_
      refine gl_pass rfl rfl rfl rfl rfl rfl ?_
      refine gl_op rfl rfl rfl (op_pure hT rfl) ?_
      refine gl_nil ?_
      refine hK6 _ _ ?_
      clear hK6; try clear K6
      refine gc_cond_t rfl ?_
      refine gc_seq fun K7 hK7 => ?_
      refine gc_seq fun K8 hK8 => ?_
      refine gc_region ?_
      refine gl_op rfl rfl rfl (op_fieldB 2 rfl Tryd.underlying29 rfl el3 rfl rfl) ?_
      refine gl_op rfl rfl rfl (op_loadB 0 hT hS rfl rfl rfl rfl rfl rfl) ?_
      refine gl_op rfl rfl rfl (op_pure hT rfl) ?_
      refine gl_nil ?_
      refine hK8 _ _ ?_
      clear hK8; try clear K8
      refine gc_cond rfl rfl (fun c23 => ?_) (fun c23 => ?_)
      · try simp only [decide_eq_true_eq, decide_eq_false_iff_not, Bool.not_eq_true', Bool.not_eq_false', Int.not_lt, Int.not_le, Nat.not_lt, Nat.not_le, Bool.true_eq, Bool.false_eq, reduceCtorEq] at c23
        refine gc_seq fun K9 hK9 => ?_
        refine gc_region ?_
        refine gl_op rfl rfl rfl (op_pure hT rfl) ?_
        refine gl_nil ?_
        refine hK9 _ _ ?_
        clear hK9; try clear K9
        refine gc_ret ?_
        try simp only [x_then_ret, x_block_ret]
        refine gk_ret1 rfl rfl ?_
        refine ⟨congrArg (fun z => Ending.returned (Value.int .i64 z)) ?_, hS.below⟩
        rw [hR]
        split <;> omega
      · try simp only [decide_eq_true_eq, decide_eq_false_iff_not, Bool.not_eq_true', Bool.not_eq_false', Int.not_lt, Int.not_le, Nat.not_lt, Nat.not_le, Bool.true_eq, Bool.false_eq, reduceCtorEq] at c23
        refine gc_skip ?_
        refine hK7 _ _ ?_
        clear hK7; try clear K7
        refine gc_seq fun K10 hK10 => ?_
        refine gc_region ?_
        refine gl_op rfl rfl rfl (op_pure hT rfl) ?_
        refine gl_nil ?_
        refine hK10 _ _ ?_
        clear hK10; try clear K10
        refine gc_ret ?_
        try simp only [x_then_ret, x_block_ret]
        refine gk_ret1 rfl rfl ?_
        refine ⟨congrArg (fun z => Ending.returned (Value.int .i64 z)) ?_, hS.below⟩
        rw [hR]
        split <;> omega
    · try simp only [decide_eq_true_eq, decide_eq_false_iff_not, Bool.not_eq_true', Bool.not_eq_false', Int.not_lt, Int.not_le, Nat.not_lt, Nat.not_le, Bool.true_eq, Bool.false_eq, reduceCtorEq] at c16
      refine gl_un rfl rfl rfl rfl ?_
      refine gl_op rfl rfl rfl (op_fieldB 2 rfl Tryd.underlying29 rfl el3 rfl rfl) ?_
      refine gl_un rfl rfl rfl rfl ?_
      refine gl_op rfl rfl rfl (op_loadB 0 hT hS rfl rfl rfl rfl rfl rfl) ?_
      refine gl_un rfl rfl rfl rfl ?_
      refine gl_op rfl rfl rfl (op_pure hT rfl) ?_
      refine gl_op rfl rfl rfl (op_pure hT rfl) ?_
      refine gl_nil ?_
      refine hK6 _ _ ?_
      clear hK6; try clear K6
      refine gc_cond rfl rfl (fun c20 => ?_) (fun c20 => ?_)
      · try simp only [decide_eq_true_eq, decide_eq_false_iff_not, Bool.not_eq_true', Bool.not_eq_false', Int.not_lt, Int.not_le, Nat.not_lt, Nat.not_le, Bool.true_eq, Bool.false_eq, reduceCtorEq] at c20
        refine gc_seq fun K11 hK11 => ?_
        refine gc_seq fun K12 hK12 => ?_
        refine gc_region ?_
        refine gl_op rfl rfl rfl (op_fieldB 2 rfl Tryd.underlying29 rfl el3 rfl rfl) ?_
        refine gl_op rfl rfl rfl (op_loadB 0 hT hS rfl rfl rfl rfl rfl rfl) ?_
        refine gl_op rfl rfl rfl (op_pure hT rfl) ?_
        refine gl_nil ?_
        refine hK12 _ _ ?_
        clear hK12; try clear K12
        refine gc_cond rfl rfl (fun c23 => ?_) (fun c23 => ?_)
        · try simp only [decide_eq_true_eq, decide_eq_false_iff_not, Bool.not_eq_true', Bool.not_eq_false', Int.not_lt, Int.not_le, Nat.not_lt, Nat.not_le, Bool.true_eq, Bool.false_eq, reduceCtorEq] at c23
          refine gc_seq fun K13 hK13 => ?_
          refine gc_region ?_
          refine gl_op rfl rfl rfl (op_pure hT rfl) ?_
          refine gl_nil ?_
          refine hK13 _ _ ?_
          clear hK13; try clear K13
          refine gc_ret ?_
          try simp only [x_then_ret, x_block_ret]
          refine gk_ret1 rfl rfl ?_
          refine ⟨congrArg (fun z => Ending.returned (Value.int .i64 z)) ?_, hS.below⟩
          rw [hR]
          split <;> omega
        · try simp only [decide_eq_true_eq, decide_eq_false_iff_not, Bool.not_eq_true', Bool.not_eq_false', Int.not_lt, Int.not_le, Nat.not_lt, Nat.not_le, Bool.true_eq, Bool.false_eq, reduceCtorEq] at c23
          refine gc_skip ?_
          refine hK11 _ _ ?_
          clear hK11; try clear K11
          refine gc_seq fun K14 hK14 => ?_
          refine gc_region ?_
          refine gl_op rfl rfl rfl (op_pure hT rfl) ?_
          refine gl_nil ?_
          refine hK14 _ _ ?_
          clear hK14; try clear K14
          refine gc_ret ?_
          try simp only [x_then_ret, x_block_ret]
          refine gk_ret1 rfl rfl ?_
          refine ⟨congrArg (fun z => Ending.returned (Value.int .i64 z)) ?_, hS.below⟩
          rw [hR]
          split <;> omega
      · try simp only [decide_eq_true_eq, decide_eq_false_iff_not, Bool.not_eq_true', Bool.not_eq_false', Int.not_lt, Int.not_le, Nat.not_lt, Nat.not_le, Bool.true_eq, Bool.false_eq, reduceCtorEq] at c20
        refine gc_skip ?_
        refine hK5 _ _ ?_
        clear hK5; try clear K5
        refine gc_seq fun K15 hK15 => ?_
        refine gc_region ?_
        refine gl_op rfl rfl rfl (op_fieldB 2 rfl Tryd.underlying29 rfl el3 rfl rfl) ?_
        refine gl_op rfl rfl rfl (op_loadB 0 hT hS rfl rfl rfl rfl rfl rfl) ?_
        first | refine gl_fit hT rfl rfl rfl rfl (by omega) ?_ | refine gl_op rfl rfl rfl (op_pure hT rfl) ?_
        refine gl_op rfl rfl rfl (op_pure hT rfl) ?_
        refine gl_nil ?_
        refine hK15 _ _ ?_
        clear hK15; try clear K15
        refine gc_ret ?_
        try simp only [x_then_ret, x_block_ret]
        refine gk_ret1 rfl rfl ?_
        refine ⟨congrArg (fun z => Ending.returned (Value.int .i64 z)) ?_, hS.below⟩
        rw [hR]
        split <;> omega
set_option maxRecDepth 100000 in
theorem rCheckForm_calls (C G M : Sv) (SG SM : List Sv) (p : Px) (w : World) {ok : Nat → Prop} (D : PrU w ok C G M SG SM p) :
    Calls Tryd.prog 16 ⟨[.agg ⟨propC C G M p⟩]⟩ w fun e w' => e = .returned (.tuple #[.int .i64 (formV p).1, .int .i64 (formV p).2]) ∧ Below w.heap.size w w' := by
  have hnC := D.nC
  have hlC := D.lC
  have hi : i64 (leastV p) := by
    have h1 := D.iT
    unfold leastV
    split
    · rename_i h0
      have hx : p.M[0]? = some (p.M.getD 0 []) := by rw [List.getD_eq_getElem?_getD, List.getElem?_eq_getElem h0]; rfl
      have hl := D.rM.len
      obtain ⟨x, hx2⟩ : ∃ x, SM[0]? = some x := ⟨_, List.getElem?_eq_getElem (by omega)⟩
      have := (D.rM.rd 0 x _ hx2 hx).2.2.1
      unfold i64
      omega
    · unfold i64 at h1 ⊢
      omega
  obtain ⟨R, hR⟩ : ∃ R, R = formV p := ⟨_, rfl⟩
  rw [← hR]
  unfold formV at hR
  obtain ⟨C1, C2, C3⟩ := C
  simp only at hnC
  subst hnC
  refine gc_enter (N := 23) Tryd.func16 rfl rfl rfl [(0, _)] rfl ?_
  have hS := St.start w
  refine gc_seq fun K1 hK1 => ?_
  refine gc_region ?_
  refine gl_box hS rfl rfl rfl rfl rfl fun g1 w1 hS => ?_
  refine gl_op rfl rfl rfl (op_pure hT rfl) ?_
  refine gl_op rfl rfl rfl (op_pure hT rfl) ?_
  refine gl_nil ?_
  refine hK1 _ _ ?_
  clear hK1; try clear K1
  refine gc_seq fun K2 hK2 => ?_
  refine gc_seq fun K3 hK3 => ?_
  refine gc_region ?_
  refine gl_op rfl rfl rfl (op_fieldB 0 rfl Tryd.underlying29 rfl el26 rfl rfl) ?_
  refine gl_op rfl rfl rfl (op_loadB 0 hT hS rfl rfl rfl rfl rfl rfl) ?_
  refine gl_op rfl rfl rfl (op_pure hT rfl) ?_
  refine gl_op rfl rfl rfl (op_pure hT rfl) ?_
  refine gl_op rfl rfl rfl (op_pure hT rfl) ?_
  refine gl_split (t := 8) rfl (fun c8 => ?_) (fun c8 => ?_)
  · try simp only [decide_eq_true_eq, decide_eq_false_iff_not, Bool.not_eq_true', Bool.not_eq_false', Int.not_lt, Int.not_le, Nat.not_lt, Nat.not_le, Bool.true_eq, Bool.false_eq, reduceCtorEq] at c8
    refine gl_pass rfl rfl rfl rfl rfl rfl ?_
    refine gl_pass rfl rfl rfl rfl rfl rfl ?_
    refine gl_pass rfl rfl rfl rfl rfl rfl ?_
    refine gl_pass rfl rfl rfl rfl rfl rfl ?_
    refine gl_op rfl rfl rfl (op_pure hT rfl) ?_
    refine gl_nil ?_
    refine hK3 _ _ ?_
    clear hK3; try clear K3
    refine gc_cond_t rfl ?_
    refine gc_seq fun K4 hK4 => ?_
    refine gc_region ?_
    refine gl_op rfl rfl rfl (op_pure hT rfl) ?_
    refine gl_op rfl rfl rfl (op_pure hT rfl) ?_
    refine gl_nil ?_
    refine hK4 _ _ ?_
    clear hK4; try clear K4
    refine gc_ret ?_
    try simp only [x_then_ret, x_block_ret]
    refine gk_ret2 rfl rfl rfl ?_
    rw [if_pos (by omega)] at hR
    rw [hR]
    exact ⟨rfl, hS.below⟩
  · try simp only [decide_eq_true_eq, decide_eq_false_iff_not, Bool.not_eq_true', Bool.not_eq_false', Int.not_lt, Int.not_le, Nat.not_lt, Nat.not_le, Bool.true_eq, Bool.false_eq, reduceCtorEq] at c8
    refine gl_un rfl rfl rfl rfl ?_
    refine gl_op rfl rfl rfl (op_fieldB 0 rfl Tryd.underlying29 rfl el26 rfl rfl) ?_
    refine gl_un rfl rfl rfl rfl ?_
    refine gl_op rfl rfl rfl (op_loadB 0 hT hS rfl rfl rfl rfl rfl rfl) ?_
    refine gl_un rfl rfl rfl rfl ?_
    refine gl_op rfl rfl rfl (op_pure hT rfl) ?_
    refine gl_un rfl rfl rfl rfl ?_
    refine gl_op rfl rfl rfl (op_pure hT rfl) ?_
    refine gl_op rfl rfl rfl (op_pure hT rfl) ?_
    refine gl_nil ?_
    refine hK3 _ _ ?_
    clear hK3; try clear K3
    refine gc_cond rfl rfl (fun c13 => ?_) (fun c13 => ?_)
    · try simp only [decide_eq_true_eq, decide_eq_false_iff_not, Bool.not_eq_true', Bool.not_eq_false', Int.not_lt, Int.not_le, Nat.not_lt, Nat.not_le, Bool.true_eq, Bool.false_eq, reduceCtorEq] at c13
      refine gc_seq fun K5 hK5 => ?_
      refine gc_region ?_
      refine gl_op rfl rfl rfl (op_pure hT rfl) ?_
      refine gl_op rfl rfl rfl (op_pure hT rfl) ?_
      refine gl_nil ?_
      refine hK5 _ _ ?_
      clear hK5; try clear K5
      refine gc_ret ?_
      try simp only [x_then_ret, x_block_ret]
      refine gk_ret2 rfl rfl rfl ?_
      rw [if_pos (by omega)] at hR
      rw [hR]
      exact ⟨rfl, hS.below⟩
    · try simp only [decide_eq_true_eq, decide_eq_false_iff_not, Bool.not_eq_true', Bool.not_eq_false', Int.not_lt, Int.not_le, Nat.not_lt, Nat.not_le, Bool.true_eq, Bool.false_eq, reduceCtorEq] at c13
      refine gc_skip ?_
      refine hK2 _ _ ?_
      clear hK2; try clear K2
      refine gc_seq fun K6 hK6 => ?_
      refine gc_anyS hS (by kernel_rfl) rfl fun nq3 hK => ?_
      have hS := hS.dr nq3
      refine ga_take 0 rfl rfl rfl rfl (by kernel_rfl) (fun _ _ _ _ h => h) hK (fun w1 hS => op_loadG 0 Tryd.underlying29 rfl el29 hS rfl rfl rfl rfl rfl) ?_
      refine ga_take 1 rfl rfl rfl rfl (by kernel_rfl) (fun _ _ _ _ h => h) hK (fun w1 hS => op_fieldB 0 rfl Tryd.underlying29 rfl el26 rfl rfl) ?_
      refine ga_take 2 rfl rfl rfl rfl (by kernel_rfl) (fun _ _ _ _ h => h) hK (fun w1 hS => op_loadB 0 hT hS rfl rfl rfl rfl rfl rfl) ?_
      refine ga_take 3 rfl rfl rfl rfl (by kernel_rfl) (fun _ _ _ _ h => h) hK (fun w1 hS => op_pure hT rfl) ?_
      refine ga_take 4 rfl rfl rfl rfl (by kernel_rfl) (fun _ _ _ _ h => h) hK (fun w1 hS => op_loadG 0 Tryd.underlying29 rfl el29 hS rfl rfl rfl rfl rfl) ?_
      refine ga_one 5 (by kernel_rfl) rfl ?_
      refine gl_callf rfl rfl rfl rfl Tryd.func34 rfl rfl rfl (least_calls _ G M SG SM p _ (D.old hS)) ?_
      rintro _ w19 ⟨rfl, hb19⟩
      refine ⟨_, rfl, ?_⟩
      have hS := hS.grown hb19
      refine gl_nil ?_
      refine ga_next (hS.pre 1) fun hK => ?_
      refine ga_one 6 (by kernel_rfl) rfl ?_
      rw [if_neg (by omega)] at hR
      refine gl_callf rfl rfl rfl rfl Tryd.func33 rfl rfl rfl (rCheckProp_calls _ G M SG SM p _ (leastV p) _ (D.old hS) hi) ?_
      rintro _ w20 ⟨rfl, hb20⟩
      refine ⟨_, rfl, ?_⟩
      have hS := hS.grown hb20
      rw [← hR]
      refine gl_nil ?_
      refine ga_next (hS.pre 1) fun hK => ?_
      refine ga_take 7 rfl rfl rfl rfl (by kernel_rfl) (fun _ _ _ _ h => h) hK (fun w1 hS => op_pure hT rfl) ?_
      refine ga_take 8 rfl rfl rfl rfl (by kernel_rfl) (fun _ _ _ _ h => h) hK (fun w1 hS => op_pure hT rfl) ?_
      refine ga_take 9 rfl rfl rfl rfl (by kernel_rfl) (fun _ _ _ _ h => h) hK (fun w1 hS => op_pure hT rfl) ?_
      refine ga_take 10 rfl rfl rfl rfl (by kernel_rfl) (fun _ _ _ _ h => h) hK (fun w1 hS => op_pure hT rfl) ?_
      refine ga_done (by kernel_rfl) ?_
      refine hK6 _ _ ?_
      clear hK6; try clear K6
      refine gc_ret ?_
      try simp only [x_then_ret, x_block_ret]
      refine gk_ret2 rfl rfl rfl ?_
      exact ⟨rfl, hS.below⟩
end Go.Proofs.YtnomlloaahoceaaDoor


/- What a reader that goes on tells. No condition. -/
namespace Go.Proofs.YtnomlloaahoceaaDoor
open Go.RowKit
set_option linter.unusedVariables false
set_option linter.unusedSimpArgs false
end Go.Proofs.YtnomlloaahoceaaDoor


/- Contracts of package ambitref8: a question read from bytes. No condition. -/
namespace Go.Proofs.YtnomlloaahoceaaDoor
open Go.RowKit
set_option linter.unusedVariables false
set_option linter.unusedSimpArgs false
end Go.Proofs.YtnomlloaahoceaaDoor

