/- Contracts of functions that CodePropBytes reaches, and words to say them. No condition. -/
import Derived.Test.YtnomlloaahoceaaDoorZ14
import Derived.Test.YtnomlloaahoceaaDoorZ15
/- Contracts of package code: the form of a question. No condition. -/
namespace Go.Proofs.YtnomlloaahoceaaDoor
open Go.RowKit
set_option linter.unusedVariables false
set_option linter.unusedSimpArgs false
def leastV (p : Px) : Int := if 0 < p.M.length then ((p.M.getD 0 []).length : Int) - 1 else max 2 (min p.T 256 + 1)
def formV (p : Px) : Int × Int := if p.C.length = 0 ∨ 256 < p.C.length then (65, 0) else propV p p.C.length (leastV p)
theorem leastV_i64 {p : Px} {w : World} {ok : Nat → Prop} {C G M : Sv} {SG SM : List Sv} (D : PrM w ok C G M SG SM p) : i64 (leastV p) := by
  have h1 := D.iT
  unfold leastV
  split
  · rename_i h0
    have hx : p.M[0]? = some (p.M.getD 0 []) := by rw [List.getD_eq_getElem?_getD, List.getElem?_eq_getElem h0]; rfl
    have hl := D.rM.len
    obtain ⟨x, hx2⟩ : ∃ x, SM[0]? = some x := ⟨_, List.getElem?_eq_getElem (by omega)⟩
    have := (D.rM.rd 0 x _ hx2 hx).2.2.1
    unfold i64
    omega
  · unfold i64 at h1 ⊢
    omega
set_option maxRecDepth 100000 in
theorem checkForm_calls (C G M : Sv) (SG SM : List Sv) (p : Px) (w : World) {ok : Nat → Prop} (D : PrM w ok C G M SG SM p) :
    Calls Tryd.prog 8 ⟨[.agg ⟨propC C G M p⟩]⟩ w fun e w' => e = .returned (.tuple #[.int .i64 (formV p).1, .int .i64 (formV p).2]) ∧ Below w.heap.size w w' := by
  have hi := leastV_i64 D
  have hiT := D.iT
  have hl := D.rM.len
  have hnC := D.nC
  have hlC := D.lC
  have hnM := D.nM
  obtain ⟨R, hR⟩ : ∃ R, R = formV p := ⟨_, rfl⟩
  rw [← hR]
  unfold formV at hR
  obtain ⟨C1, C2, C3⟩ := C
  obtain ⟨M1, M2, M3⟩ := M
  simp only at hnC hnM
  subst hnC
  subst hnM
  refine gc_enter (N := 38) Tryd.func8 rfl rfl rfl [(0, _)] rfl ?_
  have hS := St.start w
  refine gc_seq fun K1 hK1 => ?_
  refine gc_region ?_
  refine gl_box hS rfl rfl rfl rfl rfl fun g1 w1 hS => ?_
  refine gl_op rfl rfl rfl (op_pure hT rfl) ?_
  refine gl_op rfl rfl rfl (op_pure hT rfl) ?_
  refine gl_nil ?_
  refine hK1 _ _ ?_
  clear hK1; try clear K1
  refine gc_seq fun K2 hK2 => ?_
  refine gc_seq fun K3 hK3 => ?_
  refine gc_region ?_
  refine gl_op rfl rfl rfl (op_fieldB 0 rfl Tryd.underlying25 rfl el22 rfl rfl) ?_
  refine gl_op rfl rfl rfl (op_loadB 0 hT hS rfl rfl rfl rfl rfl rfl) ?_
  refine gl_op rfl rfl rfl (op_pure hT rfl) ?_
  refine gl_op rfl rfl rfl (op_pure hT rfl) ?_
  refine gl_op rfl rfl rfl (op_pure hT rfl) ?_
  refine gl_split (t := 9) rfl (fun c9 => ?_) (fun c9 => ?_)
  · try simp only [decide_eq_true_eq, decide_eq_false_iff_not, Bool.not_eq_true', Bool.not_eq_false', Int.not_lt, Int.not_le, Nat.not_lt, Nat.not_le, Bool.true_eq, Bool.false_eq, reduceCtorEq] at c9
    refine gl_pass rfl rfl rfl rfl rfl rfl ?_
    refine gl_pass rfl rfl rfl rfl rfl rfl ?_
    refine gl_pass rfl rfl rfl rfl rfl rfl ?_
    refine gl_pass rfl rfl rfl rfl rfl rfl ?_
    refine gl_op rfl rfl rfl (op_pure hT rfl) ?_
    refine gl_nil ?_
    refine hK3 _ _ ?_
    clear hK3; try clear K3
    refine gc_cond_t rfl ?_
    refine gc_seq fun K4 hK4 => ?_
    refine gc_region ?_
    refine gl_op rfl rfl rfl (op_pure hT rfl) ?_
    refine gl_op rfl rfl rfl (op_pure hT rfl) ?_
    refine gl_nil ?_
    refine hK4 _ _ ?_
    clear hK4; try clear K4
    refine gc_ret ?_
    try simp only [x_then_ret, x_block_ret]
    refine gk_ret2 rfl rfl rfl ?_
    rw [if_pos (by omega)] at hR
    rw [hR]
    exact ⟨rfl, hS.below⟩
  · try simp only [decide_eq_true_eq, decide_eq_false_iff_not, Bool.not_eq_true', Bool.not_eq_false', Int.not_lt, Int.not_le, Nat.not_lt, Nat.not_le, Bool.true_eq, Bool.false_eq, reduceCtorEq] at c9
    refine gl_un rfl rfl rfl rfl ?_
    refine gl_op rfl rfl rfl (op_fieldB 0 rfl Tryd.underlying25 rfl el22 rfl rfl) ?_
    refine gl_un rfl rfl rfl rfl ?_
    refine gl_op rfl rfl rfl (op_loadB 0 hT hS rfl rfl rfl rfl rfl rfl) ?_
    refine gl_un rfl rfl rfl rfl ?_
    refine gl_op rfl rfl rfl (op_pure hT rfl) ?_
    refine gl_un rfl rfl rfl rfl ?_
    refine gl_op rfl rfl rfl (op_pure hT rfl) ?_
    refine gl_op rfl rfl rfl (op_pure hT rfl) ?_
    refine gl_nil ?_
    refine hK3 _ _ ?_
    clear hK3; try clear K3
    refine gc_cond rfl rfl (fun c14 => ?_) (fun c14 => ?_)
    · try simp only [decide_eq_true_eq, decide_eq_false_iff_not, Bool.not_eq_true', Bool.not_eq_false', Int.not_lt, Int.not_le, Nat.not_lt, Nat.not_le, Bool.true_eq, Bool.false_eq, reduceCtorEq] at c14
      refine gc_seq fun K5 hK5 => ?_
      refine gc_region ?_
      refine gl_op rfl rfl rfl (op_pure hT rfl) ?_
      refine gl_op rfl rfl rfl (op_pure hT rfl) ?_
      refine gl_nil ?_
      refine hK5 _ _ ?_
      clear hK5; try clear K5
      refine gc_ret ?_
      try simp only [x_then_ret, x_block_ret]
      refine gk_ret2 rfl rfl rfl ?_
      rw [if_pos (by omega)] at hR
      rw [hR]
      exact ⟨rfl, hS.below⟩
    · try simp only [decide_eq_true_eq, decide_eq_false_iff_not, Bool.not_eq_true', Bool.not_eq_false', Int.not_lt, Int.not_le, Nat.not_lt, Nat.not_le, Bool.true_eq, Bool.false_eq, reduceCtorEq] at c14
      refine gc_skip ?_
      refine hK2 _ _ ?_
      clear hK2; try clear K2
      refine gc_seq fun K6 hK6 => ?_
      refine gc_region ?_
      refine gl_op rfl rfl rfl (op_fieldB 2 rfl Tryd.underlying25 rfl el3 rfl rfl) ?_
      refine gl_op rfl rfl rfl (op_loadB 0 hT hS rfl rfl rfl rfl rfl rfl) ?_
      refine gl_op rfl rfl rfl (op_min2 rfl rfl rfl) ?_
      first | refine gl_fit hT rfl rfl rfl rfl (by omega) ?_ | refine gl_op rfl rfl rfl (op_pure hT rfl) ?_
      refine gl_op rfl rfl rfl (op_max2 rfl rfl rfl) ?_
      refine gl_op rfl rfl rfl (op_pure hT rfl) ?_
      refine gl_nil ?_
      refine hK6 _ _ ?_
      clear hK6; try clear K6
      refine gc_seq fun K7 hK7 => ?_
      refine gc_seq fun K8 hK8 => ?_
      refine gc_region ?_
      refine gl_op rfl rfl rfl (op_fieldB 3 rfl Tryd.underlying25 rfl el23 rfl rfl) ?_
      refine gl_op rfl rfl rfl (op_loadB 0 hT hS rfl rfl rfl rfl rfl rfl) ?_
      refine gl_op rfl rfl rfl (op_pure hT rfl) ?_
      refine gl_op rfl rfl rfl (op_pure hT rfl) ?_
      refine gl_nil ?_
      refine hK8 _ _ ?_
      clear hK8; try clear K8
      refine gc_cond rfl rfl (fun c23 => ?_) (fun c23 => ?_)
      · try simp only [decide_eq_true_eq, decide_eq_false_iff_not, Bool.not_eq_true', Bool.not_eq_false', Int.not_lt, Int.not_le, Nat.not_lt, Nat.not_le, Bool.true_eq, Bool.false_eq, reduceCtorEq] at c23
        refine gc_region ?_
        refine gl_op rfl rfl rfl (op_fieldB 3 rfl Tryd.underlying25 rfl el23 rfl rfl) ?_
        refine gl_op rfl rfl rfl (op_loadB 0 hT hS rfl rfl rfl rfl rfl rfl) ?_
        have hM0 : p.M[0]? = some (p.M.getD 0 []) := by rw [List.getD_eq_getElem?_getD, List.getElem?_eq_getElem (by omega)]; rfl
        obtain ⟨x, hx2⟩ : ∃ x, SM[0]? = some x := ⟨_, List.getElem?_eq_getElem (by omega)⟩
        have hx3 := D.rM.rd 0 x _ hx2 hM0
        obtain ⟨ad, hA, hc⟩ := (D.rM.rS.old hS).at (none, 0, 0) (i := (0 : Int)) (by omega) (by omega)
        have hug : SM.getD ((0 : Int)).toNat (none, 0, 0) = x := by show SM.getD 0 _ = x; rw [List.getD_eq_getElem?_getD, hx2]; rfl
        rw [hug] at hc
        refine gl_op rfl rfl rfl (op_indexAddr hT rfl rfl el22.cellsOf.1 el22.cellsOf.2 rfl rfl (by omega) (by omega) hA) ?_
        refine gl_op rfl rfl rfl (op_load hT rfl rfl rfl rfl hc) ?_
        refine gl_op rfl rfl rfl (op_pure hT rfl) ?_
        first | refine gl_fit hT rfl rfl rfl rfl (by omega) ?_ | refine gl_op rfl rfl rfl (op_pure hT rfl) ?_
        refine gl_op rfl rfl rfl (op_pure hT rfl) ?_
        refine gl_nil ?_
        refine hK7 _ _ ?_
        clear hK7; try clear K7
        refine gc_seq fun K9 hK9 => ?_
        refine gc_region ?_
        refine gl_op rfl rfl rfl (op_loadG 0 Tryd.underlying25 rfl el25 hS rfl rfl rfl rfl rfl) ?_
        refine gl_op rfl rfl rfl (op_fieldB 0 rfl Tryd.underlying25 rfl el22 rfl rfl) ?_
        refine gl_op rfl rfl rfl (op_loadB 0 hT hS rfl rfl rfl rfl rfl rfl) ?_
        refine gl_op rfl rfl rfl (op_pure hT rfl) ?_
        refine gl_op rfl rfl rfl (op_pure hT rfl) ?_
        refine gl_spell 34 (v := .int .i64 (leastV p)) rfl (congrArg (Value.int .i64) (by unfold leastV; split <;> omega)) ?_
        rw [if_neg (by omega)] at hR
        refine gl_callf rfl rfl rfl rfl Tryd.func23 rfl rfl rfl (checkProp_calls _ G _ SG SM p _ (leastV p) _ (D.old hS)) ?_
        rintro _ w35 ⟨rfl, hb35⟩
        refine ⟨_, rfl, ?_⟩
        have hS := hS.grown hb35
        rw [← hR]
        refine gl_op rfl rfl rfl (op_pure hT rfl) ?_
        refine gl_op rfl rfl rfl (op_pure hT rfl) ?_
        refine gl_op rfl rfl rfl (op_pure hT rfl) ?_
        refine gl_op rfl rfl rfl (op_pure hT rfl) ?_
        refine gl_nil ?_
        refine hK9 _ _ ?_
        clear hK9; try clear K9
        refine gc_ret ?_
        try simp only [x_then_ret, x_block_ret]
        refine gk_ret2 rfl rfl rfl ?_
        exact ⟨rfl, hS.below⟩
      · try simp only [decide_eq_true_eq, decide_eq_false_iff_not, Bool.not_eq_true', Bool.not_eq_false', Int.not_lt, Int.not_le, Nat.not_lt, Nat.not_le, Bool.true_eq, Bool.false_eq, reduceCtorEq] at c23
        refine gc_skip ?_
        refine hK7 _ _ ?_
        clear hK7; try clear K7
        refine gc_seq fun K10 hK10 => ?_
        refine gc_region ?_
        refine gl_op rfl rfl rfl (op_loadG 0 Tryd.underlying25 rfl el25 hS rfl rfl rfl rfl rfl) ?_
        refine gl_op rfl rfl rfl (op_fieldB 0 rfl Tryd.underlying25 rfl el22 rfl rfl) ?_
        refine gl_op rfl rfl rfl (op_loadB 0 hT hS rfl rfl rfl rfl rfl rfl) ?_
        refine gl_op rfl rfl rfl (op_pure hT rfl) ?_
        refine gl_op rfl rfl rfl (op_pure hT rfl) ?_
        refine gl_spell 34 (v := .int .i64 (leastV p)) rfl (congrArg (Value.int .i64) (by unfold leastV; split <;> omega)) ?_
        rw [if_neg (by omega)] at hR
        refine gl_callf rfl rfl rfl rfl Tryd.func23 rfl rfl rfl (checkProp_calls _ G _ SG SM p _ (leastV p) _ (D.old hS)) ?_
        rintro _ w35 ⟨rfl, hb35⟩
        refine ⟨_, rfl, ?_⟩
        have hS := hS.grown hb35
        rw [← hR]
        refine gl_op rfl rfl rfl (op_pure hT rfl) ?_
        refine gl_op rfl rfl rfl (op_pure hT rfl) ?_
        refine gl_op rfl rfl rfl (op_pure hT rfl) ?_
        refine gl_op rfl rfl rfl (op_pure hT rfl) ?_
        refine gl_nil ?_
        refine hK10 _ _ ?_
        clear hK10; try clear K10
        refine gc_ret ?_
        try simp only [x_then_ret, x_block_ret]
        refine gk_ret2 rfl rfl rfl ?_
        exact ⟨rfl, hS.below⟩
end Go.Proofs.YtnomlloaahoceaaDoor

