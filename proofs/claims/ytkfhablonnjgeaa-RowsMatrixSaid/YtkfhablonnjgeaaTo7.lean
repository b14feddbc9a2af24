/- The contract of ambitlaw7.told. No condition. -/
import Derived.Test.YtkfhablonnjgeaaRo4
namespace Go.Proofs.Ytkfhablonnjgeaa
open Go.RowKit
set_option linter.unusedVariables false
set_option linter.unusedSimpArgs false
@[reducible] def toldL (Z ZB : Sv) : Ly := ⟨6, 1, 0, 0, 0, 0, 0, 0, 0, 0, (none, 0, 0), (none, 0, 0), Z, ZB⟩
theorem toldL_ok (Z ZB : Sv) : (toldL Z ZB).ok := ⟨show i64 6 by decide, show i64 1 by decide, show i64 0 by decide, show i64 0 by decide, show i64 0 by decide, show i64 0 by decide, show i64 0 by decide, show i64 0 by decide, show i64 0 by decide, show (0 : Nat) < 18446744073709551616 by decide⟩
theorem toldS_ok : (⟨1, 1, 2⟩ : Sh).ok := ⟨by decide, by decide, by decide⟩
theorem told_out (Z ZB : Sv) : outV (toldL Z ZB) ⟨1, 1, 2⟩ = (⟨2, 1, 1⟩, 0) := rfl
theorem told_outS (Z ZB : Sv) : outS (toldL Z ZB) ⟨1, 1, 2⟩ = ⟨2, 1, 1⟩ := rfl
theorem told_row (Z ZB : Sv) : rowV (toldL Z ZB) [] [] [(4607182418800017408, 4611686018427387904)] [(4613937818241073152, 4616189618054758400)] ⟨1, 1, 2⟩ 0 = ⟨[0, 1], [4607182418800017408, 13835058055282163712], 4613937818241073152, 0⟩ := rfl
theorem told_count (Z ZB : Sv) (w : World) : Calls Try.prog 14 ⟨[.agg ⟨lyC (toldL Z ZB)⟩, .agg ⟨shC ⟨1, 1, 2⟩⟩]⟩ w fun e w' => e = .returned (.tuple #[.int .i64 2, .int .i64 0]) ∧ Below w.heap.size w w' := by
  have h := count_calls (toldL Z ZB) ⟨1, 1, 2⟩ w (toldL_ok Z ZB) toldS_ok
  rw [told_out, told_outS] at h
  exact h
theorem told_calls (w : World) : Calls Try.prog 7 ⟨[]⟩ w fun e w' => e = .returned (.bool true) ∧ Below w.heap.size w w' := by
  refine gc_enter (N := 77) Try.func7 rfl rfl rfl [] rfl ?_
  have hS := St.start w
  refine gc_seq fun K1 hK1 => ?_
  refine gc_region ?_
  refine gl_op rfl rfl rfl (op_pure hT rfl) ?_
  refine gl_nil ?_
  refine hK1 _ _ ?_
  clear hK1; try clear K1
  refine gc_seq fun K2 hK2 => ?_
  refine gc_region ?_
  refine gl_lit hT hS el52 rfl rfl rfl rfl rfl rfl rfl rfl rfl fun g9 w9 hS => ?_
  refine gl_lit hT hS el52 rfl rfl rfl rfl rfl rfl rfl rfl rfl fun g10 w10 hS => ?_
  refine gl_op rfl rfl rfl (op_buildG rfl plan32 rfl rfl) ?_
  refine gl_alloc el32 hS rfl rfl rfl rfl fun g1 w1 hS => ?_
  refine gl_storeM 2 hS el32 rfl rfl rfl rfl rfl rfl rfl rfl rfl fun wlaw_go_14 hS => ?_
  refine gl_nil ?_
  refine hK2 _ _ ?_
  clear hK2; try clear K2
  refine gc_seq fun K3 hK3 => ?_
  refine gc_region ?_
  refine gl_op rfl rfl rfl (op_loadG 2 Try.underlying32 rfl el32 hS rfl rfl rfl rfl rfl) ?_
  refine gl_op rfl rfl rfl (op_buildG rfl plan27 rfl rfl) ?_
  have hS : St w.heap.size w _ [.row (some ⟨g9, 0, none⟩) 1 52 1 1 [cV (4607182418800017408, 4611686018427387904)], .row (some ⟨g10, 0, none⟩) 1 52 1 1 [cV (4613937818241073152, 4616189618054758400)], .blk g1 32 (lyC (toldL (some ⟨g9, 0, none⟩, 1, 1) (some ⟨g10, 0, none⟩, 1, 1)))] := hS
  refine gl_callf rfl rfl rfl rfl Try.func15 rfl rfl rfl (row_calls (toldL (some ⟨g9, 0, none⟩, 1, 1) (some ⟨g10, 0, none⟩, 1, 1)) [] [] [(4607182418800017408, 4611686018427387904)] [(4613937818241073152, 4616189618054758400)] ⟨1, 1, 2⟩ 0 _ (toldL_ok _ _) toldS_ok (ok := All)
    ⟨RdE.nil _ _, rfl, Nat.le_refl _, RdE.nil _ _, rfl, Nat.le_refl _, hS.rdE (i := 0) rfl, rfl, Nat.le_refl _, hS.rdE (i := 1) rfl, rfl, Nat.le_refl _, by decide, by decide, by decide, by decide, by decide⟩ (by decide) ⟨[0, 1], [4607182418800017408, 13835058055282163712], 4613937818241073152, 0⟩ (told_row _ _).symm) ?_
  rintro _ w15 ⟨A1, c1, A2, c2, rfl, hr1, hr2, hb15⟩
  refine ⟨_, rfl, ?_⟩
  have hS := hS.grown hb15
  refine gl_op rfl rfl rfl (op_pure hT rfl) ?_
  refine gl_op rfl rfl rfl (op_pure hT rfl) ?_
  refine gl_op rfl rfl rfl (op_pure hT rfl) ?_
  refine gl_op rfl rfl rfl (op_pure hT rfl) ?_
  refine gl_op rfl rfl rfl (op_pure hT rfl) ?_
  refine gl_op rfl rfl rfl (op_pure hT rfl) ?_
  refine gl_op rfl rfl rfl (op_pure hT rfl) ?_
  refine gl_op rfl rfl rfl (op_pure hT rfl) ?_
  refine gl_op rfl rfl rfl (op_pure hT rfl) ?_
  refine gl_nil ?_
  refine hK3 _ _ ?_
  clear hK3; try clear K3
  refine gc_seq fun K4 hK4 => ?_
  refine gc_region ?_
  refine gl_op rfl rfl rfl (op_loadG 2 Try.underlying32 rfl el32 hS rfl rfl rfl rfl rfl) ?_
  refine gl_op rfl rfl rfl (op_buildG rfl plan27 rfl rfl) ?_
  refine gl_callf rfl rfl rfl rfl Try.func14 rfl rfl rfl (told_count _ _ _) ?_
  rintro _ w23 ⟨rfl, hb23⟩
  refine ⟨_, rfl, ?_⟩
  have hS := hS.grown hb23
  refine gl_op rfl rfl rfl (op_pure hT rfl) ?_
  refine gl_op rfl rfl rfl (op_pure hT rfl) ?_
  refine gl_op rfl rfl rfl (op_pure hT rfl) ?_
  refine gl_op rfl rfl rfl (op_pure hT rfl) ?_
  refine gl_op rfl rfl rfl (op_pure hT rfl) ?_
  refine gl_nil ?_
  refine hK4 _ _ ?_
  clear hK4; try clear K4
  refine gc_seq fun K5 hK5 => ?_
  refine gc_region ?_
  refine gl_op rfl rfl rfl (op_pure hT rfl) ?_
  refine gl_op rfl rfl rfl (op_pure hT rfl) ?_
  refine gl_op rfl rfl rfl (op_pure hT rfl) ?_
  refine gl_un rfl rfl rfl rfl ?_
  refine gl_op rfl rfl rfl (op_pure hT rfl) ?_
  refine gl_un rfl rfl rfl rfl ?_
  refine gl_op rfl rfl rfl (op_pure hT rfl) ?_
  refine gl_op rfl rfl rfl (op_pure hT rfl) ?_
  refine gl_op rfl rfl rfl (op_pure hT rfl) ?_
  refine gl_un rfl rfl rfl rfl ?_
  refine gl_op rfl rfl rfl (op_pure hT rfl) ?_
  refine gl_un rfl rfl rfl rfl ?_
  refine gl_op rfl rfl rfl (op_pure hT rfl) ?_
  refine gl_op rfl rfl rfl (op_pure hT rfl) ?_
  refine gl_op rfl rfl rfl (op_pure hT rfl) ?_
  refine gl_un rfl rfl rfl rfl ?_
  refine gl_op rfl rfl rfl (op_pure hT rfl) ?_
  refine gl_un rfl rfl rfl rfl ?_
  refine gl_op rfl rfl rfl (op_pure hT rfl) ?_
  refine gl_un rfl rfl rfl rfl ?_
  refine gl_op rfl rfl rfl (op_pure hT rfl) ?_
  refine gl_op rfl rfl rfl (op_pure hT rfl) ?_
  refine gl_op rfl rfl rfl (op_pure hT rfl) ?_
  refine gl_un rfl rfl rfl rfl ?_
  refine gl_op rfl rfl rfl (op_pure hT rfl) ?_
  refine gl_un rfl rfl rfl rfl ?_
  refine gl_op rfl rfl rfl (op_pure hT rfl) ?_
  refine gl_un rfl rfl rfl rfl ?_
  refine gl_op rfl rfl rfl (op_pure hT rfl) ?_
  refine gl_op rfl rfl rfl (op_pure hT rfl) ?_
  refine gl_op rfl rfl rfl (op_pure hT rfl) ?_
  refine gl_un rfl rfl rfl rfl ?_
  refine gl_op rfl rfl rfl (op_pure hT rfl) ?_
  refine gl_un rfl rfl rfl rfl ?_
  obtain ⟨ad48, hA48, hc48⟩ := (hr2.below hb23).at 0 (i := 0) (by decide) (by decide)
  refine gl_op rfl rfl rfl (op_indexAddr hT rfl rfl el28.cellsOf.1 el28.cellsOf.2 rfl rfl (by decide) (by decide) hA48) ?_
  refine gl_un rfl rfl rfl rfl ?_
  refine gl_op rfl rfl rfl (op_load hT rfl rfl rfl rfl hc48) ?_
  refine gl_un rfl rfl rfl rfl ?_
  refine gl_op rfl rfl rfl (op_fcmp rfl rfl rfl rfl) ?_
  refine gl_op rfl rfl rfl (op_pure hT rfl) ?_
  refine gl_op rfl rfl rfl (op_pure hT rfl) ?_
  refine gl_un rfl rfl rfl rfl ?_
  refine gl_op rfl rfl rfl (op_pure hT rfl) ?_
  refine gl_un rfl rfl rfl rfl ?_
  obtain ⟨ad54, hA54, hc54⟩ := (hr2.below hb23).at 0 (i := 1) (by decide) (by decide)
  refine gl_op rfl rfl rfl (op_indexAddr hT rfl rfl el28.cellsOf.1 el28.cellsOf.2 rfl rfl (by decide) (by decide) hA54) ?_
  refine gl_un rfl rfl rfl rfl ?_
  refine gl_op rfl rfl rfl (op_load hT rfl rfl rfl rfl hc54) ?_
  refine gl_un rfl rfl rfl rfl ?_
  refine gl_op rfl rfl rfl (op_fcmp rfl rfl rfl rfl) ?_
  refine gl_op rfl rfl rfl (op_pure hT rfl) ?_
  refine gl_op rfl rfl rfl (op_pure hT rfl) ?_
  refine gl_un rfl rfl rfl rfl ?_
  refine gl_op rfl rfl rfl (op_pure hT rfl) ?_
  refine gl_un rfl rfl rfl rfl ?_
  refine gl_op rfl rfl rfl (op_fcmp rfl rfl rfl rfl) ?_
  refine gl_op rfl rfl rfl (op_pure hT rfl) ?_
  refine gl_op rfl rfl rfl (op_pure hT rfl) ?_
  refine gl_nil ?_
  refine hK5 _ _ ?_
  clear hK5; try clear K5
  refine gc_seq fun K6 hK6 => ?_
  refine gc_region ?_
  refine gl_op rfl rfl rfl (op_pure hT rfl) ?_
  refine gl_op rfl rfl rfl (op_pure hT rfl) ?_
  refine gl_un rfl rfl rfl rfl ?_
  refine gl_callf rfl rfl rfl rfl Try.func8 rfl rfl rfl (linear_calls 5 _) ?_
  rintro _ _ ⟨rfl, n64, rfl⟩
  refine ⟨_, rfl, ?_⟩
  have hS := hS.dr n64
  refine gl_op rfl rfl rfl (op_pure hT rfl) ?_
  refine gl_op rfl rfl rfl (op_pure hT rfl) ?_
  refine gl_un rfl rfl rfl rfl ?_
  refine gl_callf rfl rfl rfl rfl Try.func8 rfl rfl rfl (linear_calls 7 _) ?_
  rintro _ _ ⟨rfl, n67, rfl⟩
  refine ⟨_, rfl, ?_⟩
  have hS := hS.dr n67
  refine gl_un rfl rfl rfl rfl ?_
  refine gl_op rfl rfl rfl (op_pure hT rfl) ?_
  refine gl_op rfl rfl rfl (op_pure hT rfl) ?_
  refine gl_op rfl rfl rfl (op_pure hT rfl) ?_
  refine gl_un rfl rfl rfl rfl ?_
  refine gl_callf rfl rfl rfl rfl Try.func9 rfl rfl rfl (bent_calls 12 _) ?_
  rintro _ _ ⟨rfl, n71, rfl⟩
  refine ⟨_, rfl, ?_⟩
  have hS := hS.dr n71
  refine gl_op rfl rfl rfl (op_pure hT rfl) ?_
  refine gl_op rfl rfl rfl (op_pure hT rfl) ?_
  refine gl_un rfl rfl rfl rfl ?_
  refine gl_callf rfl rfl rfl rfl Try.func9 rfl rfl rfl (bent_calls 0 _) ?_
  rintro _ _ ⟨rfl, n74, rfl⟩
  refine ⟨_, rfl, ?_⟩
  have hS := hS.dr n74
  refine gl_un rfl rfl rfl rfl ?_
  refine gl_op rfl rfl rfl (op_pure hT rfl) ?_
  refine gl_op rfl rfl rfl (op_pure hT rfl) ?_
  refine gl_op rfl rfl rfl (op_pure hT rfl) ?_
  refine gl_nil ?_
  refine hK6 _ _ ?_
  clear hK6; try clear K6
  refine gc_ret ?_
  try simp only [x_then_ret, x_block_ret]
  refine gk_ret1 rfl rfl ?_
  exact ⟨by first | rfl | simp, hS.below⟩
theorem RowsKinds_calls (k : Int) (w : World) : Calls Try.prog 3 ⟨[.int .i64 k]⟩ w fun e w' => e = .returned (.bool true) ∧ Below w.heap.size w w' := by
  refine gc_enter (N := 26) Try.func3 rfl rfl rfl [(0, _)] rfl ?_
  have hS := St.start w
  refine gc_seq fun K1 hK1 => ?_
  refine gc_region ?_
  refine gl_op rfl rfl rfl (op_pure hT rfl) ?_
  refine gl_nil ?_
  refine hK1 _ _ ?_
  clear hK1; try clear K1
  refine gc_seq fun K2 hK2 => ?_
  refine gc_region ?_
  refine gl_callf rfl rfl rfl rfl Try.func7 rfl rfl rfl (told_calls _) ?_
  rintro _ w3 ⟨rfl, hb3⟩
  refine ⟨_, rfl, ?_⟩
  have hS := hS.grown hb3
  refine gl_op rfl rfl rfl (op_pure hT rfl) ?_
  refine gl_un rfl rfl rfl rfl ?_
  refine gl_op rfl rfl rfl (op_pure hT rfl) ?_
  refine gl_un rfl rfl rfl rfl ?_
  refine gl_callf rfl rfl rfl rfl Try.func8 rfl rfl rfl (linear_calls k _) ?_
  rintro _ _ ⟨rfl, n6, rfl⟩
  refine ⟨_, rfl, ?_⟩
  have hS := hS.dr n6
  refine gl_un rfl rfl rfl rfl ?_
  refine gl_op rfl rfl rfl (op_pure hT rfl) ?_
  refine gl_un rfl rfl rfl rfl ?_
  refine gl_op rfl rfl rfl (op_pure hT rfl) ?_
  refine gl_un rfl rfl rfl rfl ?_
  refine gl_op rfl rfl rfl (op_pure hT rfl) ?_
  refine gl_split (t := 9) rfl (fun c9 => ?_) (fun c9 => ?_)
  · try simp only [decide_eq_true_eq, decide_eq_false_iff_not, Bool.not_eq_true', Bool.not_eq_false', Int.not_lt, Int.not_le, Nat.not_lt, Nat.not_le, Bool.true_eq, Bool.false_eq, reduceCtorEq] at c9
    refine gl_un rfl rfl rfl rfl ?_
    refine gl_op rfl rfl rfl (op_pure hT rfl) ?_
    refine gl_un rfl rfl rfl rfl ?_
    refine gl_op rfl rfl rfl (op_pure hT rfl) ?_
    refine gl_un rfl rfl rfl rfl ?_
    refine gl_op rfl rfl rfl (op_pure hT rfl) ?_
    refine gl_un rfl rfl rfl rfl ?_
    refine gl_op rfl rfl rfl (op_pure hT rfl) ?_
    refine gl_spell 13 (v := .bool true) rfl (by congr 1; rw [beq_iff_eq]; first | (rw [decide_eq_decide]; omega) | (rw [decide_eq_false_iff_not]; omega)) ?_
    refine gl_op rfl rfl rfl (op_pure hT rfl) ?_
    refine gl_op rfl rfl rfl (op_pure hT rfl) ?_
    refine gl_un rfl rfl rfl rfl ?_
    refine gl_op rfl rfl rfl (op_pure hT rfl) ?_
    refine gl_un rfl rfl rfl rfl ?_
    refine gl_callf rfl rfl rfl rfl Try.func9 rfl rfl rfl (bent_calls k _) ?_
    rintro _ _ ⟨rfl, n17, rfl⟩
    refine ⟨_, rfl, ?_⟩
    have hS := hS.dr n17
    refine gl_un rfl rfl rfl rfl ?_
    refine gl_op rfl rfl rfl (op_pure hT rfl) ?_
    refine gl_un rfl rfl rfl rfl ?_
    refine gl_op rfl rfl rfl (op_pure hT rfl) ?_
    refine gl_un rfl rfl rfl rfl ?_
    refine gl_op rfl rfl rfl (op_pure hT rfl) ?_
    refine gl_split (t := 20) rfl (fun c20 => ?_) (fun c20 => ?_)
    · try simp only [decide_eq_true_eq, decide_eq_false_iff_not, Bool.not_eq_true', Bool.not_eq_false', Int.not_lt, Int.not_le, Nat.not_lt, Nat.not_le, Bool.true_eq, Bool.false_eq, reduceCtorEq] at c20
      refine gl_un rfl rfl rfl rfl ?_
      refine gl_op rfl rfl rfl (op_pure hT rfl) ?_
      refine gl_un rfl rfl rfl rfl ?_
      refine gl_op rfl rfl rfl (op_pure hT rfl) ?_
      refine gl_un rfl rfl rfl rfl ?_
      refine gl_op rfl rfl rfl (op_pure hT rfl) ?_
      refine gl_un rfl rfl rfl rfl ?_
      refine gl_op rfl rfl rfl (op_pure hT rfl) ?_
      refine gl_spell 24 (v := .bool true) rfl (by congr 1; rw [beq_iff_eq]; first | (rw [decide_eq_decide]; omega) | (rw [decide_eq_false_iff_not]; omega)) ?_
      refine gl_op rfl rfl rfl (op_pure hT rfl) ?_
      refine gl_op rfl rfl rfl (op_pure hT rfl) ?_
      refine gl_nil ?_
      refine hK2 _ _ ?_
      clear hK2; try clear K2
      refine gc_ret ?_
      try simp only [x_then_ret, x_block_ret]
      refine gk_ret1 rfl rfl ?_
      exact ⟨rfl, hS.below⟩
    · try simp only [decide_eq_true_eq, decide_eq_false_iff_not, Bool.not_eq_true', Bool.not_eq_false', Int.not_lt, Int.not_le, Nat.not_lt, Nat.not_le, Bool.true_eq, Bool.false_eq, reduceCtorEq] at c20
      refine gl_pass rfl rfl rfl rfl rfl rfl ?_
      refine gl_pass rfl rfl rfl rfl rfl rfl ?_
      refine gl_un rfl rfl rfl rfl ?_
      refine gl_op rfl rfl rfl (op_pure hT rfl) ?_
      refine gl_un rfl rfl rfl rfl ?_
      refine gl_op rfl rfl rfl (op_pure hT rfl) ?_
      refine gl_spell 24 (v := .bool true) rfl (by congr 1; rw [beq_iff_eq]; first | (rw [decide_eq_decide]; omega) | (rw [decide_eq_false_iff_not]; omega)) ?_
      refine gl_op rfl rfl rfl (op_pure hT rfl) ?_
      refine gl_op rfl rfl rfl (op_pure hT rfl) ?_
      refine gl_nil ?_
      refine hK2 _ _ ?_
      clear hK2; try clear K2
      refine gc_ret ?_
      try simp only [x_then_ret, x_block_ret]
      refine gk_ret1 rfl rfl ?_
      exact ⟨rfl, hS.below⟩
  · try simp only [decide_eq_true_eq, decide_eq_false_iff_not, Bool.not_eq_true', Bool.not_eq_false', Int.not_lt, Int.not_le, Nat.not_lt, Nat.not_le, Bool.true_eq, Bool.false_eq, reduceCtorEq] at c9
    refine gl_pass rfl rfl rfl rfl rfl rfl ?_
    refine gl_pass rfl rfl rfl rfl rfl rfl ?_
    refine gl_un rfl rfl rfl rfl ?_
    refine gl_op rfl rfl rfl (op_pure hT rfl) ?_
    refine gl_un rfl rfl rfl rfl ?_
    refine gl_op rfl rfl rfl (op_pure hT rfl) ?_
    refine gl_spell 13 (v := .bool true) rfl (by congr 1; rw [beq_iff_eq]; first | (rw [decide_eq_decide]; omega) | (rw [decide_eq_false_iff_not]; omega)) ?_
    refine gl_op rfl rfl rfl (op_pure hT rfl) ?_
    refine gl_op rfl rfl rfl (op_pure hT rfl) ?_
    refine gl_un rfl rfl rfl rfl ?_
    refine gl_op rfl rfl rfl (op_pure hT rfl) ?_
    refine gl_un rfl rfl rfl rfl ?_
    refine gl_callf rfl rfl rfl rfl Try.func9 rfl rfl rfl (bent_calls k _) ?_
    rintro _ _ ⟨rfl, n17, rfl⟩
    refine ⟨_, rfl, ?_⟩
    have hS := hS.dr n17
    refine gl_un rfl rfl rfl rfl ?_
    refine gl_op rfl rfl rfl (op_pure hT rfl) ?_
    refine gl_un rfl rfl rfl rfl ?_
    refine gl_op rfl rfl rfl (op_pure hT rfl) ?_
    refine gl_un rfl rfl rfl rfl ?_
    refine gl_op rfl rfl rfl (op_pure hT rfl) ?_
    refine gl_split (t := 20) rfl (fun c20 => ?_) (fun c20 => ?_)
    · try simp only [decide_eq_true_eq, decide_eq_false_iff_not, Bool.not_eq_true', Bool.not_eq_false', Int.not_lt, Int.not_le, Nat.not_lt, Nat.not_le, Bool.true_eq, Bool.false_eq, reduceCtorEq] at c20
      refine gl_un rfl rfl rfl rfl ?_
      refine gl_op rfl rfl rfl (op_pure hT rfl) ?_
      refine gl_un rfl rfl rfl rfl ?_
      refine gl_op rfl rfl rfl (op_pure hT rfl) ?_
      refine gl_un rfl rfl rfl rfl ?_
      refine gl_op rfl rfl rfl (op_pure hT rfl) ?_
      refine gl_un rfl rfl rfl rfl ?_
      refine gl_op rfl rfl rfl (op_pure hT rfl) ?_
      refine gl_spell 24 (v := .bool true) rfl (by congr 1; rw [beq_iff_eq]; first | (rw [decide_eq_decide]; omega) | (rw [decide_eq_false_iff_not]; omega)) ?_
      refine gl_op rfl rfl rfl (op_pure hT rfl) ?_
      refine gl_op rfl rfl rfl (op_pure hT rfl) ?_
      refine gl_nil ?_
      refine hK2 _ _ ?_
      clear hK2; try clear K2
      refine gc_ret ?_
      try simp only [x_then_ret, x_block_ret]
      refine gk_ret1 rfl rfl ?_
      exact ⟨rfl, hS.below⟩
    · try simp only [decide_eq_true_eq, decide_eq_false_iff_not, Bool.not_eq_true', Bool.not_eq_false', Int.not_lt, Int.not_le, Nat.not_lt, Nat.not_le, Bool.true_eq, Bool.false_eq, reduceCtorEq] at c20
      refine gl_pass rfl rfl rfl rfl rfl rfl ?_
      refine gl_pass rfl rfl rfl rfl rfl rfl ?_
      refine gl_un rfl rfl rfl rfl ?_
      refine gl_op rfl rfl rfl (op_pure hT rfl) ?_
      refine gl_un rfl rfl rfl rfl ?_
      refine gl_op rfl rfl rfl (op_pure hT rfl) ?_
      refine gl_spell 24 (v := .bool true) rfl (by congr 1; rw [beq_iff_eq]; first | (rw [decide_eq_decide]; omega) | (rw [decide_eq_false_iff_not]; omega)) ?_
      refine gl_op rfl rfl rfl (op_pure hT rfl) ?_
      refine gl_op rfl rfl rfl (op_pure hT rfl) ?_
      refine gl_nil ?_
      refine hK2 _ _ ?_
      clear hK2; try clear K2
      refine gc_ret ?_
      try simp only [x_then_ret, x_block_ret]
      refine gk_ret1 rfl rfl ?_
      exact ⟨rfl, hS.below⟩
end Go.Proofs.Ytkfhablonnjgeaa
