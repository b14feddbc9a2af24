/- The contract of ambitlaw7.small. No condition. -/
import Derived.Test.YtkfhablonnjgeaaRf8
namespace Go.Proofs.Ytkfhablonnjgeaa
open Go.RowKit
set_option linter.unusedVariables false
set_option linter.unusedSimpArgs false
/-- The word behind a small whole number. -/
def smallW (seed i : Int) : Int :=
  IntKind.u64.wrap (IntKind.u64.wrap (IntKind.u64.wrap (IntKind.u64.wrap seed * 2862933555777941757) + IntKind.u64.wrap (IntKind.u64.wrap i * 3037000493)) + 11)
def smallX (seed i : Int) : Int := IntKind.u64.wrap (Go.bits .xor .u64 (smallW seed i) (smallW seed i / 2 ^ 29) * 11400714819323198485)
/-- A whole number from -9 to 9. -/
def smallV (seed i : Int) : Int := smallX seed i / 2 ^ 40 % 19 - 9
theorem smallX_bd (seed i : Int) : 0 ≤ smallX seed i ∧ smallX seed i < 18446744073709551616 := by
  unfold smallX; rw [IntKind.wrap_u64]; omega
theorem smallV_bd (seed i : Int) : -9 ≤ smallV seed i ∧ smallV seed i ≤ 9 := by
  unfold smallV; omega
theorem small_calls (seed i : Int) (w : World) : Calls Try.prog 18 ⟨[.int .i64 seed, .int .i64 i]⟩ w fun e w' => e = .returned (.int .i64 (smallV seed i)) ∧ Eqv w w' := by
  have hb := smallX_bd seed i
  have hv := smallV_bd seed i
  refine gc_enter (N := 24) Try.func18 rfl rfl rfl [(0, _), (1, _)] rfl ?_
  refine gc_seq fun K1 hK1 => ?_
  refine gc_region ?_
  refine gl_op rfl rfl rfl (op_pure hT rfl) ?_
  refine gl_nil ?_
  refine hK1 _ _ ?_
  clear hK1; try clear K1
  refine gc_seq fun K2 hK2 => ?_
  refine gc_region ?_
  refine gl_op rfl rfl rfl (op_pure hT rfl) ?_
  refine gl_op rfl rfl rfl (op_pure hT rfl) ?_
  refine gl_op rfl rfl rfl (op_pure hT rfl) ?_
  refine gl_op rfl rfl rfl (op_pure hT rfl) ?_
  refine gl_op rfl rfl rfl (op_pure hT rfl) ?_
  refine gl_op rfl rfl rfl (op_pure hT rfl) ?_
  refine gl_op rfl rfl rfl (op_pure hT rfl) ?_
  refine gl_op rfl rfl rfl (op_pure hT rfl) ?_
  refine gl_op rfl rfl rfl (op_pure hT rfl) ?_
  refine gl_nil ?_
  refine hK2 _ _ ?_
  clear hK2; try clear K2
  refine gc_seq fun K3 hK3 => ?_
  refine gc_region ?_
  refine gl_op rfl rfl rfl (op_pure hT rfl) ?_
  refine gl_op rfl rfl rfl (op_pure hT rfl) ?_
  refine gl_op rfl rfl rfl (op_pure hT rfl) ?_
  refine gl_op rfl rfl rfl (op_pure hT rfl) ?_
  refine gl_op rfl rfl rfl (op_pure hT rfl) ?_
  refine gl_nil ?_
  refine hK3 _ _ ?_
  clear hK3; try clear K3
  refine gc_seq fun K4 hK4 => ?_
  refine gc_region ?_
  refine gl_op rfl rfl rfl (op_pure hT rfl) ?_
  refine gl_op rfl rfl rfl (op_pure hT rfl) ?_
  refine gl_op rfl rfl rfl (op_pure hT rfl) ?_
  refine gl_spell 20 (v := .int .u64 (smallX seed i / 2 ^ 40)) rfl rfl ?_
  refine gl_op rfl rfl rfl (op_rem hT rfl (by omega)) ?_
  refine gl_op rfl rfl rfl (op_pure hT rfl) ?_
  refine gl_spell 22 (v := .int .i64 (smallX seed i / 2 ^ 40 % 19)) rfl (by show Value.int .i64 (IntKind.i64.wrap (smallX seed i / 2 ^ 40 % 19)) = _; rw [i64w (by omega)]) ?_
  first | refine gl_fit hT rfl rfl rfl rfl (by omega) ?_ | refine gl_op rfl rfl rfl (op_pure hT rfl) ?_
  refine gl_op rfl rfl rfl (op_pure hT rfl) ?_
  refine gl_nil ?_
  refine hK4 _ _ ?_
  clear hK4; try clear K4
  refine gc_ret ?_
  try simp only [x_then_ret, x_block_ret]
  refine gk_ret1 rfl rfl ?_
  exact ⟨rfl, Eqv.refl _⟩
end Go.Proofs.Ytkfhablonnjgeaa
