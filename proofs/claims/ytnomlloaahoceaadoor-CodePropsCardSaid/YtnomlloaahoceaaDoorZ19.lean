/- Contracts of functions that CodeProps reaches, and words to say them. No condition. -/
import Derived.Test.YtnomlloaahoceaaDoorZ17
import Derived.Test.YtnomlloaahoceaaDoorZ18
/- Contracts: bytes laid with marks behind, and whether they stand. No condition. -/
namespace Go.Proofs.YtnomlloaahoceaaDoor
open Go.RowKit
set_option linter.unusedVariables false
set_option linter.unusedSimpArgs false
theorem num8_calls (n : Int) (w : World) : Calls Tryd.prog 9 ⟨[.int .i64 n]⟩ w fun e w' => e = .returned (.int .i64 n) ∧ Eqv w w' := by
  refine gc_enter (N := 4) Tryd.func9 rfl rfl rfl [(0, _)] rfl ?_
  refine gc_seq fun K1 hK1 => ?_
  refine gc_region ?_
  refine gl_op rfl rfl rfl (op_pure hT rfl) ?_
  refine gl_nil ?_
  refine hK1 _ _ ?_
  clear hK1; try clear K1
  refine gc_seq fun K2 hK2 => ?_
  refine gc_region ?_
  refine gl_op rfl rfl rfl (op_pure hT rfl) ?_
  refine gl_op rfl rfl rfl (op_pure hT rfl) ?_
  refine gl_nil ?_
  refine hK2 _ _ ?_
  clear hK2; try clear K2
  refine gc_ret ?_
  try simp only [x_then_ret, x_block_ret]
  refine gk_ret1 rfl rfl ?_
  exact ⟨rfl, Eqv.refl _⟩
theorem same8_calls (A B : Option Addr) (n c n2 c2 : Nat) (l l2 : List UInt8) (w : World) {ok ok2 : Nat → Prop} (hA : RdE w ok uB A l) (hn : n = l.length) (hB : RdE w ok2 uB B l2) (hn2 : n2 = l2.length) (he : l = l2) :
    Calls Tryd.prog 10 ⟨[.slice A n c, .slice B n2 c2]⟩ w fun e w' => e = .returned (.bool true) ∧ Eqv w w' := by
  refine gc_enter (N := 10) Tryd.func10 rfl rfl rfl [(0, _), (1, _)] rfl ?_
  refine gc_seq fun K1 hK1 => ?_
  refine gc_region ?_
  refine gl_op rfl rfl rfl (op_pure hT rfl) ?_
  refine gl_nil ?_
  refine hK1 _ _ ?_
  clear hK1; try clear K1
  refine gc_seq fun K2 hK2 => ?_
  refine gc_region ?_
  refine gl_op rfl rfl rfl (op_pure hT rfl) ?_
  refine gl_op rfl rfl rfl (op_b2s hT hA rfl rfl rfl rfl rfl hn) ?_
  refine gl_op rfl rfl rfl (op_pure hT rfl) ?_
  refine gl_op rfl rfl rfl (op_b2s hT hB rfl rfl rfl rfl rfl hn2) ?_
  refine gl_op rfl rfl rfl (op_pure hT rfl) ?_
  refine gl_op rfl rfl rfl (op_pure hT rfl) ?_
  refine gl_nil ?_
  refine hK2 _ _ ?_
  clear hK2; try clear K2
  refine gc_ret ?_
  try simp only [x_then_ret, x_block_ret]
  refine gk_ret1 rfl rfl ?_
  exact ⟨by subst he; simp, Eqv.refl _⟩
end Go.Proofs.YtnomlloaahoceaaDoor

