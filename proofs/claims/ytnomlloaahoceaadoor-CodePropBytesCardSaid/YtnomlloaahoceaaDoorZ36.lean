/- Contracts of functions that CodePropBytes reaches, and words to say them. No condition. -/
import Derived.Test.YtnomlloaahoceaaDoorZ35
/- Contracts: CodePropBytes. No condition. -/
namespace Go.Proofs.YtnomlloaahoceaaDoor
open Go.RowKit
set_option linter.unusedVariables false
set_option linter.unusedSimpArgs false
theorem CodePropBytes_calls (A : Option Addr) (c : Nat) (l : List UInt8) (w : World) {ok : Nat → Prop} (h1 : RdE w ok uB A l) (hc : l.length ≤ c) (hb : l.length ≤ 140737488351232) :
    Calls Tryd.prog 4 ⟨[.slice A l.length c]⟩ w fun e w' => e = .returned (.bool true) ∧ Below w.heap.size w w' := by
  refine gc_enter (N := 8) Tryd.func4 rfl rfl rfl [(0, _)] rfl ?_
  have hS := St.start w
  refine gc_seq fun K1 hK1 => ?_
  refine gc_region ?_
  refine gl_op rfl rfl rfl (op_pure hT rfl) ?_
  refine gl_nil ?_
  refine hK1 _ _ ?_
  clear hK1; try clear K1
  refine gc_seq fun K2 hK2 => ?_
  refine gc_region ?_
  refine gl_op rfl rfl rfl (op_pure hT rfl) ?_
  refine gl_callf rfl rfl rfl rfl Tryd.func13 rfl rfl rfl (asks_calls A _ c l _ (h1.old hS) rfl hc hb) ?_
  rintro _ w4 ⟨rfl, hb4⟩
  refine ⟨_, rfl, ?_⟩
  have hS := hS.grown hb4
  refine gl_op rfl rfl rfl (op_pure hT rfl) ?_
  refine gl_un rfl rfl rfl rfl ?_
  refine gl_callf rfl rfl rfl rfl Tryd.func12 rfl rfl rfl (started8_calls _) ?_
  rintro _ w6 ⟨rfl, hb6⟩
  refine ⟨_, rfl, ?_⟩
  have hS := hS.grown hb6
  refine gl_op rfl rfl rfl (op_pure hT rfl) ?_
  refine gl_op rfl rfl rfl (op_pure hT rfl) ?_
  refine gl_nil ?_
  refine hK2 _ _ ?_
  clear hK2; try clear K2
  refine gc_ret ?_
  try simp only [x_then_ret, x_block_ret]
  refine gk_ret1 rfl rfl ?_
  exact ⟨rfl, hS.below⟩
end Go.Proofs.YtnomlloaahoceaaDoor

