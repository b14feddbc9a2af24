/- The contract of told. No condition. -/
import Derived.Test.YtpeomdobcobdiaaDoorW8
namespace Go.Proofs.YtpeomdobcobdiaaDoor
open Go.RowKit
set_option linter.unusedVariables false
set_option linter.unusedSimpArgs false
theorem told_uint : uintV 300 = ([172, 2], 0) := by
  unfold uintV
  rw [if_neg (by decide)]
  have : (300 : Int).toNat = 300 := rfl
  rw [this, encU_big (by decide), encU_small (by decide)]
  rfl
theorem told_read : readUV [172, 2] 0 = (300, 2, 0) := by decide
theorem told_frame : frameV [] = (frameB [], 0) := rfl
theorem told_len : readUV [2, 195, 169] 0 = (2, 1, 0) := by decide
theorem told_text : readTextV [2, 195, 169] 0 2 = (⟨#[195, 169]⟩, 3, 0) := by
  unfold readTextV
  rw [told_len]
  decide
theorem rdE_nil {α : Type} {enc : α → Value} (w : World) : RdE w All enc none ([] : List α) := ⟨rfl, fun h => absurd h (by simp)⟩
theorem told_calls (w : World) (hU : Tabs w) :
    Calls Tryd.prog 15 ⟨[]⟩ w fun e w' => e = .returned (.bool true) ∧ Below w.heap.size w w' := by
  refine gc_enter (N := 81) Tryd.func15 rfl rfl rfl [] rfl ?_
  have hS := St.start w
  refine gc_seq fun K1 hK1 => ?_
  refine gc_region ?_
  refine gl_op rfl rfl rfl (op_pure hT rfl) ?_
  refine gl_nil ?_
  refine hK1 _ _ ?_
  clear hK1; try clear K1
  refine gc_seq fun K2 hK2 => ?_
  refine gc_region ?_
  refine gl_callf rfl rfl rfl rfl Tryd.func16 rfl rfl rfl (Uint_calls 300 (by decide) _) ?_
  rintro _ w14 ⟨A14, c14, rfl, hr14, hb14⟩
  refine ⟨_, rfl, ?_⟩
  have hS := hS.addRow hb14 hr14; rw [told_uint] at hS ⊢
  refine gl_op rfl rfl rfl (op_pure hT rfl) ?_
  refine gl_op rfl rfl rfl (op_pure hT rfl) ?_
  refine gl_op rfl rfl rfl (op_pure hT rfl) ?_
  refine gl_op rfl rfl rfl (op_pure hT rfl) ?_
  refine gl_op rfl rfl rfl (op_pure hT rfl) ?_
  refine gl_nil ?_
  refine hK2 _ _ ?_
  clear hK2; try clear K2
  refine gc_seq fun K3 hK3 => ?_
  refine gc_region ?_
  refine gl_lit hT hS el5 rfl rfl rfl rfl rfl rfl rfl rfl rfl fun g18 w18 hS => ?_
  refine gl_callf rfl rfl rfl rfl Tryd.func20 rfl rfl rfl (ReadUint_calls _ _ [172, 2] 0 _ (hS.rdE (l := [172, 2]) (i := 1) rfl) (by decide)) ?_
  rintro _ w19 ⟨rfl, n19, rfl⟩
  refine ⟨_, rfl, ?_⟩
  have hS := hS.dr n19; rw [told_read]
  refine gl_op rfl rfl rfl (op_pure hT rfl) ?_
  refine gl_op rfl rfl rfl (op_pure hT rfl) ?_
  refine gl_op rfl rfl rfl (op_pure hT rfl) ?_
  refine gl_op rfl rfl rfl (op_pure hT rfl) ?_
  refine gl_op rfl rfl rfl (op_pure hT rfl) ?_
  refine gl_op rfl rfl rfl (op_pure hT rfl) ?_
  refine gl_op rfl rfl rfl (op_pure hT rfl) ?_
  refine gl_nil ?_
  refine hK3 _ _ ?_
  clear hK3; try clear K3
  refine gc_seq fun K4 hK4 => ?_
  refine gc_region ?_
  refine gl_callf rfl rfl rfl rfl Tryd.func40 rfl rfl rfl (Frame_calls none 0 [] _ (rdE_nil _) (by decide)) ?_
  rintro _ w24 ⟨A24, c24, rfl, hr24, hb24⟩
  refine ⟨_, rfl, ?_⟩
  have hS := hS.addRow hb24 hr24; rw [told_frame] at hS ⊢
  refine gl_op rfl rfl rfl (op_pure hT rfl) ?_
  refine gl_op rfl rfl rfl (op_pure hT rfl) ?_
  refine gl_op rfl rfl rfl (op_pure hT rfl) ?_
  refine gl_op rfl rfl rfl (op_pure hT rfl) ?_
  refine gl_op rfl rfl rfl (op_pure hT rfl) ?_
  refine gl_nil ?_
  refine hK4 _ _ ?_
  clear hK4; try clear K4
  refine gc_seq fun K5 hK5 => ?_
  refine gc_region ?_
  refine gl_callf rfl rfl rfl rfl Tryd.func41 rfl rfl rfl (rFrame_calls none 0 [] _ (rdE_nil _) (by decide)) ?_
  rintro _ w28 ⟨A28, c28, rfl, hr28, hb28⟩
  refine ⟨_, rfl, ?_⟩
  have hS := hS.addRow hb28 hr28; rw [told_frame] at hS ⊢
  refine gl_op rfl rfl rfl (op_pure hT rfl) ?_
  refine gl_op rfl rfl rfl (op_pure hT rfl) ?_
  refine gl_op rfl rfl rfl (op_pure hT rfl) ?_
  refine gl_op rfl rfl rfl (op_pure hT rfl) ?_
  refine gl_op rfl rfl rfl (op_pure hT rfl) ?_
  refine gl_nil ?_
  refine hK5 _ _ ?_
  clear hK5; try clear K5
  refine gc_seq fun K6 hK6 => ?_
  refine gc_region ?_
  refine gl_lit hT hS el5 rfl rfl rfl rfl rfl rfl rfl rfl rfl fun g32 w32 hS => ?_
  refine gl_callf rfl rfl rfl rfl Tryd.func31 rfl rfl rfl (ReadText_calls _ _ [2, 195, 169] 0 2 _ (hS.rdE (l := [2, 195, 169]) (i := 4) rfl) (by decide) (by decide) (hU.old hS)) ?_
  rintro _ w33 ⟨rfl, hb33⟩
  refine ⟨_, rfl, ?_⟩
  have hS := hS.grown hb33; rw [told_text]
  refine gl_op rfl rfl rfl (op_pure hT rfl) ?_
  refine gl_op rfl rfl rfl (op_pure hT rfl) ?_
  refine gl_op rfl rfl rfl (op_pure hT rfl) ?_
  refine gl_op rfl rfl rfl (op_pure hT rfl) ?_
  refine gl_op rfl rfl rfl (op_pure hT rfl) ?_
  refine gl_op rfl rfl rfl (op_pure hT rfl) ?_
  refine gl_op rfl rfl rfl (op_pure hT rfl) ?_
  refine gl_nil ?_
  refine hK6 _ _ ?_
  clear hK6; try clear K6
  refine gc_seq fun K7 hK7 => ?_
  refine gc_region ?_
  refine gl_op rfl rfl rfl (op_pure hT rfl) ?_
  refine gl_op rfl rfl rfl (op_pure hT rfl) ?_
  refine gl_op rfl rfl rfl (op_pure hT rfl) ?_
  refine gl_un rfl rfl rfl rfl ?_
  refine gl_op rfl rfl rfl (op_pure hT rfl) ?_
  refine gl_un rfl rfl rfl rfl ?_
  refine gl_op rfl rfl rfl (op_pure hT rfl) ?_
  refine gl_op rfl rfl rfl (op_pure hT rfl) ?_
  refine gl_op rfl rfl rfl (op_pure hT rfl) ?_
  refine gl_un rfl rfl rfl rfl ?_
  refine gl_op rfl rfl rfl (op_pure hT rfl) ?_
  refine gl_un rfl rfl rfl rfl ?_
  refine gl_op rfl rfl rfl (op_pure hT rfl) ?_
  refine gl_op rfl rfl rfl (op_pure hT rfl) ?_
  refine gl_op rfl rfl rfl (op_pure hT rfl) ?_
  refine gl_un rfl rfl rfl rfl ?_
  refine gl_op rfl rfl rfl (op_pure hT rfl) ?_
  refine gl_un rfl rfl rfl rfl ?_
  refine gl_op rfl rfl rfl (op_pure hT rfl) ?_
  refine gl_op rfl rfl rfl (op_pure hT rfl) ?_
  refine gl_op rfl rfl rfl (op_pure hT rfl) ?_
  refine gl_un rfl rfl rfl rfl ?_
  refine gl_op rfl rfl rfl (op_pure hT rfl) ?_
  refine gl_un rfl rfl rfl rfl ?_
  refine gl_op rfl rfl rfl (op_pure hT rfl) ?_
  refine gl_op rfl rfl rfl (op_pure hT rfl) ?_
  refine gl_op rfl rfl rfl (op_pure hT rfl) ?_
  refine gl_un rfl rfl rfl rfl ?_
  refine gl_op rfl rfl rfl (op_pure hT rfl) ?_
  refine gl_un rfl rfl rfl rfl ?_
  refine gl_lit hT hS el5 rfl rfl rfl rfl rfl rfl rfl rfl rfl fun g57 w57 hS => ?_
  refine gl_un rfl rfl rfl rfl ?_
  refine gl_callf rfl rfl rfl rfl Tryd.func18 rfl rfl rfl (Same_calls _ _ _ _ [172, 2] [172, 2] _ (hS.rdE (i := 0) rfl) (hS.rdE (l := [172, 2]) (i := 5) rfl) (by decide)) ?_
  rintro _ w58 ⟨rfl, n58, rfl⟩
  refine ⟨_, rfl, ?_⟩
  have hS := hS.dr n58
  refine gl_op rfl rfl rfl (op_pure hT rfl) ?_
  refine gl_op rfl rfl rfl (op_pure hT rfl) ?_
  refine gl_un rfl rfl rfl rfl ?_
  refine gl_op rfl rfl rfl (op_pure hT rfl) ?_
  refine gl_un rfl rfl rfl rfl ?_
  refine gl_op rfl rfl rfl (op_pure hT rfl) ?_
  refine gl_op rfl rfl rfl (op_pure hT rfl) ?_
  refine gl_op rfl rfl rfl (op_pure hT rfl) ?_
  refine gl_un rfl rfl rfl rfl ?_
  refine gl_op rfl rfl rfl (op_pure hT rfl) ?_
  refine gl_un rfl rfl rfl rfl ?_
  refine gl_op rfl rfl rfl (op_pure hT rfl) ?_
  refine gl_op rfl rfl rfl (op_pure hT rfl) ?_
  refine gl_op rfl rfl rfl (op_pure hT rfl) ?_
  refine gl_un rfl rfl rfl rfl ?_
  refine gl_op rfl rfl rfl (op_pure hT rfl) ?_
  refine gl_un rfl rfl rfl rfl ?_
  refine gl_op rfl rfl rfl (op_pure hT rfl) ?_
  refine gl_un rfl rfl rfl rfl ?_
  refine gl_callf rfl rfl rfl rfl Tryd.func18 rfl rfl rfl (Same_calls _ _ _ _ (frameB []) (frameB []) _ (hS.rdE (i := 2) rfl) (hS.rdE (i := 3) rfl) (by decide)) ?_
  rintro _ w71 ⟨rfl, n71, rfl⟩
  refine ⟨_, rfl, ?_⟩
  have hS := hS.dr n71
  refine gl_op rfl rfl rfl (op_pure hT rfl) ?_
  refine gl_spell 72 (v := .bool true) rfl (by simp) ?_
  refine gl_op rfl rfl rfl (op_pure hT rfl) ?_
  refine gl_un rfl rfl rfl rfl ?_
  refine gl_op rfl rfl rfl (op_pure hT rfl) ?_
  refine gl_un rfl rfl rfl rfl ?_
  refine gl_op rfl rfl rfl (op_pure hT rfl) ?_
  refine gl_op rfl rfl rfl (op_pure hT rfl) ?_
  refine gl_op rfl rfl rfl (op_pure hT rfl) ?_
  refine gl_un rfl rfl rfl rfl ?_
  refine gl_op rfl rfl rfl (op_pure hT rfl) ?_
  refine gl_un rfl rfl rfl rfl ?_
  refine gl_op rfl rfl rfl (op_pure hT rfl) ?_
  refine gl_op rfl rfl rfl (op_pure hT rfl) ?_
  refine gl_op rfl rfl rfl (op_pure hT rfl) ?_
  refine gl_nil ?_
  refine hK7 _ _ ?_
  clear hK7; try clear K7
  refine gc_ret ?_
  try simp only [x_then_ret, x_block_ret]
  refine gk_ret1 rfl rfl ?_
  exact ⟨by simp, hS.below⟩
end Go.Proofs.YtpeomdobcobdiaaDoor
