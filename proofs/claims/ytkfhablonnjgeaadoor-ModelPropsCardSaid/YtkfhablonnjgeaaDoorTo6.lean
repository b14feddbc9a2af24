/- The contracts of ambitlaw6.told and ModelNames. No condition. -/
import Derived.Test.YtkfhablonnjgeaaDoorMd6
import Derived.Test.YtkfhablonnjgeaaDoorNm3
namespace Go.Proofs.YtkfhablonnjgeaaDoor
open Go.RowKit
set_option linter.unusedVariables false
set_option linter.unusedSimpArgs false
@[reducible] def nlS : Sv := (none, 0, 0)
@[reducible] def toldX (k fr : Int) : Lx := ⟨⟨k, 0, 0, 0, 0, 0, 0, 0, fr, 0, nlS, nlS, nlS, nlS⟩, [], [], [], []⟩
@[reducible] def toldM : Ly := ⟨12, 0, 3, 1, 5, 9, 0, 0, 0, 0, nlS, nlS, nlS, nlS⟩
@[reducible] def toldP : Px := ⟨[0, 0], [], 0, [], 1, 0, 1⟩
theorem told_shapes : shapesV ⟨1, 1, 2⟩ [toldX 7 0, toldX 5 2] = (66, 2) := by kernel_rfl
theorem told_size : sizeV ⟨3, 4, 5⟩ = (60, 0) := by kernel_rfl
theorem told_max : outV toldM ⟨2, 4, 3⟩ = (⟨2, 1, 1⟩, 0) := by kernel_rfl
theorem told_prop : propV toldP 2 2 = (0, 0) := by kernel_rfl
theorem told_name : nameV ⟨#[195, 169]⟩ = true := by kernel_rfl
theorem lyM_nil {w : World} {x : Lx} (h : x.L.ok) (h1 : x.L.W = nlS) (h2 : x.L.B = nlS) (h3 : x.L.Z = nlS) (h4 : x.L.ZB = nlS) (l1 : x.lw = []) (l2 : x.lb = []) (l3 : x.lz = []) (l4 : x.lzb = []) : LyM w All x := by
  obtain ⟨L, lw, lb, lz, lzb⟩ := x
  simp only at l1 l2 l3 l4 h1 h2 h3 h4
  subst l1 l2 l3 l4
  exact ⟨h, by simp only [h1]; exact RdE.nil _ _, by simp only [h1]; rfl, by simp only [h2]; exact RdE.nil _ _, by simp only [h2]; rfl, by simp only [h3]; exact RdE.nil _ _, by simp only [h3]; rfl, by simp only [h4]; exact RdE.nil _ _, by simp only [h4]; rfl,
    List.forall_mem_nil _, List.forall_mem_nil _, List.forall_mem_nil _, List.forall_mem_nil _, Nat.zero_le _, Nat.zero_le _, Nat.zero_le _, Nat.zero_le _⟩
theorem told_calls (w : World) (hU : Tabs w) : Calls Tryd.prog 6 ⟨[]⟩ w fun e w' => e = .returned (.bool true) ∧ Below w.heap.size w w' := by
  refine gc_enter (N := 65) Tryd.func6 rfl rfl rfl [] rfl ?_
  have hS := St.start w
  refine gc_seq fun K1 hK1 => ?_
  refine gc_region ?_
  refine gl_op rfl rfl rfl (op_pure hT rfl) ?_
  refine gl_nil ?_
  refine hK1 _ _ ?_
  clear hK1; try clear K1
  refine gc_seq fun K2 hK2 => ?_
  refine gc_region ?_
  refine gl_op rfl rfl rfl (op_buildG rfl plan42 rfl rfl) ?_
  refine gl_callf rfl rfl rfl rfl Tryd.func14 rfl rfl rfl (mSize_calls ⟨3, 4, 5⟩ _ ⟨by decide, by decide, by decide⟩) ?_
  rintro _ w11 ⟨rfl, hb11⟩
  refine ⟨_, rfl, ?_⟩
  have hS := hS.grown hb11; rw [told_size]
  refine gl_op rfl rfl rfl (op_pure hT rfl) ?_
  refine gl_op rfl rfl rfl (op_pure hT rfl) ?_
  refine gl_op rfl rfl rfl (op_pure hT rfl) ?_
  refine gl_op rfl rfl rfl (op_pure hT rfl) ?_
  refine gl_op rfl rfl rfl (op_pure hT rfl) ?_
  refine gl_nil ?_
  refine hK2 _ _ ?_
  clear hK2; try clear K2
  refine gc_seq fun K3 hK3 => ?_
  refine gc_region ?_
  refine gl_op rfl rfl rfl (op_buildG rfl plan49 rfl rfl) ?_
  refine gl_op rfl rfl rfl (op_buildG rfl plan42 rfl rfl) ?_
  refine gl_callf rfl rfl rfl rfl Tryd.func17 rfl rfl rfl (mOut_calls toldM ⟨2, 4, 3⟩ _ ⟨by decide, by decide, by decide, by decide, by decide, by decide, by decide, by decide, by decide, by decide⟩ ⟨by decide, by decide, by decide⟩) ?_
  rintro _ w17 ⟨rfl, hb17⟩
  refine ⟨_, rfl, ?_⟩
  have hS := hS.grown hb17; rw [told_max]
  refine gl_op rfl rfl rfl (op_pure hT rfl) ?_
  refine gl_op rfl rfl rfl (op_pure hT rfl) ?_
  refine gl_op rfl rfl rfl (op_pure hT rfl) ?_
  refine gl_alloc el42 hS rfl rfl rfl rfl fun g3 w3 hS => ?_
  refine gl_storeM 0 hS el42 rfl rfl rfl rfl rfl rfl rfl rfl rfl fun wlaw_go_138 hS => ?_
  refine gl_op rfl rfl rfl (op_pure hT rfl) ?_
  refine gl_nil ?_
  refine hK3 _ _ ?_
  clear hK3; try clear K3
  refine gc_seq fun K4 hK4 => ?_
  refine gc_region ?_
  refine gl_op rfl rfl rfl (op_buildG rfl plan42 rfl rfl) ?_
  refine gl_op rfl rfl rfl (op_buildG rfl plan49 rfl rfl) ?_
  refine gl_op rfl rfl rfl (op_buildG rfl plan49 rfl rfl) ?_
  refine gl_lit2 hT hS el49 rfl rfl rfl rfl rfl rfl rfl rfl rfl (by decide) fun g24 w24 hS => ?_
  refine gl_op rfl rfl rfl (op_buildG rfl plan53 rfl rfl) ?_
  have hS : St w.heap.size w _ [.blk g3 42 (shC ⟨2, 1, 1⟩), .row (some ⟨g24, 0, none⟩) 2 49 14 2 ([toldX 7 0, toldX 5 2].map lxC).flatten] := hS
  refine gl_callf rfl rfl rfl rfl Tryd.func15 rfl rfl rfl (check_calls ⟨1, 1, 2⟩ (some ⟨g24, 0, none⟩) 2 [toldX 7 0, toldX 5 2] _ ⟨by decide, by decide, by decide⟩ (ok := All) ⟨hS.rd (i := 1) rfl, fun _ => rfl⟩ fun x hx => ?_) ?_
  · simp only [List.mem_cons, List.not_mem_nil, or_false] at hx
    rcases hx with rfl | rfl
    · exact lyM_nil ⟨by decide, by decide, by decide, by decide, by decide, by decide, by decide, by decide, by decide, by decide⟩ rfl rfl rfl rfl rfl rfl rfl rfl
    · exact lyM_nil ⟨by decide, by decide, by decide, by decide, by decide, by decide, by decide, by decide, by decide, by decide⟩ rfl rfl rfl rfl rfl rfl rfl rfl
  rintro _ w26 ⟨rfl, hb26⟩
  refine ⟨_, rfl, ?_⟩
  have hS := hS.grown hb26
  rw [told_shapes]
  refine gl_op rfl rfl rfl (op_pure hT rfl) ?_
  refine gl_op rfl rfl rfl (op_pure hT rfl) ?_
  refine gl_op rfl rfl rfl (op_pure hT rfl) ?_
  refine gl_op rfl rfl rfl (op_pure hT rfl) ?_
  refine gl_op rfl rfl rfl (op_pure hT rfl) ?_
  refine gl_nil ?_
  refine hK4 _ _ ?_
  clear hK4; try clear K4
  refine gc_seq fun K5 hK5 => ?_
  refine gc_region ?_
  refine gl_lit hT hS el46 rfl rfl rfl rfl rfl rfl rfl rfl rfl fun g30 w30 hS => ?_
  refine gl_op rfl rfl rfl (op_buildG rfl plan27 rfl rfl) ?_
  refine gl_callf rfl rfl rfl rfl Tryd.func11 rfl rfl rfl (checkProp_calls (some ⟨g30, 0, none⟩, 2, 2) nlS nlS [] [] toldP 2 2 _ (ok := All)
    ⟨hS.rdE (i := 2) rfl, rfl, by decide, by decide, ⟨RdE.nil _ _, rfl, fun i x l h => by simp at h⟩, rfl, by decide, ⟨RdE.nil _ _, rfl, fun i x l h => by simp at h⟩, rfl, by decide, by decide, by decide, by decide, by decide⟩) ?_
  rintro _ w32 ⟨rfl, hb32⟩
  refine ⟨_, rfl, ?_⟩
  have hS := hS.grown hb32
  rw [told_prop]
  refine gl_op rfl rfl rfl (op_pure hT rfl) ?_
  refine gl_op rfl rfl rfl (op_pure hT rfl) ?_
  refine gl_op rfl rfl rfl (op_pure hT rfl) ?_
  refine gl_op rfl rfl rfl (op_pure hT rfl) ?_
  refine gl_op rfl rfl rfl (op_pure hT rfl) ?_
  refine gl_nil ?_
  refine hK5 _ _ ?_
  clear hK5; try clear K5
  refine gc_seq fun K6 hK6 => ?_
  refine gc_region ?_
  refine gl_op rfl rfl rfl (op_pure hT rfl) ?_
  refine gl_op rfl rfl rfl (op_pure hT rfl) ?_
  refine gl_op rfl rfl rfl (op_pure hT rfl) ?_
  refine gl_un rfl rfl rfl rfl ?_
  refine gl_op rfl rfl rfl (op_pure hT rfl) ?_
  refine gl_un rfl rfl rfl rfl ?_
  refine gl_op rfl rfl rfl (op_pure hT rfl) ?_
  refine gl_op rfl rfl rfl (op_pure hT rfl) ?_
  refine gl_op rfl rfl rfl (op_pure hT rfl) ?_
  refine gl_un rfl rfl rfl rfl ?_
  refine gl_op rfl rfl rfl (op_pure hT rfl) ?_
  refine gl_un rfl rfl rfl rfl ?_
  refine gl_op rfl rfl rfl (op_pure hT rfl) ?_
  refine gl_op rfl rfl rfl (op_pure hT rfl) ?_
  refine gl_op rfl rfl rfl (op_pure hT rfl) ?_
  refine gl_un rfl rfl rfl rfl ?_
  refine gl_op rfl rfl rfl (op_loadG 0 Tryd.underlying42 rfl el42 hS rfl rfl rfl rfl rfl) ?_
  refine gl_un rfl rfl rfl rfl ?_
  refine gl_op rfl rfl rfl (op_buildG rfl plan42 rfl rfl) ?_
  refine gl_un rfl rfl rfl rfl ?_
  refine gl_op rfl rfl rfl (op_eql3 shape_three rfl rfl rfl) ?_
  refine gl_op rfl rfl rfl (op_pure hT rfl) ?_
  refine gl_op rfl rfl rfl (op_pure hT rfl) ?_
  refine gl_un rfl rfl rfl rfl ?_
  refine gl_op rfl rfl rfl (op_pure hT rfl) ?_
  refine gl_un rfl rfl rfl rfl ?_
  refine gl_op rfl rfl rfl (op_pure hT rfl) ?_
  refine gl_op rfl rfl rfl (op_pure hT rfl) ?_
  refine gl_op rfl rfl rfl (op_pure hT rfl) ?_
  refine gl_un rfl rfl rfl rfl ?_
  refine gl_op rfl rfl rfl (op_pure hT rfl) ?_
  refine gl_un rfl rfl rfl rfl ?_
  refine gl_op rfl rfl rfl (op_pure hT rfl) ?_
  refine gl_op rfl rfl rfl (op_pure hT rfl) ?_
  refine gl_op rfl rfl rfl (op_pure hT rfl) ?_
  refine gl_un rfl rfl rfl rfl ?_
  refine gl_op rfl rfl rfl (op_pure hT rfl) ?_
  refine gl_un rfl rfl rfl rfl ?_
  refine gl_op rfl rfl rfl (op_pure hT rfl) ?_
  refine gl_op rfl rfl rfl (op_pure hT rfl) ?_
  refine gl_op rfl rfl rfl (op_pure hT rfl) ?_
  refine gl_un rfl rfl rfl rfl ?_
  refine gl_callf rfl rfl rfl rfl Tryd.func7 rfl rfl rfl (name_calls ⟨#[195, 169]⟩ (by decide) _ (hU.old hS)) ?_
  rintro _ w63 ⟨rfl, hb63⟩
  refine ⟨_, rfl, ?_⟩
  have hS := hS.grown hb63; rw [told_name]
  refine gl_op rfl rfl rfl (op_pure hT rfl) ?_
  refine gl_op rfl rfl rfl (op_pure hT rfl) ?_
  refine gl_nil ?_
  refine hK6 _ _ ?_
  clear hK6; try clear K6
  refine gc_ret ?_
  try simp only [x_then_ret, x_block_ret]
  refine gk_ret1 rfl rfl ?_
  exact ⟨by first | rfl | simp, hS.below⟩
theorem ModelNames_calls (s : ByteArray) (hs : s.size ≤ 4611686018427387904) (w : World) (hU : Tabs w) : Calls Tryd.prog 3 ⟨[.string s]⟩ w fun e w' => e = .returned (.bool true) ∧ Below w.heap.size w w' := by
  refine gc_enter (N := 11) Tryd.func3 rfl rfl rfl [(0, _)] rfl ?_
  have hS := St.start w
  refine gc_seq fun K1 hK1 => ?_
  refine gc_region ?_
  refine gl_op rfl rfl rfl (op_pure hT rfl) ?_
  refine gl_nil ?_
  refine hK1 _ _ ?_
  clear hK1; try clear K1
  refine gc_seq fun K2 hK2 => ?_
  refine gc_region ?_
  refine gl_callf rfl rfl rfl rfl Tryd.func6 rfl rfl rfl (told_calls _ (hU.old hS)) ?_
  rintro _ w3 ⟨rfl, hb3⟩
  refine ⟨_, rfl, ?_⟩
  have hS := hS.grown hb3
  refine gl_op rfl rfl rfl (op_pure hT rfl) ?_
  refine gl_un rfl rfl rfl rfl ?_
  refine gl_op rfl rfl rfl (op_pure hT rfl) ?_
  refine gl_un rfl rfl rfl rfl ?_
  refine gl_callf rfl rfl rfl rfl Tryd.func7 rfl rfl rfl (name_calls s hs _ (hU.old hS)) ?_
  rintro _ w6 ⟨rfl, hb6⟩
  refine ⟨_, rfl, ?_⟩
  have hS := hS.grown hb6
  refine gl_un rfl rfl rfl rfl ?_
  refine gl_op rfl rfl rfl (op_pure hT rfl) ?_
  refine gl_un rfl rfl rfl rfl ?_
  refine gl_callf rfl rfl rfl rfl Tryd.func8 rfl rfl rfl (rname_calls s hs _) ?_
  rintro _ w8 ⟨rfl, hb8⟩
  refine ⟨_, rfl, ?_⟩
  have hS := hS.grown hb8
  refine gl_un rfl rfl rfl rfl ?_
  refine gl_op rfl rfl rfl (op_pure hT rfl) ?_
  refine gl_spell 9 (v := .bool true) rfl (by simp) ?_
  refine gl_op rfl rfl rfl (op_pure hT rfl) ?_
  refine gl_op rfl rfl rfl (op_pure hT rfl) ?_
  refine gl_nil ?_
  refine hK2 _ _ ?_
  clear hK2; try clear K2
  refine gc_ret ?_
  try simp only [x_then_ret, x_block_ret]
  refine gk_ret1 rfl rfl ?_
  exact ⟨rfl, hS.below⟩
end Go.Proofs.YtkfhablonnjgeaaDoor
