/- The walk of WireNumbers. No condition. -/
import Derived.Test.YtpeomdobcobdiaaDoorW9
namespace Go.Proofs.YtpeomdobcobdiaaDoor
open Go.RowKit
set_option linter.unusedVariables false
set_option linter.unusedSimpArgs false
theorem RdE.left {α : Type} {w : World} {ok : Nat → Prop} {enc : α → Value} {A : Option Addr} {l1 l2 : List α} (h : RdE w ok enc A (l1 ++ l2)) : RdE w ok enc A l1 := by
  have := h.take l1.length
  rwa [List.take_left] at this
theorem marks_eq (l : List UInt8) : l ++ marks = (l ++ [201, 202, 203]) ++ List.replicate 70 206 := by simp [marks]
theorem laid_rd {B : Nat} {w w0 : World} {L : List It} {A : Option Addr} {c : Nat} {el : TypeId} {l : List UInt8} {m : Nat} (i : Nat) (hS : St B w0 w L) (hi : L[i]? = some (.row A c el 1 m ((l ++ marks).map uB))) : RdE w All uB A l :=
  (hS.rdE (l := l ++ marks) hi).left
theorem laid_rd3 {B : Nat} {w w0 : World} {L : List It} {A : Option Addr} {c : Nat} {el : TypeId} {l : List UInt8} {m : Nat} (i : Nat) (hS : St B w0 w L) (hi : L[i]? = some (.row A c el 1 m ((l ++ marks).map uB))) : RdE w All uB A (l ++ [201, 202, 203]) := by
  have h := hS.rdE (l := l ++ marks) hi
  rw [marks_eq] at h
  exact h.left
theorem Laid_cap {w : World} {l : List UInt8} {B : Nat} {A : Option Addr} {c : Nat} {el : TypeId} {m : Nat} {cs : List Value} (h : Owns w B A c el 1 m cs) : m ≤ c := h.cap.1
theorem WireNumbers_calls (n : Int) (hn : n ≤ 9223372036854775807) (A : Option Addr) (c : Nat) (l : List UInt8) (at_ : Int) (w : World) (hU : Tabs w) {ok : Nat → Prop} (h1 : RdE w ok uB A l) (hc : l.length ≤ c) (hb : l.length ≤ 140737488355328) :
    Calls Tryd.prog 3 ⟨[.int .i64 n, .slice A l.length c, .int .i64 at_]⟩ w fun e w' => e = .returned (.bool true) ∧ Below w.heap.size w w' := by
  refine gc_enter (N := 76) Tryd.func3 rfl rfl rfl [(0, _), (1, _), (2, _)] rfl ?_
  have hS := St.start w
  refine gc_seq fun K1 hK1 => ?_
  refine gc_region ?_
  refine gl_op rfl rfl rfl (op_pure hT rfl) ?_
  refine gl_nil ?_
  refine hK1 _ _ ?_
  clear hK1; try clear K1
  refine gc_seq fun K2 hK2 => ?_
  refine gc_seq fun K3 hK3 => ?_
  refine gc_region ?_
  refine gl_callf rfl rfl rfl rfl Tryd.func15 rfl rfl rfl (told_calls _ hU) ?_
  rintro _ w19 ⟨rfl, hb19⟩
  refine ⟨_, rfl, ?_⟩
  have hS := hS.grown hb19
  refine gl_op rfl rfl rfl (op_pure hT rfl) ?_
  refine gl_nil ?_
  refine hK3 _ _ ?_
  clear hK3; try clear K3
  refine gc_cond_f rfl ?_
  refine gc_skip ?_
  refine hK2 _ _ ?_
  clear hK2; try clear K2
  refine gc_seq fun K4 hK4 => ?_
  refine gc_region ?_
  refine gl_op rfl rfl rfl (op_pure hT rfl) ?_
  refine gl_callf rfl rfl rfl rfl Tryd.func16 rfl rfl rfl (Uint_calls n hn _) ?_
  rintro _ w23 ⟨A23, c23, rfl, hr23, hb23⟩
  refine ⟨_, rfl, ?_⟩
  have hS := hS.addRow hb23 hr23
  refine gl_op rfl rfl rfl (op_pure hT rfl) ?_
  refine gl_op rfl rfl rfl (op_pure hT rfl) ?_
  refine gl_op rfl rfl rfl (op_pure hT rfl) ?_
  refine gl_op rfl rfl rfl (op_pure hT rfl) ?_
  refine gl_op rfl rfl rfl (op_pure hT rfl) ?_
  refine gl_nil ?_
  refine hK4 _ _ ?_
  clear hK4; try clear K4
  refine gc_seq fun K5 hK5 => ?_
  refine gc_region ?_
  refine gl_op rfl rfl rfl (op_pure hT rfl) ?_
  refine gl_callf rfl rfl rfl rfl Tryd.func17 rfl rfl rfl (rUint_calls n hn _) ?_
  rintro _ w28 ⟨A28, c28, rfl, hr28, hb28⟩
  refine ⟨_, rfl, ?_⟩
  have hS := hS.addRow hb28 hr28
  refine gl_op rfl rfl rfl (op_pure hT rfl) ?_
  refine gl_op rfl rfl rfl (op_pure hT rfl) ?_
  refine gl_op rfl rfl rfl (op_pure hT rfl) ?_
  refine gl_op rfl rfl rfl (op_pure hT rfl) ?_
  refine gl_op rfl rfl rfl (op_pure hT rfl) ?_
  refine gl_nil ?_
  refine hK5 _ _ ?_
  clear hK5; try clear K5
  refine gc_seq fun K6 hK6 => ?_
  refine gc_seq fun K7 hK7 => ?_
  refine gc_region ?_
  refine gl_op rfl rfl rfl (op_pure hT rfl) ?_
  refine gl_op rfl rfl rfl (op_pure hT rfl) ?_
  refine gl_op rfl rfl rfl (op_pure hT rfl) ?_
  refine gl_spell 33 (v := .bool false) rfl (by simp) ?_
  refine gl_op rfl rfl rfl (op_pure hT rfl) ?_
  refine gl_un rfl rfl rfl rfl ?_
  refine gl_op rfl rfl rfl (op_pure hT rfl) ?_
  refine gl_un rfl rfl rfl rfl ?_
  refine gl_op rfl rfl rfl (op_pure hT rfl) ?_
  refine gl_un rfl rfl rfl rfl ?_
  refine gl_callf rfl rfl rfl rfl Tryd.func18 rfl rfl rfl (Same_calls _ _ _ _ (uintV n).1 (uintV n).1 _ (hS.rdE (i := 0) rfl) (hS.rdE (i := 1) rfl) (by have := (hS.cap (i := 0) rfl); omega)) ?_
  rintro _ _ ⟨rfl, n37, rfl⟩
  refine ⟨_, rfl, ?_⟩
  have hS := hS.dr n37
  refine gl_spell 37 (v := .bool true) rfl (by simp) ?_
  refine gl_un rfl rfl rfl rfl ?_
  refine gl_op rfl rfl rfl (op_pure hT rfl) ?_
  refine gl_op rfl rfl rfl (op_pure hT rfl) ?_
  refine gl_nil ?_
  refine hK7 _ _ ?_
  clear hK7; try clear K7
  refine gc_cond_f rfl ?_
  refine gc_skip ?_
  refine hK6 _ _ ?_
  clear hK6; try clear K6
  refine gc_seq fun K8 hK8 => ?_
  refine gc_region ?_
  refine gl_op rfl rfl rfl (op_pure hT rfl) ?_
  refine gl_callf rfl rfl rfl rfl Tryd.func19 rfl rfl rfl (Laid_calls A c l _ (h1.old hS) hc) ?_
  rintro _ w41 ⟨A41, c41, rfl, hr41, hb41⟩
  refine ⟨_, rfl, ?_⟩
  have hS := hS.addRow hb41 hr41
  refine gl_op rfl rfl rfl (op_pure hT rfl) ?_
  refine gl_callf rfl rfl rfl rfl Tryd.func19 rfl rfl rfl (Laid_calls A c l _ (h1.old hS) hc) ?_
  rintro _ w43 ⟨A43, c43, rfl, hr43, hb43⟩
  refine ⟨_, rfl, ?_⟩
  have hS := hS.addRow hb43 hr43; have hlen : (l.take 1048676).length ≤ 1048676 := by simp; omega
  refine gl_op rfl rfl rfl (op_pure hT rfl) ?_
  refine gl_op rfl rfl rfl (op_pure hT rfl) ?_
  refine gl_nil ?_
  refine hK8 _ _ ?_
  clear hK8; try clear K8
  refine gc_seq fun K9 hK9 => ?_
  refine gc_region ?_
  refine gl_op rfl rfl rfl (op_pure hT rfl) ?_
  refine gl_op rfl rfl rfl (op_pure hT rfl) ?_
  refine gl_callf rfl rfl rfl rfl Tryd.func20 rfl rfl rfl (ReadUint_calls A41 c41 (l.take 1048676) at_ _ (laid_rd 2 hS rfl) (by omega)) ?_
  rintro _ _ ⟨rfl, n47, rfl⟩
  refine ⟨_, rfl, ?_⟩
  have hS := hS.dr n47
  refine gl_op rfl rfl rfl (op_pure hT rfl) ?_
  refine gl_op rfl rfl rfl (op_pure hT rfl) ?_
  refine gl_op rfl rfl rfl (op_pure hT rfl) ?_
  refine gl_op rfl rfl rfl (op_pure hT rfl) ?_
  refine gl_op rfl rfl rfl (op_pure hT rfl) ?_
  refine gl_op rfl rfl rfl (op_pure hT rfl) ?_
  refine gl_op rfl rfl rfl (op_pure hT rfl) ?_
  refine gl_nil ?_
  refine hK9 _ _ ?_
  clear hK9; try clear K9
  refine gc_seq fun K10 hK10 => ?_
  refine gc_region ?_
  refine gl_op rfl rfl rfl (op_pure hT rfl) ?_
  refine gl_op rfl rfl rfl (op_pure hT rfl) ?_
  refine gl_callf rfl rfl rfl rfl Tryd.func21 rfl rfl rfl (rReadUint_calls A43 c43 (l.take 1048676) at_ _ (laid_rd 3 hS rfl) (by omega)) ?_
  rintro _ _ ⟨rfl, n54, rfl⟩
  refine ⟨_, rfl, ?_⟩
  have hS := hS.dr n54
  refine gl_op rfl rfl rfl (op_pure hT rfl) ?_
  refine gl_op rfl rfl rfl (op_pure hT rfl) ?_
  refine gl_op rfl rfl rfl (op_pure hT rfl) ?_
  refine gl_op rfl rfl rfl (op_pure hT rfl) ?_
  refine gl_op rfl rfl rfl (op_pure hT rfl) ?_
  refine gl_op rfl rfl rfl (op_pure hT rfl) ?_
  refine gl_op rfl rfl rfl (op_pure hT rfl) ?_
  refine gl_nil ?_
  refine hK10 _ _ ?_
  clear hK10; try clear K10
  refine gc_seq fun K11 hK11 => ?_
  refine gc_region ?_
  refine gl_op rfl rfl rfl (op_pure hT rfl) ?_
  refine gl_op rfl rfl rfl (op_pure hT rfl) ?_
  refine gl_op rfl rfl rfl (op_pure hT rfl) ?_
  refine gl_spell 60 (v := .bool true) rfl (by simp) ?_
  refine gl_op rfl rfl rfl (op_pure hT rfl) ?_
  refine gl_un rfl rfl rfl rfl ?_
  refine gl_op rfl rfl rfl (op_pure hT rfl) ?_
  refine gl_un rfl rfl rfl rfl ?_
  refine gl_op rfl rfl rfl (op_pure hT rfl) ?_
  refine gl_un rfl rfl rfl rfl ?_
  refine gl_op rfl rfl rfl (op_pure hT rfl) ?_
  refine gl_spell 64 (v := .bool true) rfl (by simp) ?_
  refine gl_op rfl rfl rfl (op_pure hT rfl) ?_
  refine gl_op rfl rfl rfl (op_pure hT rfl) ?_
  refine gl_un rfl rfl rfl rfl ?_
  refine gl_op rfl rfl rfl (op_pure hT rfl) ?_
  refine gl_un rfl rfl rfl rfl ?_
  refine gl_op rfl rfl rfl (op_pure hT rfl) ?_
  refine gl_un rfl rfl rfl rfl ?_
  refine gl_op rfl rfl rfl (op_pure hT rfl) ?_
  refine gl_spell 69 (v := .bool true) rfl (by simp) ?_
  refine gl_op rfl rfl rfl (op_pure hT rfl) ?_
  refine gl_op rfl rfl rfl (op_pure hT rfl) ?_
  refine gl_un rfl rfl rfl rfl ?_
  refine gl_op rfl rfl rfl (op_pure hT rfl) ?_
  refine gl_un rfl rfl rfl rfl ?_
  refine gl_op rfl rfl rfl (op_pure hT rfl) ?_
  refine gl_un rfl rfl rfl rfl ?_
  have hcap := (hS.cap (i := 2) rfl).1
  refine gl_callf rfl rfl rfl rfl Tryd.func22 rfl rfl rfl (Intact_calls A41 A43 c41 c43 (l.take 1048676) [201, 202, 203] (l.take 1048676) _ (laid_rd3 2 hS rfl) rfl (by omega) (by omega) (laid_rd 3 hS rfl)) ?_
  rintro _ w74 ⟨rfl, hb74⟩
  refine ⟨_, rfl, ?_⟩
  have hS := hS.grown hb74
  refine gl_spell 74 (v := .bool true) rfl (by simp) ?_
  refine gl_op rfl rfl rfl (op_pure hT rfl) ?_
  refine gl_op rfl rfl rfl (op_pure hT rfl) ?_
  refine gl_nil ?_
  refine hK11 _ _ ?_
  clear hK11; try clear K11
  refine gc_ret ?_
  try simp only [x_then_ret, x_block_ret]
  refine gk_ret1 rfl rfl ?_
  exact ⟨rfl, hS.below⟩
end Go.Proofs.YtpeomdobcobdiaaDoor
