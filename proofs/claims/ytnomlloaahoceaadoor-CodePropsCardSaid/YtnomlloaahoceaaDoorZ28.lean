/- Contracts of functions that CodeProps reaches, and words to say them. No condition. -/
import Derived.Test.YtnomlloaahoceaaDoorZ27
/- Contracts of package code: the first example's network, read: facts, what recovers. No condition. -/
namespace Go.Proofs.YtnomlloaahoceaaDoor
open Go.RowKit
set_option linter.unusedVariables false
set_option linter.unusedSimpArgs false
section
variable (v : Nat)
@[reducible] def exBv : List UInt8 := exW ++ le4 v
theorem ex_h : hdV [65, 77, 66, 78] (exBv v) = none := rfl
theorem ex_5 : rU (exBv v) 5 = .ok (1, 6) := rfl
theorem ex_6 : rU (exBv v) 6 = .ok (1, 7) := rfl
theorem ex_7 : rU (exBv v) 7 = .ok (1, 8) := rfl
theorem ex_8 : rU (exBv v) 8 = .ok (1, 9) := rfl
theorem ex_9 : rU (exBv v) 9 = .ok (8, 10) := rfl
set_option maxRecDepth 100000 in
theorem ex_10v : vLE (exBv v) 10 8 = exA := by
  have h : ∀ k, k < 19 → (exBv v).getD k 0 = exW.getD k 0 := fun k hk => by
    rw [List.getD_eq_getElem?_getD, List.getD_eq_getElem?_getD, List.getElem?_append_left hk]
  simp only [vLE]
  rw [h (10 + 0) (by decide), h (10 + 1) (by decide), h (10 + 2) (by decide), h (10 + 3) (by decide), h (10 + 4) (by decide), h (10 + 5) (by decide), h (10 + 6) (by decide), h (10 + 7) (by decide)]
  decide
theorem ex_10 : rF (exBv v) 10 = .ok (exA, 18) := by
  have h : readFloatV (exBv v) 10 = (exA, 18, 0) := by
    unfold readFloatV
    rw [if_neg (show ¬ ((10 : Int) < 0 ∨ ((exBv v).length : Int) < 10) by show ¬ ((10 : Int) < 0 ∨ (23 : Int) < 10); decide), if_neg (show ¬ (((exBv v).length : Int) - 10 < 8) by show ¬ ((23 : Int) - 10 < 8); decide)]
    rw [show (10 : Int).toNat = 10 from rfl, ex_10v, if_neg (by decide)]
    rfl
  unfold rF
  rw [h]
  rfl
set_option maxRecDepth 100000 in
theorem ex_tk : (exBv v).take 19 = exW := rfl
set_option maxRecDepth 100000 in
theorem ex_dr : ((exBv v).drop 19).take 4 = le4 v := rfl
theorem ex_18 : rU (exBv v) 18 = .ok (0, 19) := rfl
end
theorem ex_t : tlV exB 19 = none := by
  unfold tlV
  rw [if_neg (show ¬ ((exB.length : Int) - 19 < 4) by show ¬ ((23 : Int) - 19 < 4); decide), if_neg, if_neg (show ¬ ((19 : Int) + 4 < (exB.length : Int)) by show ¬ ((19 : Int) + 4 < (23 : Int)); decide)]
  intro h
  have e1 : exB.take ((19 : Int)).toNat = exW := ex_tk _
  have e2 : (exB.drop ((19 : Int)).toNat).take 4 = le4 (crcV exW) := ex_dr _
  rw [e1, e2] at h
  exact h rfl
theorem exOut (W B Z ZB : Sv) : outV ⟨8, 0, 0, 0, 0, 0, 0, 0, 0, exA, W, B, Z, ZB⟩ ⟨1, 1, 1⟩ = (⟨1, 1, 1⟩, 0) := by kernel_rfl
theorem exLists (W B Z ZB : Sv) : listsV ⟨8, 0, 0, 0, 0, 0, 0, 0, 0, exA, W, B, Z, ZB⟩ ⟨1, 1, 1⟩ = ((0, 0, 0, 0), 0) := by kernel_rfl
theorem exSize : sizeV ⟨1, 1, 1⟩ = (1, 0) := by decide
set_option maxRecDepth 100000 in
theorem catchN_calls {B : Nat} {w0 : World} (ge ga : Nat) (x at_ e0 a0 : Int) (older : List PanicEntry) (L : List It) (w : World) (hS0 : St B w0 w (.blk ge 34 [.int .i64 e0] :: .blk ga 3 [.int .i64 a0] :: L)) :
    CallsD Tryd.prog 48 #[.pointer (some ⟨ge, 0, none⟩), .pointer (some ⟨ga, 0, none⟩)] (.panicking ({ v := pnV x at_, recovered := false } :: older)) w fun en u' w' =>
      en = .returned (.tuple #[]) ∧ u' = .panicking ({ v := pnV x at_, recovered := true } :: older) ∧ St B w0 w' (.blk ge 34 [.int .i64 x] :: .blk ga 3 [.int .i64 at_] :: L) := by
  refine callsD_of_wpS Tryd.func48 rfl fun c₀ cs hu => ?_
  refine wpS_seq (wpS_region ?_)
  simp [wpOpsS, go_sem, recoverD, hu, pnV, Tryd.ntmps48, Exit.thenS]
  refine wpS_of_wp (gc_of (N := ⟨11, []⟩) (e := [(2, pnV x at_), (0, .pointer (some ⟨ge, 0, none⟩)), (1, .pointer (some ⟨ga, 0, none⟩))]) (Fr.of rfl (by simp) (by simp [pnV])) ?_)
  have hS := hS0
  refine gc_seq fun K1 hK1 => ?_
  refine gc_region ?_
  refine gl_op rfl rfl rfl (op_pure hT rfl) ?_
  refine gl_op rfl rfl rfl (op_neqNil rfl Tryd.underlying20 rfl) ?_
  refine gl_nil ?_
  refine hK1 _ _ ?_
  clear hK1; try clear K1
  refine gc_cond_t rfl ?_
  refine gc_region ?_
  refine gl_op rfl rfl rfl (op_pure hT rfl) ?_
  refine gl_callf rfl rfl rfl rfl Tryd.func49 rfl rfl rfl (given_calls x at_ _) ?_
  rintro _ w8 ⟨rfl, hb8⟩
  refine ⟨_, rfl, ?_⟩
  have hS := hS.grown hb8
  refine gl_op rfl rfl rfl (op_pure hT rfl) ?_
  refine gl_op rfl rfl rfl (op_pure hT rfl) ?_
  refine gl_op rfl rfl rfl (op_pure hT rfl) ?_
  refine gl_store 0 hS el34.cellsOf.1 el34.cellsOf.2 rfl rfl rfl rfl rfl rfl rfl rfl fun wcode_go_241 hS => ?_
  refine gl_store 1 hS el3.cellsOf.1 el3.cellsOf.2 rfl rfl rfl rfl rfl rfl rfl rfl fun wcode_go_241 hS => ?_
  refine gl_nil ?_
  refine gk_endS rfl rfl ⟨rfl, rfl, hS⟩
set_option maxRecDepth 100000 in
theorem catchN_idle (ge ga : Nat) (w : World) :
    CallsD Tryd.prog 48 #[.pointer (some ⟨ge, 0, none⟩), .pointer (some ⟨ga, 0, none⟩)] .returning w fun en u' w' =>
      en = .returned (.tuple #[]) ∧ u' = .returning ∧ w' = w := by
  refine callsD_of_wpS Tryd.func48 rfl fun c₀ cs hu => ?_
  refine wpS_seq (wpS_region ?_)
  simp [wpOpsS, go_sem, recoverD, hu, Tryd.ntmps48, Exit.thenS]
  refine wpS_of_wp (gc_of (N := ⟨11, []⟩) (e := [(2, .nilIface), (0, .pointer (some ⟨ge, 0, none⟩)), (1, .pointer (some ⟨ga, 0, none⟩))]) (Fr.of rfl (by simp) (by simp)) ?_)
  refine gc_seq fun K1 hK1 => ?_
  refine gc_region ?_
  refine gl_op rfl rfl rfl (op_pure hT rfl) ?_
  refine gl_op rfl rfl rfl (op_neqNil0 rfl Tryd.underlying20 rfl) ?_
  refine gl_nil ?_
  refine hK1 _ _ ?_
  clear hK1; try clear K1
  refine gc_cond_f rfl ?_
  refine gc_skip ?_
  refine gk_endS rfl (by cases c₀; simp_all) ⟨rfl, rfl, rfl⟩
theorem complexes0_calls (p : Value) (w : World) : Calls Tryd.prog 79 ⟨[p, .int .i64 0]⟩ w fun e w' => e = .returned (.slice none 0 0) ∧ Eqv w w' := by
  refine gc_enter (N := 25) Tryd.func79 rfl rfl rfl [(0, _), (1, _)] rfl ?_
  refine gc_seq fun K1 hK1 => ?_
  refine gc_region ?_
  refine gl_op rfl rfl rfl (op_pure hT rfl) ?_
  refine gl_nil ?_
  refine hK1 _ _ ?_
  clear hK1; try clear K1
  refine gc_seq fun K2 hK2 => ?_
  refine gc_region ?_
  refine gl_op rfl rfl rfl (op_pure hT rfl) ?_
  refine gl_nil ?_
  refine hK2 _ _ ?_
  clear hK2; try clear K2
  refine gc_seq fun K3 hK3 => ?_
  refine gc_seq fun K4 hK4 => ?_
  refine gc_region ?_
  refine gl_op rfl rfl rfl (op_pure hT rfl) ?_
  refine gl_op rfl rfl rfl (op_pure hT rfl) ?_
  refine gl_nil ?_
  refine hK4 _ _ ?_
  clear hK4; try clear K4
  refine gc_block ?_
  refine gc_loop (fun kk a' w' => kk = 1 ∧ Fr 25 a' [(5, .slice none 0 0), (7, .int .i64 0), (8, .int .i64 0)] ∧ Eqv w w') 1 ?_ ?_ ?_
  · intro a' ha; exact ⟨rfl, ha.sub ⟨rfl, rfl, rfl, trivial⟩, Eqv.refl _⟩
  · rintro a' w' ⟨h, _⟩; omega
  rintro kk a' w1 ⟨hk, hF, hE⟩
  refine gc_of hF ?_
  clear hF
  refine gc_seq fun K5 hK5 => ?_
  refine gc_region ?_
  refine gl_op rfl rfl rfl (op_pure hT rfl) ?_
  refine gl_nil ?_
  refine hK5 _ _ ?_
  clear hK5; try clear K5
  refine gc_seq fun K6 hK6 => ?_
  refine gc_cond_f rfl ?_
  refine gc_exit ?_
  refine hK3 _ _ ?_
  clear hK3; try clear K3
  refine gc_seq fun K7 hK7 => ?_
  refine gc_region ?_
  refine gl_op rfl rfl rfl (op_pure hT rfl) ?_
  refine gl_op rfl rfl rfl (op_pure hT rfl) ?_
  refine gl_nil ?_
  refine hK7 _ _ ?_
  clear hK7; try clear K7
  refine gc_ret ?_
  try simp only [x_then_ret, x_block_ret]
  refine gk_ret1 rfl rfl ?_
  exact ⟨rfl, hE⟩
end Go.Proofs.YtnomlloaahoceaaDoor

