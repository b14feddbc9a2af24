/- Contracts of functions that CodeProps reaches, and words to say them. No condition. -/
import Derived.Test.YtnomlloaahoceaaDoorZ29
/- Contracts of package code: the first example's network, read. No condition. -/
namespace Go.Proofs.YtnomlloaahoceaaDoor
open Go.RowKit
set_option linter.unusedVariables false
set_option linter.unusedSimpArgs false
@[reducible] def sh2 : List Value := (([⟨1, 1, 1⟩, ⟨1, 1, 1⟩] : List Sh).map shC).flatten
set_option maxHeartbeats 4000000 in
set_option maxRecDepth 100000 in
theorem names1_calls {B : Nat} {w0 : World} (g : Nat) (A As AL : Option Addr) (c cs cL v : Nat) (L : List It) (w : World) (hS0 : St B w0 w (.blk g 108 (nrC A c 18 (.slice AL 1 cL) (.slice As 2 cs)) :: .row As cs 61 3 2 sh2 :: L)) {ok : Nat → Prop} (hr : Rdb B w0 ok A (exBv v)) :
    Calls Tryd.prog 56 ⟨[.pointer (some ⟨g, 0, none⟩)]⟩ w fun en w' => en = .returned (.tuple #[]) ∧ St B w0 w' (.blk g 108 (nrC A c 19 (.slice AL 1 cL) (.slice As 2 cs)) :: .row As cs 61 3 2 sh2 :: L) := by
  obtain ⟨ad, rfl⟩ : ∃ ad, As = some ad := by
    obtain ⟨ad, h, _⟩ := (hS0.rd (i := 1) rfl).2 (by decide)
    exact ⟨ad, h⟩
  refine gc_enter (N := 122) Tryd.func56 rfl rfl rfl [(0, _)] rfl ?_
  have hS := St.start w
  have hS := hS0
  refine gc_seq fun K1 hK1 => ?_
  refine gc_region ?_
  refine gl_op rfl rfl rfl (op_pure hT rfl) ?_
  refine gl_op rfl rfl rfl (op_pure hT rfl) ?_
  refine gl_op rfl rfl rfl (op_fieldB 0 rfl Tryd.underlying108 rfl el54 rfl rfl) ?_
  refine gl_op rfl rfl rfl (op_fieldB 1 rfl Tryd.underlying54 rfl el3 rfl rfl) ?_
  refine gl_op rfl rfl rfl (op_loadB 0 hT hS rfl rfl rfl rfl rfl rfl) ?_
  refine gl_op rfl rfl rfl (op_pure hT rfl) ?_
  refine gl_nil ?_
  refine hK1 _ _ ?_
  clear hK1; try clear K1
  refine gc_seq fun K2 hK2 => ?_
  refine gc_region ?_
  refine gl_op rfl rfl rfl (op_pure hT rfl) ?_
  refine gl_op rfl rfl rfl (op_pure hT rfl) ?_
  refine gl_op rfl rfl rfl (op_fieldB 0 rfl Tryd.underlying108 rfl el54 rfl rfl) ?_
  refine gl_callP rfl rfl rfl rfl Tryd.func51 rfl rfl rfl (cUint_calls g _ A 23 c (exBv v) 18 _ _ _ hS hr rfl (ex_le v)) ?_
  rintro _ w20 (⟨x, y, hx, rfl, hS⟩ | ⟨k8, a1, hx, rfl, hS⟩)
  · rw [ex_18] at hx; cases hx
  rw [ex_18] at hx
  obtain ⟨rfl, rfl⟩ : 0 = k8 ∧ 19 = a1 := by injection hx with hx; injection hx with h1 h2; exact ⟨h1, h2⟩
  refine .inl ⟨_, rfl, ?_⟩
  refine gl_op rfl rfl rfl (op_pure hT rfl) ?_
  refine gl_nil ?_
  refine hK2 _ _ ?_
  clear hK2; try clear K2
  refine gc_seq fun K3 hK3 => ?_
  refine gc_anyS hS (by kernel_rfl) rfl fun nq2 hK => ?_
  have hS := hS.dr nq2
  refine ga_take 0 rfl rfl rfl rfl (by kernel_rfl) (fun _ _ _ _ h => h) hK (fun w1 hS => op_pure hT rfl) ?_
  refine ga_take 1 rfl rfl rfl rfl (by kernel_rfl) (fun _ _ _ _ h => h) hK (fun w1 hS => op_pure hT rfl) ?_
  refine ga_take 2 rfl rfl rfl rfl (by kernel_rfl) (fun _ _ _ _ h => h) hK (fun w1 hS => op_fieldB 7 rfl Tryd.underlying108 rfl el106 rfl rfl) ?_
  refine ga_take 3 rfl rfl rfl rfl (by kernel_rfl) (fun _ _ _ _ h => h) hK (fun w1 hS => op_loadB 0 hT hS rfl rfl rfl rfl rfl rfl) ?_
  refine ga_take 4 rfl rfl rfl rfl (by kernel_rfl) (fun _ _ _ _ h => h) hK (fun w1 hS => op_pure hT rfl) ?_
  refine ga_take 5 rfl rfl rfl rfl (by kernel_rfl) (fun _ _ _ _ h => h) hK (fun w1 hS => op_pure hT rfl) ?_
  refine ga_take 6 rfl rfl rfl rfl (by kernel_rfl) (fun _ _ _ _ h => h) hK (fun w1 hS => op_fieldB 7 rfl Tryd.underlying108 rfl el106 rfl rfl) ?_
  refine ga_take 7 rfl rfl rfl rfl (by kernel_rfl) (fun _ _ _ _ h => h) hK (fun w1 hS => op_loadB 0 hT hS rfl rfl rfl rfl rfl rfl) ?_
  refine ga_take 8 rfl rfl rfl rfl (by kernel_rfl) (fun _ _ _ _ h => h) hK (fun w1 hS => op_pure hT rfl) ?_
  refine ga_take 9 rfl rfl rfl rfl (by kernel_rfl) (fun _ _ _ _ h => h) hK (fun w1 hS => (by first | exact op_fit hT rfl (by omega) | exact op_pure hT rfl)) ?_
  refine ga_spell 31 (v := .int .i64 1) rfl (rfl) ?_
  refine ga_take 10 rfl rfl rfl rfl (by kernel_rfl) (fun _ _ _ _ h => h) hK (fun w1 hS => op_indexAddr hT rfl rfl el61.cellsOf.1 el61.cellsOf.2 rfl rfl (by decide) (by decide) rfl) ?_
  refine ga_take 11 rfl rfl rfl rfl (by kernel_rfl) (fun _ _ _ _ h => h) hK (fun w1 hS => op_loadS Tryd.underlying61 rfl el61 rfl rfl (exSh (l := [⟨1, 1, 1⟩, ⟨1, 1, 1⟩]) (i := 1) hS rfl rfl) rfl) ?_
  refine ga_one 12 (by kernel_rfl) rfl ?_
  refine gl_callf rfl rfl rfl rfl Tryd.func52 rfl rfl rfl (mSize_calls ⟨1, 1, 1⟩ _ ⟨by decide, by decide, by decide⟩) ?_
  rintro _ w34 ⟨rfl, hb34⟩
  refine ⟨_, rfl, ?_⟩
  have hS := hS.grown hb34
  rw [exSize]
  refine gl_nil ?_
  refine ga_next hS fun hK => ?_
  refine ga_take 13 rfl rfl rfl rfl (by kernel_rfl) (fun _ _ _ _ h => h) hK (fun w1 hS => op_pure hT rfl) ?_
  refine ga_take 14 rfl rfl rfl rfl (by kernel_rfl) (fun _ _ _ _ h => h) hK (fun w1 hS => op_pure hT rfl) ?_
  refine ga_take 15 rfl rfl rfl rfl (by kernel_rfl) (fun _ _ _ _ h => h) hK (fun w1 hS => op_pure hT rfl) ?_
  refine ga_take 16 rfl rfl rfl rfl (by kernel_rfl) (fun _ _ _ _ h => h) hK (fun w1 hS => op_pure hT rfl) ?_
  refine ga_take 17 rfl rfl rfl rfl (by kernel_rfl) (fun _ _ _ _ h => h) hK (fun w1 hS => op_pure hT rfl) ?_
  refine ga_done (by kernel_rfl) ?_
  refine hK3 _ _ ?_
  clear hK3; try clear K3
  refine gc_seq fun K4 hK4 => ?_
  refine gc_seq fun K5 hK5 => ?_
  refine gc_region ?_
  refine gl_op rfl rfl rfl (op_pure hT rfl) ?_
  refine gl_op rfl rfl rfl (op_pure hT rfl) ?_
  refine gl_op rfl rfl rfl (op_pure hT rfl) ?_
  refine gl_pass rfl rfl rfl rfl rfl rfl ?_
  refine gl_pass rfl rfl rfl rfl rfl rfl ?_
  refine gl_pass rfl rfl rfl rfl rfl rfl ?_
  refine gl_op rfl rfl rfl (op_pure hT rfl) ?_
  refine gl_nil ?_
  refine hK5 _ _ ?_
  clear hK5; try clear K5
  refine gc_cond_f rfl ?_
  refine gc_skip ?_
  refine hK4 _ _ ?_
  clear hK4; try clear K4
  refine gc_seq fun K6 hK6 => ?_
  refine gc_region ?_
  refine gl_op rfl rfl rfl (op_pure hT rfl) ?_
  refine gl_op rfl rfl rfl (op_pure hT rfl) ?_
  refine gl_nil ?_
  refine hK6 _ _ ?_
  clear hK6; try clear K6
  refine gc_block ?_
  refine gc_loop (fun kk a' w' => kk = 1 ∧ Fr 122 a' [(0, .pointer (some ⟨g, 0, none⟩)), (49, .int .i64 0), (50, .int .i64 0)] ∧ St B w0 w' (.blk g 108 (nrC A c 19 (.slice AL 1 cL) (.slice (some ad) 2 cs)) :: .row (some ad) cs 61 3 2 sh2 :: L)) 1 ?_ ?_ ?_
  · intro a' ha; exact ⟨rfl, ha.sub ⟨rfl, rfl, rfl, trivial⟩, hS⟩
  · rintro a' w' ⟨h, _⟩; omega
  clear hS
  rintro kk a' w1 ⟨hk, hF, hS⟩
  refine gc_of hF ?_
  clear hF
  refine gc_seq fun K7 hK7 => ?_
  refine gc_region ?_
  refine gl_op rfl rfl rfl (op_pure hT rfl) ?_
  refine gl_nil ?_
  refine hK7 _ _ ?_
  clear hK7; try clear K7
  refine gc_seq fun K8 hK8 => ?_
  refine gc_cond_f rfl ?_
  refine gc_exit ?_
  simp only [x_then_exit, x_block_exit, ↓reduceIte]
  refine gk_end0 rfl ?_
  exact ⟨rfl, hS⟩
end Go.Proofs.YtnomlloaahoceaaDoor

