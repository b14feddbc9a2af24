/- Contracts of functions that CodeNetBytes reaches, and words to say them. No condition. -/
import Derived.Test.YtnomlloaahoceaaGreatDoorZ22
import Derived.Test.YtnomlloaahoceaaGreatDoorZ03
/- Contracts of package code: the first example's network, read. No condition. -/
namespace Go.Proofs.YtnomlloaahoceaaGreatDoor
open Go.RowKit
set_option linter.unusedVariables false
set_option linter.unusedSimpArgs false
@[reducible] def sh2 : List Value := (([⟨1, 1, 1⟩, ⟨1, 1, 1⟩] : List Sh).map shC).flatten
set_option maxHeartbeats 4000000 in
set_option maxRecDepth 100000 in
theorem names1_calls {B : Nat} {w0 : World} (g : Nat) (A As AL : Option Addr) (c cs cL v : Nat) (L : List It) (w : World) (hS0 : St B w0 w (.blk g 64 (nrC A c 18 (.slice AL 1 cL) (.slice As 2 cs)) :: .row As cs 27 3 2 sh2 :: L)) {ok : Nat → Prop} (hr : Rdb B w0 ok A (exBv v)) :
 Calls Tryz.prog 25 ⟨[.pointer (some ⟨g, 0, none⟩)]⟩ w fun en w' => en = .returned (.tuple #[]) ∧ St B w0 w' (.blk g 64 (nrC A c 19 (.slice AL 1 cL) (.slice As 2 cs)) :: .row As cs 27 3 2 sh2 :: L) := by
 obtain ⟨ad, rfl⟩ : ∃ ad, As = some ad := by
  obtain ⟨ad, h, _⟩ := (hS0.rd (i := 1) rfl).2 (by decide)
  exact ⟨ad, h⟩
 refine gc_enter (N := 122) Tryz.func25 rfl rfl rfl [(0, _)] rfl ?_
 have hS := St.start w
 have hS := hS0
 refine gc_seq fun K1 hK1 => gc_region (Zp rfl (Zp rfl (Zf 0 Tryz.underlying64 rfl el61 (Zf 1 Tryz.underlying61 rfl el3 (Zb 0 hS rfl (Zp rfl (gl_nil (hK1 _ _ (gc_seq fun K2 hK2 => gc_region (Zp rfl (Zp rfl (Zf 0 Tryz.underlying64 rfl el61 (gl_callP rfl rfl rfl rfl Tryz.func20 rfl rfl rfl (cUint_calls g _ A 23 c (exBv v) 18 _ _ _ hS hr rfl (ex_le v)) ?_)))))))))))))
 rintro _ w20 (⟨x, y, hx, rfl, hS⟩ | ⟨k8, a1, hx, rfl, hS⟩)
 ·rw [ex_18] at hx; cases hx
 rw [ex_18] at hx
 obtain ⟨rfl, rfl⟩ : 0 = k8 ∧ 19 = a1 := by injection hx with hx; injection hx with h1 h2; exact ⟨h1, h2⟩
 refine .inl ⟨_, rfl, ?_⟩
 refine Zp rfl (gl_nil (hK2 _ _ (gc_seq fun K3 hK3 => gc_anyS hS (by kernel_rfl) rfl fun nq2 hK => ?_)))
 have hS := hS.dr nq2
 refine Yp 0 rfl (by kernel_rfl) (fun _ _ _ _ h => h) hK ?_
 refine Yp 1 rfl (by kernel_rfl) (fun _ _ _ _ h => h) hK ?_
 refine Yf 2 7 Tryz.underlying64 rfl el62 (by kernel_rfl) (fun _ _ _ _ h => h) hK ?_
 refine Yb 3 0 rfl (by kernel_rfl) (fun _ _ _ _ h => h) hK ?_
 refine Yp 4 rfl (by kernel_rfl) (fun _ _ _ _ h => h) hK ?_
 refine Yp 5 rfl (by kernel_rfl) (fun _ _ _ _ h => h) hK ?_
 refine Yf 6 7 Tryz.underlying64 rfl el62 (by kernel_rfl) (fun _ _ _ _ h => h) hK ?_
 refine Yb 7 0 rfl (by kernel_rfl) (fun _ _ _ _ h => h) hK ?_
 refine Yp 8 rfl (by kernel_rfl) (fun _ _ _ _ h => h) hK ?_
 refine Yi 9 rfl (by omega) (by kernel_rfl) (fun _ _ _ _ h => h) hK ?_
 refine ga_spell 31 (v := .int .i64 1) rfl (rfl) ?_
 refine ga_take 10 rfl rfl rfl rfl (by kernel_rfl) (fun _ _ _ _ h => h) hK (fun w1 hS => op_indexAddr hT rfl rfl el27.cellsOf.1 el27.cellsOf.2 rfl rfl (by decide) (by decide) rfl) ?_
 refine ga_take 11 rfl rfl rfl rfl (by kernel_rfl) (fun _ _ _ _ h => h) hK (fun w1 hS => op_loadS Tryz.underlying27 rfl el27 rfl rfl (exSh (l := [⟨1, 1, 1⟩, ⟨1, 1, 1⟩]) (i := 1) hS rfl rfl) rfl) ?_
 refine ga_one 12 (by kernel_rfl) rfl ?_
 refine gl_callf rfl rfl rfl rfl Tryz.func21 rfl rfl rfl (mSize_calls ⟨1, 1, 1⟩ _ ⟨by decide, by decide, by decide⟩) ?_
 rintro _ w34 ⟨rfl, hb34⟩
 refine ⟨_, rfl, ?_⟩
 have hS := hS.grown hb34
 rw [exSize]
 refine gl_nil (ga_next hS fun hK => ?_)
 refine Yp 13 rfl (by kernel_rfl) (fun _ _ _ _ h => h) hK ?_
 refine Yp 14 rfl (by kernel_rfl) (fun _ _ _ _ h => h) hK ?_
 refine Yp 15 rfl (by kernel_rfl) (fun _ _ _ _ h => h) hK ?_
 refine Yp 16 rfl (by kernel_rfl) (fun _ _ _ _ h => h) hK ?_
 refine Yp 17 rfl (by kernel_rfl) (fun _ _ _ _ h => h) hK ?_
 refine ga_done (by kernel_rfl) ?_
 refine hK3 _ _ (gc_seq fun K4 hK4 => gc_seq fun K5 hK5 => gc_region (Zp rfl (Zp rfl (Zp rfl (Zs rfl (Zs rfl (Zs rfl (Zp rfl (gl_nil (hK5 _ _ (gc_cond_f rfl (gc_skip (hK4 _ _ (gc_seq fun K6 hK6 => gc_region (Zp rfl (Zp rfl (gl_nil (hK6 _ _ (gc_block (gc_loop (fun kk a' w' => kk = 1 ∧ Fr 122 a' [(0, .pointer (some ⟨g, 0, none⟩)), (49, .int .i64 0), (50, .int .i64 0)] ∧ St B w0 w' (.blk g 64 (nrC A c 19 (.slice AL 1 cL) (.slice (some ad) 2 cs)) :: .row (some ad) cs 27 3 2 sh2 :: L)) 1 ?_ ?_ ?_))))))))))))))))))))
 ·intro a' ha; exact ⟨rfl, ha.sub ⟨rfl, rfl, rfl, trivial⟩, hS⟩
 ·rintro a' w' ⟨h, _⟩; omega
 clear hS
 rintro kk a' w1 ⟨hk, hF, hS⟩
 refine gc_of hF ?_
 clear hF
 refine gc_seq fun K7 hK7 => gc_region (Zp rfl (gl_nil (hK7 _ _ (gc_seq fun K8 hK8 => gc_cond_f rfl (gc_exit ?_)))))
 simp only [x_then_exit, x_block_exit, ↓reduceIte]
 refine gk_end0 rfl ?_
 exact ⟨rfl, hS⟩
end Go.Proofs.YtnomlloaahoceaaGreatDoor
