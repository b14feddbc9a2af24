/- Contracts of functions that CodeNetBytes reaches, and words to say them. No condition. -/
import Derived.Test.YtnomlloaahoceaaGreatDoorZ21
import Derived.Test.YtnomlloaahoceaaGreatDoorZ03
import Derived.Test.YtnomlloaahoceaaGreatDoorZ10
/- Contracts of package code: the first example's network, read: facts, what recovers. No condition. -/
namespace Go.Proofs.YtnomlloaahoceaaGreatDoor
open Go.RowKit
set_option linter.unusedVariables false
set_option linter.unusedSimpArgs false
section
variable (v : Nat)
@[reducible] def exBv : List UInt8 := exW ++ le4 v
theorem ex_h : hdV [65, 77, 66, 78] (exBv v) = none := rfl
theorem ex_5 : rU (exBv v) 5 = .ok (1, 6) := rfl
theorem ex_6 : rU (exBv v) 6 = .ok (1, 7) := rfl
theorem ex_7 : rU (exBv v) 7 = .ok (1, 8) := rfl
theorem ex_8 : rU (exBv v) 8 = .ok (1, 9) := rfl
theorem ex_9 : rU (exBv v) 9 = .ok (8, 10) := rfl
set_option maxRecDepth 100000 in
theorem ex_10v : vLE (exBv v) 10 8 = exA := by
 have h : ∀ k, k < 19 → (exBv v).getD k 0 = exW.getD k 0 := fun k hk => by
  rw [List.getD_eq_getElem?_getD, List.getD_eq_getElem?_getD, List.getElem?_append_left hk]
 simp only [vLE]
 rw [h (10 + 0) (by decide), h (10 + 1) (by decide), h (10 + 2) (by decide), h (10 + 3) (by decide), h (10 + 4) (by decide), h (10 + 5) (by decide), h (10 + 6) (by decide), h (10 + 7) (by decide)]
 decide
theorem ex_10 : rF (exBv v) 10 = .ok (exA, 18) := by
 have h : readFloatV (exBv v) 10 = (exA, 18, 0) := by
  unfold readFloatV
  rw [if_neg (show ¬ ((10 : Int) < 0 ∨ ((exBv v).length : Int) < 10) by show ¬ ((10 : Int) < 0 ∨ (23 : Int) < 10); decide), if_neg (show ¬ (((exBv v).length : Int) - 10 < 8) by show ¬ ((23 : Int) - 10 < 8); decide)]
  rw [show (10 : Int).toNat = 10 from rfl, ex_10v, if_neg (by decide)]
  rfl
 unfold rF
 rw [h]
 rfl
set_option maxRecDepth 100000 in
theorem ex_tk : (exBv v).take 19 = exW := rfl
set_option maxRecDepth 100000 in
theorem ex_dr : ((exBv v).drop 19).take 4 = le4 v := rfl
theorem ex_18 : rU (exBv v) 18 = .ok (0, 19) := rfl
end
theorem ex_t : tlV exB 19 = none := by
 unfold tlV
 rw [if_neg (show ¬ ((exB.length : Int) - 19 < 4) by show ¬ ((23 : Int) - 19 < 4); decide), if_neg, if_neg (show ¬ ((19 : Int) + 4 < (exB.length : Int)) by show ¬ ((19 : Int) + 4 < (23 : Int)); decide)]
 intro h
 have e1 : exB.take ((19 : Int)).toNat = exW := ex_tk _
 have e2 : (exB.drop ((19 : Int)).toNat).take 4 = le4 (crcV exW) := ex_dr _
 rw [e1, e2] at h
 exact h rfl
theorem exOut (W B Z ZB : Sv) : outV ⟨8, 0, 0, 0, 0, 0, 0, 0, 0, exA, W, B, Z, ZB⟩ ⟨1, 1, 1⟩ = (⟨1, 1, 1⟩, 0) := by kernel_rfl
theorem exLists (W B Z ZB : Sv) : listsV ⟨8, 0, 0, 0, 0, 0, 0, 0, 0, exA, W, B, Z, ZB⟩ ⟨1, 1, 1⟩ = ((0, 0, 0, 0), 0) := by kernel_rfl
theorem exSize : sizeV ⟨1, 1, 1⟩ = (1, 0) := by decide
set_option maxRecDepth 100000 in
theorem catchN_calls {B : Nat} {w0 : World} (ge ga : Nat) (x at_ e0 a0 : Int) (older : List PanicEntry) (L : List It) (w : World) (hS0 : St B w0 w (.blk ge 32 [.int .i64 e0] :: .blk ga 3 [.int .i64 a0] :: L)) :
 CallsD Tryz.prog 17 #[.pointer (some ⟨ge, 0, none⟩), .pointer (some ⟨ga, 0, none⟩)] (.panicking ({ v := pnV x at_, recovered := false } :: older)) w fun en u' w' =>
  en = .returned (.tuple #[]) ∧ u' = .panicking ({ v := pnV x at_, recovered := true } :: older) ∧ St B w0 w' (.blk ge 32 [.int .i64 x] :: .blk ga 3 [.int .i64 at_] :: L) := by
 refine callsD_of_wpS Tryz.func17 rfl fun c₀ cs hu => ?_
 refine wpS_seq (wpS_region ?_)
 simp [wpOpsS, go_sem, recoverD, hu, pnV, Tryz.ntmps17, Exit.thenS]
 refine wpS_of_wp (gc_of (N := ⟨11, []⟩) (e := [(2, pnV x at_), (0, .pointer (some ⟨ge, 0, none⟩)), (1, .pointer (some ⟨ga, 0, none⟩))]) (Fr.of rfl (by simp) (by simp [pnV])) ?_)
 have hS := hS0
 refine gc_seq fun K1 hK1 => gc_region (Zp rfl (gl_op rfl rfl rfl (op_neqNil rfl Tryz.underlying20 rfl) ?_))
 refine gl_nil (hK1 _ _ (gc_cond_t rfl (gc_region (Zp rfl (gl_callf rfl rfl rfl rfl Tryz.func18 rfl rfl rfl (given_calls x at_ _) ?_)))))
 rintro _ w8 ⟨rfl, hb8⟩
 refine ⟨_, rfl, ?_⟩
 have hS := hS.grown hb8
 refine Zp rfl (Zp rfl (Zp rfl (gl_store 0 hS el32.cellsOf.1 el32.cellsOf.2 rfl rfl rfl rfl rfl rfl rfl rfl fun w_241 hS => ?_)))
 refine gl_store 1 hS el3.cellsOf.1 el3.cellsOf.2 rfl rfl rfl rfl rfl rfl rfl rfl fun w_241 hS => ?_
 refine gl_nil (gk_endS rfl rfl ⟨rfl, rfl, hS⟩)
set_option maxRecDepth 100000 in
theorem catchN_idle (ge ga : Nat) (w : World) :
 CallsD Tryz.prog 17 #[.pointer (some ⟨ge, 0, none⟩), .pointer (some ⟨ga, 0, none⟩)] .returning w fun en u' w' =>
  en = .returned (.tuple #[]) ∧ u' = .returning ∧ w' = w := by
 refine callsD_of_wpS Tryz.func17 rfl fun c₀ cs hu => ?_
 refine wpS_seq (wpS_region ?_)
 simp [wpOpsS, go_sem, recoverD, hu, Tryz.ntmps17, Exit.thenS]
 refine wpS_of_wp (gc_of (N := ⟨11, []⟩) (e := [(2, .nilIface), (0, .pointer (some ⟨ge, 0, none⟩)), (1, .pointer (some ⟨ga, 0, none⟩))]) (Fr.of rfl (by simp) (by simp)) ?_)
 refine gc_seq fun K1 hK1 => gc_region (Zp rfl (gl_op rfl rfl rfl (op_neqNil0 rfl Tryz.underlying20 rfl) ?_))
 refine gl_nil (hK1 _ _ (gc_cond_f rfl (gc_skip (gk_endS rfl (by cases c₀; simp_all) ⟨rfl, rfl, rfl⟩))))
theorem complexes0_calls (p : Value) (w : World) : Calls Tryz.prog 52 ⟨[p, .int .i64 0]⟩ w fun e w' => e = .returned (.slice none 0 0) ∧ Eqv w w' := by
 refine gc_enter (N := 25) Tryz.func52 rfl rfl rfl [(0, _), (1, _)] rfl ?_
 refine gc_seq fun K1 hK1 => gc_region (Zp rfl (gl_nil (hK1 _ _ (gc_seq fun K2 hK2 => gc_region (Zp rfl (gl_nil (hK2 _ _ (gc_seq fun K3 hK3 => gc_seq fun K4 hK4 => gc_region (Zp rfl (Zp rfl (gl_nil (hK4 _ _ (gc_block (gc_loop (fun kk a' w' => kk = 1 ∧ Fr 25 a' [(5, .slice none 0 0), (7, .int .i64 0), (8, .int .i64 0)] ∧ Eqv w w') 1 ?_ ?_ ?_))))))))))))))
 ·intro a' ha; exact ⟨rfl, ha.sub ⟨rfl, rfl, rfl, trivial⟩, Eqv.refl _⟩
 ·rintro a' w' ⟨h, _⟩; omega
 rintro kk a' w1 ⟨hk, hF, hE⟩
 refine gc_of hF ?_
 clear hF
 refine gc_seq fun K5 hK5 => gc_region (Zp rfl (gl_nil (hK5 _ _ (gc_seq fun K6 hK6 => gc_cond_f rfl (gc_exit ?_)))))
 refine hK3 _ _ (gc_seq fun K7 hK7 => gc_region (Zp rfl (Zp rfl (gl_nil (hK7 _ _ (gc_ret (gk_ret1 rfl rfl ?_)))))))
 exact ⟨rfl, hE⟩
end Go.Proofs.YtnomlloaahoceaaGreatDoor

/- Contracts of package code: the first example's layer, read. No condition. -/
namespace Go.Proofs.YtnomlloaahoceaaGreatDoor
open Go.RowKit
set_option linter.unusedVariables false
set_option linter.unusedSimpArgs false
@[reducible] def nrC (A : Option Addr) (c : Nat) (at_ : Int) (ls sh : Value) : List Value := cuC A 23 c at_ [.int .i64 1, .int .i64 1, .int .i64 1, ls, .slice none 0 0, sh, .int .i64 0]
theorem ex_le (v : Nat) : (exBv v).length ≤ 1048576 := by show 23 ≤ 1048576; decide
theorem exSh {B : Nat} {w0 w : World} {x : It} {L : List It} {ad : Addr} {cs n : Nat} {l : List Sh} {i : Nat} {s : Sh} (hS : St B w0 w (x :: .row (some ad) cs 27 3 n (l.map shC).flatten :: L)) (hn : n = l.length) (hi : l[i]? = some s) :
 ∀ j u, (shC s)[j]? = some u → w.cell? ((ad.add (i * 3)).add j) = some u := by
 subst hn
 obtain ⟨ad2, h1, h2⟩ := RdS.at (w := w) (ok := All) (enc := shC) (sz := 3) (A := some ad) (l := l) ⟨hS.rd (i := 1) rfl, fun _ => rfl⟩ hi
 injection h1 with h1
 subst h1
 exact h2
set_option maxHeartbeats 4000000 in
set_option maxRecDepth 100000 in
theorem layer1_calls {B : Nat} {w0 : World} (g : Nat) (A As : Option Addr) (c cs v : Nat) (L : List It) (w : World) (hS0 : St B w0 w (.blk g 64 (nrC A c (9) (.slice none 0 0) (.slice As 1 cs)) :: .row As cs 27 3 1 (shC ⟨1, 1, 1⟩) :: L)) {ok : Nat → Prop} (hr : Rdb B w0 ok A (exBv v)) :
 Calls Tryz.prog 24 ⟨[.pointer (some ⟨g, 0, none⟩)]⟩ w fun en w' => en = .returned (.tuple #[]) ∧ ∃ AL cL As' cs' W B', St B w0 w' (.blk g 64 (nrC A c 18 (.slice AL 1 cL) (.slice As' 2 cs')) :: .row As' cs' 27 3 2 (([⟨1, 1, 1⟩, ⟨1, 1, 1⟩] : List Sh).map shC).flatten :: .row AL cL 48 14 1 (lyC ⟨8, 0, 0, 0, 0, 0, 0, 0, 0, exA, W, B', (none, 0, 0), (none, 0, 0)⟩) :: L) := by
 obtain ⟨ad, rfl⟩ : ∃ ad, As = some ad := by
  obtain ⟨ad, h, _⟩ := (hS0.rd (i := 1) rfl).2 (by decide)
  exact ⟨ad, h⟩
 refine gc_enter (N := 194) Tryz.func24 rfl rfl rfl [(0, _)] rfl ?_
 have hS := St.start w
 have hS := hS0
 refine gc_seq fun K1 hK1 => gc_region (Zp rfl (Zp rfl (Zf 0 Tryz.underlying64 rfl el61 (Zf 1 Tryz.underlying61 rfl el3 (Zb 0 hS rfl (Zp rfl (gl_nil (hK1 _ _ (gc_seq fun K2 hK2 => gc_region (Zp rfl (Zp rfl (Zf 0 Tryz.underlying64 rfl el61 (gl_callP rfl rfl rfl rfl Tryz.func20 rfl rfl rfl (cUint_calls g _ A 23 c (exBv v) 9 _ _ _ hS hr rfl (ex_le v)) ?_)))))))))))))
 rintro _ w21 (⟨x, y, hx, rfl, hS⟩ | ⟨k8, a1, hx, rfl, hS⟩)
 ·rw [ex_9] at hx; cases hx
 rw [ex_9] at hx
 obtain ⟨rfl, rfl⟩ : 8 = k8 ∧ 10 = a1 := by injection hx with hx; injection hx with h1 h2; exact ⟨h1, h2⟩
 refine .inl ⟨_, rfl, ?_⟩
 refine gl_op rfl rfl rfl (op_buildG rfl plan48 rfl rfl) ?_
 refine gl_alloc el48 hS rfl rfl rfl rfl fun g3 w3 hS => ?_
 have hS := hS.moveIn 2
 refine gl_storeM 2 hS el48 rfl rfl rfl rfl rfl rfl rfl rfl rfl fun w_176 hS => ?_
 refine gl_nil (hK2 _ _ (gc_seq fun K3 hK3 => gc_anyS hS (by kernel_rfl) rfl fun nq2 hK => ?_))
 have hS := hS.dr nq2
 refine Yp 0 rfl (by kernel_rfl) (fun _ _ _ _ h => h) hK ?_
 refine Yp 1 rfl (by kernel_rfl) (fun _ _ _ _ h => h) hK ?_
 refine Yf 2 7 Tryz.underlying64 rfl el62 (by kernel_rfl) (fun _ _ _ _ h => h) hK ?_
 refine Yb 3 0 rfl (by kernel_rfl) (fun _ _ _ _ h => h) hK ?_
 refine Yp 4 rfl (by kernel_rfl) (fun _ _ _ _ h => h) hK ?_
 refine Yp 5 rfl (by kernel_rfl) (fun _ _ _ _ h => h) hK ?_
 refine Yf 6 7 Tryz.underlying64 rfl el62 (by kernel_rfl) (fun _ _ _ _ h => h) hK ?_
 refine Yb 7 0 rfl (by kernel_rfl) (fun _ _ _ _ h => h) hK ?_
 refine Yp 8 rfl (by kernel_rfl) (fun _ _ _ _ h => h) hK ?_
 refine Yi 9 rfl (by omega) (by kernel_rfl) (fun _ _ _ _ h => h) hK ?_
 refine ga_spell 32 (v := .int .i64 0) rfl (rfl) ?_
 refine ga_take 10 rfl rfl rfl rfl (by kernel_rfl) (fun _ _ _ _ h => h) hK (fun w1 hS => op_indexAddr hT rfl rfl el27.cellsOf.1 el27.cellsOf.2 rfl rfl (by decide) (by decide) rfl) ?_
 refine ga_take 11 rfl rfl rfl rfl (by kernel_rfl) (fun _ _ _ _ h => h) hK (fun w1 hS => op_loadS Tryz.underlying27 rfl el27 rfl rfl (exSh (l := [⟨1, 1, 1⟩]) (i := 0) hS rfl rfl) rfl) ?_
 refine ga_one 12 (by kernel_rfl) rfl ?_
 refine gl_alloc el27 hS rfl rfl rfl rfl fun g4 w4 hS => ?_
 have hS := hS.moveIn 3
 refine gl_nil (ga_next (hS.erase 3) fun hK => ?_)
 refine ga_one 13 (by kernel_rfl) rfl ?_
 refine gl_storeM 3 hS el27 rfl rfl rfl rfl rfl rfl rfl rfl rfl fun w_177 hS => ?_
 refine gl_nil (ga_next (hS.erase 3) fun hK => ?_)
 refine ga_done (by kernel_rfl) ?_
 refine hK3 _ _ (gc_seq fun K4 hK4 => gc_seq fun K5 hK5 => gc_region (Zf 0 Tryz.underlying48 rfl el3 (Zb 2 hS rfl (Zp rfl (Zp rfl (Zu rfl (Zf 0 Tryz.underlying48 rfl el3 (Zu rfl (Zb 2 hS rfl (Zu rfl (Zp rfl (Zp rfl (gl_nil (hK5 _ _ (gc_cond_f rfl (gc_skip (hK4 _ _ (gc_seq fun K6 hK6 => gc_seq fun K7 hK7 => gc_region (gl_callf rfl rfl rfl rfl Tryz.func40 rfl rfl rfl (fields8_calls g3 _ _ _ _ (hS.permute ((List.perm_append_comm (l₁ := [_, _]) (l₂ := [_])).append_right _))) ?_)))))))))))))))))))
 rintro _ w48 ⟨rfl, hb48⟩
 refine ⟨_, rfl, ?_⟩
 have hS := hS.eqv hb48
 refine Zp rfl (Zp rfl (gl_nil (hK7 _ _ (gc_block ?_))))
 have hS : St B w0 _ (.blk g 64 (nrC A c (10) (.slice none 0 0) (.slice (some ad) 1 cs)) :: .row (some ad) cs 27 3 1 (shC ⟨1, 1, 1⟩) :: .blk g3 48 (lyC ⟨8, 0, 0, 0, 0, 0, 0, 0, 0, 0, (none, 0, 0), (none, 0, 0), (none, 0, 0), (none, 0, 0)⟩) :: .blk g4 27 (shC ⟨1, 1, 1⟩) :: L) := hS
 refine gc_loop (fun kk a' w' => kk = 1 ∧ Fr 194 a' [(0, .pointer (some ⟨g, 0, none⟩)), (2, .int .i64 9), (3, .pointer (some ⟨g3, 0, none⟩)), (4, .pointer (some ⟨g4, 0, none⟩)), (49, .int .i64 0), (50, .int .i64 0)] ∧ St B w0 w' (.blk g 64 (nrC A c (10) (.slice none 0 0) (.slice (some ad) 1 cs)) :: .row (some ad) cs 27 3 1 (shC ⟨1, 1, 1⟩) :: .blk g3 48 (lyC ⟨8, 0, 0, 0, 0, 0, 0, 0, 0, 0, (none, 0, 0), (none, 0, 0), (none, 0, 0), (none, 0, 0)⟩) :: .blk g4 27 (shC ⟨1, 1, 1⟩) :: L)) 1 ?_ ?_ ?_
 ·intro a' ha; exact ⟨rfl, ha.sub ⟨rfl, rfl, rfl, rfl, rfl, rfl, trivial⟩, hS⟩
 ·rintro a' w' ⟨h, _⟩; omega
 clear hS
 rintro kk a' w1 ⟨hk, hF, hS⟩
 refine gc_of hF ?_
 clear hF
 refine gc_seq fun K8 hK8 => gc_region (Zp rfl (gl_nil (hK8 _ _ (gc_seq fun K9 hK9 => gc_cond_f rfl (gc_exit ?_)))))
 refine hK6 _ _ (gc_seq fun K10 hK10 => gc_seq fun K11 hK11 => gc_region (Zf 0 Tryz.underlying48 rfl el3 (Zb 2 hS rfl (gl_callf rfl rfl rfl rfl Tryz.func41 rfl rfl rfl (hasA_calls 8 _) ?_))))
 rintro _ _ ⟨rfl, n63, rfl⟩
 refine ⟨_, rfl, ?_⟩
 have hS := hS.dr n63
 refine gl_nil (hK11 _ _ (gc_cond_t rfl (gc_region (Zp rfl (Zp rfl (Zf 0 Tryz.underlying64 rfl el61 (gl_callP rfl rfl rfl rfl Tryz.func49 rfl rfl rfl (cFloat_calls g _ A 23 c (exBv v) 10 _ _ _ hS hr rfl (ex_le v) (by decide)) ?_)))))))
 rintro _ w67 (⟨x, y, hx, rfl, hS⟩ | ⟨u, a1, hx, rfl, hS⟩)
 ·rw [ex_10] at hx; cases hx
 rw [ex_10] at hx
 obtain ⟨rfl, rfl⟩ : exA = u ∧ 18 = a1 := by injection hx with hx; injection hx with h1 h2; exact ⟨h1, h2⟩
 refine .inl ⟨_, rfl, ?_⟩
 refine Zf 9 Tryz.underlying48 rfl el44 (gl_store 2 hS el44.cellsOf.1 el44.cellsOf.2 rfl rfl rfl rfl rfl rfl rfl rfl fun w_185 hS => ?_)
 refine gl_nil (hK10 _ _ (gc_seq fun K12 hK12 => gc_region (Zg 2 Tryz.underlying48 el48 hS rfl (Zg 3 Tryz.underlying27 el27 hS rfl (gl_callf rfl rfl rfl rfl Tryz.func50 rfl rfl rfl (mOut_calls (⟨8, 0, 0, 0, 0, 0, 0, 0, 0, exA, (none, 0, 0), (none, 0, 0), (none, 0, 0), (none, 0, 0)⟩ : Ly) ⟨1, 1, 1⟩ _ (exL_ok (w := w)).okL ⟨by decide, by decide, by decide⟩) ?_)))))
 rintro _ w72 ⟨rfl, hb72⟩
 refine ⟨_, rfl, ?_⟩
 have hS := hS.grown hb72
 rw [exOut]
 refine Zp rfl (Zp rfl (Zp rfl (gl_alloc el27 hS rfl rfl rfl rfl fun g7 w7 hS => ?_)))
 have hS := hS.moveIn 4
 refine gl_storeM 4 hS el27 rfl rfl rfl rfl rfl rfl rfl rfl rfl fun w_187 hS => ?_
 refine Zp rfl (gl_nil (hK12 _ _ (gc_seq fun K13 hK13 => gc_region (Zp rfl (Zp rfl (Zf 0 Tryz.underlying64 rfl el61 (Zp rfl (Zp rfl (gl_callP rfl rfl rfl rfl Tryz.func22 rfl rfl rfl (check_calls8 _ 0 9 _) ?_)))))))))
 rintro _ w80 (⟨hx, rfl, hb80⟩ | ⟨hx, rfl, hb80⟩)
 ·exact absurd rfl hx
 refine .inl ⟨_, rfl, ?_⟩
 have hS := hS.eqv hb80
 refine gl_nil (hK13 _ _ (gc_seq fun K14 hK14 => gc_seq fun K15 hK15 => gc_anyS hS (by kernel_rfl) rfl fun nq14 hK => ?_))
 have hS := hS.dr nq14
 refine Yf 0 0 Tryz.underlying48 rfl el3 (by kernel_rfl) (fun _ _ _ _ h => h) hK ?_
 refine Yb 1 2 rfl (by kernel_rfl) (fun _ _ _ _ h => h) hK ?_
 refine Yp 2 rfl (by kernel_rfl) (fun _ _ _ _ h => h) hK ?_
 refine ga_spell 83 (v := .bool false) rfl (rfl) ?_
 refine Yp 3 rfl (by kernel_rfl) (fun _ _ _ _ h => h) hK ?_
 refine Ys 4 rfl (by kernel_rfl) (fun _ _ _ _ h => h) hK ?_
 refine Ys 5 rfl (by kernel_rfl) (fun _ _ _ _ h => h) hK ?_
 refine Ys 6 rfl (by kernel_rfl) (fun _ _ _ _ h => h) hK ?_
 refine Ys 7 rfl (by kernel_rfl) (fun _ _ _ _ h => h) hK ?_
 refine Ys 8 rfl (by kernel_rfl) (fun _ _ _ _ h => h) hK ?_
 refine Ys 9 rfl (by kernel_rfl) (fun _ _ _ _ h => h) hK ?_
 refine Ys 10 rfl (by kernel_rfl) (fun _ _ _ _ h => h) hK ?_
 refine Ys 11 rfl (by kernel_rfl) (fun _ _ _ _ h => h) hK ?_
 refine Ys 12 rfl (by kernel_rfl) (fun _ _ _ _ h => h) hK ?_
 refine ga_none 13 rfl rfl rfl rfl rfl rfl (by kernel_rfl) (fun _ _ _ _ h => h) hK ?_
 refine ga_none 14 rfl rfl rfl rfl rfl rfl (by kernel_rfl) (fun _ _ _ _ h => h) hK ?_
 refine ga_none 15 rfl rfl rfl rfl rfl rfl (by kernel_rfl) (fun _ _ _ _ h => h) hK ?_
 refine ga_none 16 rfl rfl rfl rfl rfl rfl (by kernel_rfl) (fun _ _ _ _ h => h) hK ?_
 refine ga_none 17 rfl rfl rfl rfl rfl rfl (by kernel_rfl) (fun _ _ _ _ h => h) hK ?_
 refine ga_none 18 rfl rfl rfl rfl rfl rfl (by kernel_rfl) (fun _ _ _ _ h => h) hK ?_
 refine ga_none 19 rfl rfl rfl rfl rfl rfl (by kernel_rfl) (fun _ _ _ _ h => h) hK ?_
 refine ga_none 20 rfl rfl rfl rfl rfl rfl (by kernel_rfl) (fun _ _ _ _ h => h) hK ?_
 refine ga_none 21 rfl rfl rfl rfl rfl rfl (by kernel_rfl) (fun _ _ _ _ h => h) hK ?_
 refine ga_none 22 rfl rfl rfl rfl rfl rfl (by kernel_rfl) (fun _ _ _ _ h => h) hK ?_
 refine Ys 23 rfl (by kernel_rfl) (fun _ _ _ _ h => h) hK ?_
 refine Yp 24 rfl (by kernel_rfl) (fun _ _ _ _ h => h) hK ?_
 refine ga_done (by kernel_rfl) ?_
 refine hK15 _ _ (gc_cond_f rfl (gc_skip (hK14 _ _ (gc_seq fun K16 hK16 => gc_region (Zg 2 Tryz.underlying48 el48 hS rfl (Zg 3 Tryz.underlying27 el27 hS rfl (gl_callf rfl rfl rfl rfl Tryz.func51 rfl rfl rfl (mLists_calls (⟨8, 0, 0, 0, 0, 0, 0, 0, 0, exA, (none, 0, 0), (none, 0, 0), (none, 0, 0), (none, 0, 0)⟩ : Ly) ⟨1, 1, 1⟩ _ (exL_ok (w := w)).okL ⟨by decide, by decide, by decide⟩) ?_)))))))
 rintro _ w114 ⟨rfl, hb114⟩
 refine ⟨_, rfl, ?_⟩
 have hS := hS.grown hb114
 rw [exLists]
 refine Zp rfl (Zp rfl (Zp rfl (Zp rfl (Zp rfl (Zp rfl (Zp rfl (Zp rfl (Zp rfl (Zp rfl (Zp rfl (gl_nil (hK16 _ _ (gc_seq fun K17 hK17 => gc_region (Zp rfl (Zp rfl (Zf 0 Tryz.underlying64 rfl el61 (Zp rfl (Zp rfl (gl_callP rfl rfl rfl rfl Tryz.func22 rfl rfl rfl (check_calls8 _ 0 9 _) ?_)))))))))))))))))))
 rintro _ w125 (⟨hx, rfl, hb125⟩ | ⟨hx, rfl, hb125⟩)
 ·exact absurd rfl hx
 refine .inl ⟨_, rfl, ?_⟩
 have hS := hS.eqv hb125
 refine gl_nil (hK17 _ _ (gc_seq fun K18 hK18 => gc_region (Zp rfl (Zp rfl (Zf 8 Tryz.underlying64 rfl el3 (Zb 0 hS rfl (Zp rfl (Zp rfl (Zp rfl (Zp rfl (Zp rfl (Zp rfl (Zp rfl (Zp rfl (Zp rfl (Zp rfl (Zp rfl (Zf 8 Tryz.underlying64 rfl el3 (gl_store 0 hS el3.cellsOf.1 el3.cellsOf.2 rfl rfl rfl rfl rfl rfl rfl rfl fun w_194 hS => ?_)))))))))))))))))))
 refine gl_nil (hK18 _ _ (gc_seq fun K19 hK19 => gc_seq fun K20 hK20 => gc_region (Zp rfl (Zp rfl (Zf 8 Tryz.underlying64 rfl el3 (Zb 0 hS rfl (Zp rfl (gl_nil (hK20 _ _ (gc_cond_f rfl (gc_skip (hK19 _ _ (gc_cut (fun a' w' => ∃ W B', Fr 194 a' [(0, .pointer (some ⟨g, 0, none⟩)), (3, .pointer (some ⟨g3, 0, none⟩)), (7, .pointer (some ⟨g7, 0, none⟩)), (11, .int .i64 0), (12, .int .i64 0)] ∧ St B w0 w' (.blk g 64 (nrC A c (18) (.slice none 0 0) (.slice (some ad) 1 cs)) :: .row (some ad) cs 27 3 1 (shC ⟨1, 1, 1⟩) :: .blk g3 48 (lyC ⟨8, 0, 0, 0, 0, 0, 0, 0, 0, exA, W, B', (none, 0, 0), (none, 0, 0)⟩) :: .blk g4 27 (shC ⟨1, 1, 1⟩) :: .blk g7 27 (shC ⟨1, 1, 1⟩) :: L)) ?_ ?_)))))))))))))
 ·refine gc_anyS ((hS.blank 0).blank 2) (by kernel_rfl) rfl fun nq21 hK => ?_
  have hS := hS.dr nq21
  refine Yp 0 rfl (by kernel_rfl) (fun _ _ _ _ h => h) hK ?_
  refine Yp 1 rfl (by kernel_rfl) (fun _ _ _ _ h => h) hK ?_
  refine Yf 2 0 Tryz.underlying64 rfl el61 (by kernel_rfl) (fun _ _ _ _ h => h) hK ?_
  refine Yp 3 rfl (by kernel_rfl) (fun _ _ _ _ h => h) hK ?_
  refine Yp 5 rfl (by kernel_rfl) (fun _ _ _ _ h => h) hK ?_
  refine Yp 6 rfl (by kernel_rfl) (fun _ _ _ _ h => h) hK ?_
  refine Yf 7 0 Tryz.underlying64 rfl el61 (by kernel_rfl) (fun _ _ _ _ h => h) hK ?_
  refine Yp 8 rfl (by kernel_rfl) (fun _ _ _ _ h => h) hK ?_
  refine ga_one 4 (by kernel_rfl) rfl ?_
  refine gl_callP rfl rfl rfl rfl Tryz.func47 rfl rfl rfl (cFloats_calls g _ A 23 c (exBv v) 18 _ _ _ 0 hS hr rfl (ex_le v) (by show (0 : Int) ≤ 18 ∧ (18 : Int) ≤ (23 : Nat); decide) (by decide)) ?_
  rintro _ w156 (⟨x, y, a1, hx, rfl, hS⟩ | ⟨us, a1, A156, c156, hx, rfl, hS⟩)
  ·cases hx
  obtain ⟨rfl, rfl⟩ : [] = us ∧ 18 = a1 := by injection hx with hx; injection hx with h1 h2; exact ⟨h1, h2⟩
  refine .inl ⟨_, rfl, ?_⟩
  have hS := hS.permute (.cons _ ((List.perm_append_comm (l₁ := [_]) (l₂ := [_, _, _, _])).append_right _))
  refine gl_nil (ga_next (((hS.blank 0).blank 2).erase 5) fun hK => ?_)
  refine ga_one 9 (by kernel_rfl) rfl ?_
  refine gl_callP rfl rfl rfl rfl Tryz.func47 rfl rfl rfl (cFloats_calls g _ A 23 c (exBv v) 18 _ _ _ 0 hS hr rfl (ex_le v) (by show (0 : Int) ≤ 18 ∧ (18 : Int) ≤ (23 : Nat); decide) (by decide)) ?_
  rintro _ w161 (⟨x, y, a1, hx, rfl, hS⟩ | ⟨us, a1, A161, c161, hx, rfl, hS⟩)
  ·cases hx
  obtain ⟨rfl, rfl⟩ : [] = us ∧ 18 = a1 := by injection hx with hx; injection hx with h1 h2; exact ⟨h1, h2⟩
  refine .inl ⟨_, rfl, ?_⟩
  have hS := hS.permute (.cons _ ((List.perm_append_comm (l₁ := [_]) (l₂ := [_, _, _, _, _])).append_right _))
  refine gl_nil (ga_next ((((hS.blank 0).blank 2).erase 5).erase 5) fun hK => ?_)
  refine Yf 10 10 Tryz.underlying48 rfl el45 (by kernel_rfl) (fun _ _ _ _ h => h) hK ?_
  refine ga_one 11 (by kernel_rfl) rfl ?_
  refine gl_store 2 hS el45.cellsOf.1 el45.cellsOf.2 rfl rfl rfl rfl rfl rfl rfl rfl fun w_198 hS => ?_
  refine gl_nil (ga_next ((((hS.blank 0).blank 2).erase 5).erase 5) fun hK => ?_)
  refine Yf 12 11 Tryz.underlying48 rfl el45 (by kernel_rfl) (fun _ _ _ _ h => h) hK ?_
  refine ga_one 13 (by kernel_rfl) rfl ?_
  refine gl_store 2 hS el45.cellsOf.1 el45.cellsOf.2 rfl rfl rfl rfl rfl rfl rfl rfl fun w_198 hS => ?_
  refine gl_nil (ga_next ((((hS.blank 0).blank 2).erase 5).erase 5) fun hK => ?_)
  refine ga_done (by kernel_rfl) ?_
  intro a' ha
  exact ⟨(A156, 0, c156), (A161, 0, c161), ha.sub ⟨rfl, rfl, rfl, rfl, rfl, trivial⟩, (hS.erase 5).erase 5⟩
 rintro a' w1 ⟨W, B', hF, hS⟩
 refine gc_of hF ?_
 clear hF
 refine gc_seq fun K21 hK21 => gc_region (Zp rfl (Zp rfl (gl_callf rfl rfl rfl rfl Tryz.func52 rfl rfl rfl (complexes0_calls _ _) ?_)))
 rintro _ _ ⟨rfl, n166, rfl⟩
 refine ⟨_, rfl, ?_⟩
 have hS := hS.dr n166
 refine Zp rfl (Zp rfl (gl_callf rfl rfl rfl rfl Tryz.func52 rfl rfl rfl (complexes0_calls _ _) ?_))
 rintro _ _ ⟨rfl, n169, rfl⟩
 refine ⟨_, rfl, ?_⟩
 have hS := hS.dr n169
 refine Zf 12 Tryz.underlying48 rfl el46 (gl_store 2 hS el46.cellsOf.1 el46.cellsOf.2 rfl rfl rfl rfl rfl rfl rfl rfl fun w_199 hS => ?_)
 refine Zf 13 Tryz.underlying48 rfl el46 (gl_store 2 hS el46.cellsOf.1 el46.cellsOf.2 rfl rfl rfl rfl rfl rfl rfl rfl fun w_199 hS => ?_)
 refine gl_nil (hK21 _ _ (gc_cut (fun a' w' => ∃ W B' AL cL, Fr 194 a' [(0, .pointer (some ⟨g, 0, none⟩)), (7, .pointer (some ⟨g7, 0, none⟩))] ∧ St B w0 w' (.blk g 64 (nrC A c (18) (.slice AL 1 cL) (.slice (some ad) 1 cs)) :: .row (some ad) cs 27 3 1 (shC ⟨1, 1, 1⟩) :: .row AL cL 48 14 1 (lyC ⟨8, 0, 0, 0, 0, 0, 0, 0, 0, exA, W, B', (none, 0, 0), (none, 0, 0)⟩) :: .blk g7 27 (shC ⟨1, 1, 1⟩) :: L)) ?_ ?_))
 ·refine gc_anyS (hS.blank 0) (by kernel_rfl) rfl fun nq23 hK => ?_
  have hS := hS.dr nq23
  refine Yp 0 rfl (by kernel_rfl) (fun _ _ _ _ h => h) hK ?_
  refine Yp 1 rfl (by kernel_rfl) (fun _ _ _ _ h => h) hK ?_
  refine Yp 2 rfl (by kernel_rfl) (fun _ _ _ _ h => h) hK ?_
  refine Yf 3 2 Tryz.underlying64 rfl el31 (by kernel_rfl) (fun _ _ _ _ h => h) hK ?_
  refine Yf 4 5 Tryz.underlying31 rfl el28 (by kernel_rfl) (fun _ _ _ _ h => h) hK ?_
  refine ga_take 6 rfl rfl rfl rfl (by kernel_rfl) (fun _ _ _ _ h => h) hK (fun w1 hS => op_loadG 2 Tryz.underlying48 rfl el48 hS rfl rfl rfl rfl rfl) ?_
  refine ga_two 5 7 (by kernel_rfl) rfl rfl ?_ ?_
  ·refine Zb 0 hS rfl (gl_nil (ga_next (hS.blank 0) fun hK => ?_))
   refine ga_one 7 (by kernel_rfl) rfl ?_
   refine gl_litS hT hS el48 rfl rfl rfl rfl rfl rfl rfl (by decide) fun g179 w179 hS => ?_
   have hS := hS.moveIn 5
   refine gl_nil (ga_next ((hS.blank 0).erase 5) fun hK => ?_)
   refine ga_one 8 (by kernel_rfl) rfl ?_
   refine gl_append0 hT hS el48 (hS.rd (i := 5) rfl) rfl rfl rfl rfl rfl rfl rfl rfl (by decide) (by decide) fun A180 c180 w180 hS => ?_
   have hS := hS.moveIn 6
   refine gl_nil (ga_next (((hS.blank 0).erase 5).erase 5) fun hK => ?_)
   refine Yp 9 rfl (by kernel_rfl) (fun _ _ _ _ h => h) hK ?_
   refine Yf 10 2 Tryz.underlying64 rfl el31 (by kernel_rfl) (fun _ _ _ _ h => h) hK ?_
   refine Yf 11 5 Tryz.underlying31 rfl el28 (by kernel_rfl) (fun _ _ _ _ h => h) hK ?_
   refine ga_one 12 (by kernel_rfl) rfl ?_
   refine gl_store 0 hS el28.cellsOf.1 el28.cellsOf.2 rfl rfl rfl rfl rfl rfl rfl rfl fun w_200 hS => ?_
   refine gl_nil (ga_next (((hS.blank 0).erase 5).erase 5) fun hK => ?_)
   refine ga_done (by kernel_rfl) ?_
   intro a' ha
   refine ⟨W, B', A180, c180, ha.sub ⟨rfl, rfl, trivial⟩, ?_⟩
   have hS := ((hS.erase 5).erase 3).erase 2
   exact hS.permute (.cons _ (.cons _ (.swap _ _ _)))
  refine gl_litS hT hS el48 rfl rfl rfl rfl rfl rfl rfl (by decide) fun g179 w179 hS => ?_
  have hS := hS.moveIn 5
  refine gl_nil (ga_next ((hS.blank 0).erase 5) fun hK => ?_)
  refine ga_one 5 (by kernel_rfl) rfl ?_
  refine Zb 0 hS rfl (gl_nil (ga_next ((hS.blank 0).erase 5) fun hK => ?_))
  refine ga_one 8 (by kernel_rfl) rfl ?_
  refine gl_append0 hT hS el48 (hS.rd (i := 5) rfl) rfl rfl rfl rfl rfl rfl rfl rfl (by decide) (by decide) fun A180 c180 w180 hS => ?_
  have hS := hS.moveIn 6
  refine gl_nil (ga_next (((hS.blank 0).erase 5).erase 5) fun hK => ?_)
  refine Yp 9 rfl (by kernel_rfl) (fun _ _ _ _ h => h) hK ?_
  refine Yf 10 2 Tryz.underlying64 rfl el31 (by kernel_rfl) (fun _ _ _ _ h => h) hK ?_
  refine Yf 11 5 Tryz.underlying31 rfl el28 (by kernel_rfl) (fun _ _ _ _ h => h) hK ?_
  refine ga_one 12 (by kernel_rfl) rfl ?_
  refine gl_store 0 hS el28.cellsOf.1 el28.cellsOf.2 rfl rfl rfl rfl rfl rfl rfl rfl fun w_200 hS => ?_
  refine gl_nil (ga_next (((hS.blank 0).erase 5).erase 5) fun hK => ?_)
  refine ga_done (by kernel_rfl) ?_
  intro a' ha
  refine ⟨W, B', A180, c180, ha.sub ⟨rfl, rfl, trivial⟩, ?_⟩
  have hS := ((hS.erase 5).erase 3).erase 2
  exact hS.permute (.cons _ (.cons _ (.swap _ _ _)))
 rintro a' w1 ⟨W, B', AL, cL, hF, hS⟩
 refine gc_of hF ?_
 clear hF
 refine gc_anyS ((hS.blank 0).blank 1) (by kernel_rfl) rfl fun nq24 hK => ?_
 have hS := hS.dr nq24
 refine Yp 0 rfl (by kernel_rfl) (fun _ _ _ _ h => h) hK ?_
 refine Yp 1 rfl (by kernel_rfl) (fun _ _ _ _ h => h) hK ?_
 refine Yp 2 rfl (by kernel_rfl) (fun _ _ _ _ h => h) hK ?_
 refine Yf 3 7 Tryz.underlying64 rfl el62 (by kernel_rfl) (fun _ _ _ _ h => h) hK ?_
 refine ga_take 5 rfl rfl rfl rfl (by kernel_rfl) (fun _ _ _ _ h => h) hK (fun w1 hS => op_loadG 3 Tryz.underlying27 rfl el27 hS rfl rfl rfl rfl rfl) ?_
 refine ga_two 4 6 (by kernel_rfl) rfl rfl ?_ ?_
 ·refine Zb 0 hS rfl (gl_nil (ga_next ((hS.blank 0).blank 1) fun hK => ?_))
  refine ga_one 6 (by kernel_rfl) rfl ?_
  refine gl_litS hT hS el27 rfl rfl rfl rfl rfl rfl rfl (by decide) fun g190 w190 hS => ?_
  have hS := hS.moveIn 4
  refine gl_nil (ga_next (((hS.blank 0).blank 1).erase 4) fun hK => ?_)
  refine ga_one 7 (by kernel_rfl) rfl ?_
  refine gl_append 1 hT hS el27 (hS.rd (i := 4) rfl) rfl rfl rfl rfl rfl rfl rfl rfl rfl (by decide) (by decide) fun A191 c191 w191 hS => ?_
  refine gl_nil (ga_next (((hS.blank 0).blank 1).erase 4) fun hK => ?_)
  refine Yp 8 rfl (by kernel_rfl) (fun _ _ _ _ h => h) hK ?_
  refine Yf 9 7 Tryz.underlying64 rfl el62 (by kernel_rfl) (fun _ _ _ _ h => h) hK ?_
  refine ga_one 10 (by kernel_rfl) rfl ?_
  refine gl_store 0 hS el62.cellsOf.1 el62.cellsOf.2 rfl rfl rfl rfl rfl rfl rfl rfl fun w_201 hS => ?_
  refine gl_nil (ga_next (((hS.blank 0).blank 1).erase 4) fun hK => ?_)
  refine ga_done (by kernel_rfl) ?_
  refine gk_end0 rfl ?_
  exact ⟨rfl, AL, cL, A191, c191, W, B', (hS.erase 4).erase 3⟩
 refine gl_litS hT hS el27 rfl rfl rfl rfl rfl rfl rfl (by decide) fun g190 w190 hS => ?_
 have hS := hS.moveIn 4
 refine gl_nil (ga_next (((hS.blank 0).blank 1).erase 4) fun hK => ?_)
 refine ga_one 4 (by kernel_rfl) rfl ?_
 refine Zb 0 hS rfl (gl_nil (ga_next (((hS.blank 0).blank 1).erase 4) fun hK => ?_))
 refine ga_one 7 (by kernel_rfl) rfl ?_
 refine gl_append 1 hT hS el27 (hS.rd (i := 4) rfl) rfl rfl rfl rfl rfl rfl rfl rfl rfl (by decide) (by decide) fun A191 c191 w191 hS => ?_
 refine gl_nil (ga_next (((hS.blank 0).blank 1).erase 4) fun hK => ?_)
 refine Yp 8 rfl (by kernel_rfl) (fun _ _ _ _ h => h) hK ?_
 refine Yf 9 7 Tryz.underlying64 rfl el62 (by kernel_rfl) (fun _ _ _ _ h => h) hK ?_
 refine ga_one 10 (by kernel_rfl) rfl ?_
 refine gl_store 0 hS el62.cellsOf.1 el62.cellsOf.2 rfl rfl rfl rfl rfl rfl rfl rfl fun w_201 hS => ?_
 refine gl_nil (ga_next (((hS.blank 0).blank 1).erase 4) fun hK => ?_)
 refine ga_done (by kernel_rfl) ?_
 refine gk_end0 rfl ?_
 exact ⟨rfl, AL, cL, A191, c191, W, B', (hS.erase 4).erase 3⟩
end Go.Proofs.YtnomlloaahoceaaGreatDoor

/- Contracts of package code: a layer, read. No condition. -/
namespace Go.Proofs.YtnomlloaahoceaaGreatDoor
open Go.RowKit
set_option linter.unusedVariables false
set_option linter.unusedSimpArgs false
@[reducible] def nrX (A : Option Addr) (n c : Nat) (at_ : Int) (s0 : Sh) (ls ns sh : Value) (sum : Int) : List Value := cuC A n c at_ [.int .i64 s0.c, .int .i64 s0.h, .int .i64 s0.w, ls, ns, sh, .int .i64 sum]
@[reducible] def wth (L : Ly) (W B Z Y : Sv) : Ly := ⟨L.k, L.out, L.kh, L.kw, L.sh, L.sw, L.ph, L.pw, L.fr, L.a, W, B, Z, Y⟩
theorem St.only {B : Nat} {w0 w : World} {x : It} {M L : List It} (h : St B w0 w (x :: (M ++ L))) : St B w0 w (x :: L) := h.sub (.cons_cons _ (List.sublist_append_right M L))
theorem St.keepFront {B : Nat} {w0 w : World} {L1 L2 L : List It} (h : St B w0 w (L1 ++ (L2 ++ L))) : St B w0 w (L1 ++ (.keep (fun b => ∃ it ∈ L2, it.fp b) w :: L)) := by
 have h1 : St B w0 w ((L1 ++ L) ++ L2) := h.permute (by rw [List.append_assoc]; exact (List.perm_append_comm (l₁ := L2) (l₂ := L)).append_left L1)
 have h2 := h1.keepRest
 exact h2.permute (by rw [List.append_assoc]; exact (List.perm_append_comm (l₁ := L) (l₂ := [_])).append_left L1)
def Lys (w : World) (ok : Nat → Prop) (Ls : List Ly) (xs : List Lx) : Prop := Ls.length = xs.length ∧ ∀ (i : Nat) L x, Ls[i]? = some L → xs[i]? = some x → LyM w ok ⟨L, x.lw, x.lb, x.lz, x.lzb⟩ ∧ bare L = x.L
theorem LyM.lift {w w' : World} {ok ok' : Nat → Prop} {x : Lx} (h : LyM w ok x) (hl : ∀ {A : Option Addr} {n : Nat} {cs : List Value}, Rd w ok A n 1 cs → Rd w' ok' A n 1 cs) : LyM w' ok' x :=
 ⟨h.okL, hl h.rW, h.nW, hl h.rB, h.nB, hl h.rZ, h.nZ, hl h.rZB, h.nZB, h.fW, h.fB, h.fZ, h.fZB, h.lW, h.lB, h.lZ, h.lZB⟩
theorem Lys.lift {w w' : World} {ok ok' : Nat → Prop} {Ls : List Ly} {xs : List Lx} (h : Lys w ok Ls xs) (hl : ∀ {A : Option Addr} {n : Nat} {cs : List Value}, Rd w ok A n 1 cs → Rd w' ok' A n 1 cs) : Lys w' ok' Ls xs :=
 ⟨h.1, fun i L x h1 h2 => ⟨(h.2 i L x h1 h2).1.lift hl, (h.2 i L x h1 h2).2⟩⟩
theorem Lys.snoc {w : World} {ok : Nat → Prop} {Ls : List Ly} {xs : List Lx} {L : Ly} {x : Lx} (h : Lys w ok Ls xs) (h1 : LyM w ok ⟨L, x.lw, x.lb, x.lz, x.lzb⟩) (h2 : bare L = x.L) : Lys w ok (Ls ++ [L]) (xs ++ [x]) := by
 refine ⟨by simp [h.1], fun i y m hy hm => ?_⟩
 have hl := h.1
 rcases snoc_get hy with ⟨hy, hi⟩ | ⟨hi, rfl⟩ <;> rcases snoc_get hm with ⟨hm, hi2⟩ | ⟨hi2, rfl⟩
 ·exact h.2 i y m hy hm
 ·omega
 ·omega
 exact ⟨h1, h2⟩
theorem mkL_ok {k : Int} {v : List Int} {a : Nat} (hk : i64 k) (hv : ∀ y ∈ v, i64 y) (ha : a < 18446744073709551616) : (mkL k v a).ok := by
 have hg : ∀ j, i64 (v.getD j 0) := fun j => by
  rw [List.getD_eq_getElem?_getD]
  cases h : v[j]? with
  | none => exact ⟨by decide, by decide⟩
  | some y => exact hv y (List.mem_of_getElem? h)
 exact ⟨hk, hg 0, hg 1, hg 2, hg 3, hg 4, hg 5, hg 6, hg 7, ha⟩
theorem set_mk {k n : Int} {v : List Int} {a j : Nat} (hj : j < 8) (hv : v.length = 8) : (lyC (mkL k v a)).set (j + 1) (.int .i64 n) = lyC (mkL k (v.set j n) a) := by
 match v, hv with
 | [_, _, _, _, _, _, _, _], _ =>
  match j, hj with
  | 0, _ => rfl
  | 1, _ => rfl
  | 2, _ => rfl
  | 3, _ => rfl
  | 4, _ => rfl
  | 5, _ => rfl
  | 6, _ => rfl
  | 7, _ => rfl
theorem fidx_lt (k : Int) : (fidx k).length ≤ 7 ∧ ∀ j ∈ fidx k, j < 8 := by
 unfold fidx
 split
 ·exact ⟨by decide, by decide⟩
 split
 ·exact ⟨by decide, by decide⟩
 split
 ·exact ⟨by decide, by decide⟩
 split
 ·exact ⟨by decide, by decide⟩
 exact ⟨by decide, by decide⟩
theorem dnLy_k {l : List UInt8} {Ss : List Sh} {i : Nat} {sum at0 a k : Int} (h : rU l at0 = .ok (k, a)) (hk : k < 1 ∨ 12 < k) : dnLy l Ss i sum at0 = .error (61, at0) := by
 rw [dnLy_0 h, show fidx k = [] by unfold fidx; rw [if_neg (by omega), if_neg (by omega), if_neg (by omega), if_neg (by omega)], dlV_0, dlA_0 (by omega)]
 have h1 : fieldsV (mkL k v0 0) = 61 := fv_61 hk
 have h2 : outV (mkL k v0 0) (Ss.getD i zSh) = (⟨0, 0, 0⟩, 61) := by unfold outV; rw [h1, if_pos (by decide)]
 rw [dlOut_b (by rw [h2]; decide), h2]
theorem out_ok {L : Ly} {s : Sh} (h : ¬ (outV L s).2 ≠ 0) : (outV L s).1.ok ∧ sizeV (outV L s).1 = ((outV L s).1.c * (outV L s).1.h * (outV L s).1.w, 0) := by
 obtain ⟨_, _, _, _, h5, h6⟩ := outV_ok (by simpa using h : (outV L s).2 = 0)
 have hg := sz_good h5
 rw [h6]
 exact ⟨⟨⟨by omega, by omega⟩, ⟨by omega, by omega⟩, ⟨by omega, by omega⟩⟩, by unfold sizeV; rw [if_neg h5]⟩
theorem flat_snoc {α : Type} (f : α → List Value) (l : List α) (x : α) : ((l ++ [x]).map f).flatten = (l.map f).flatten ++ f x := by simp
theorem shp_one (s : Sh) : allOne (shC s) = true := rfl
theorem lyC_one (L : Ly) : allOne (lyC L) = true := rfl
theorem sh_ne_iff {k fr n : Int} {s2 s : Sh} (hk : k = 5) (hn : ¬ n ≤ fr) : ((!decide (s2.c = s.c ∧ s2.h = s.h ∧ s2.w = s.w)) = true ↔ (k = 5 ∧ (n ≤ fr ∨ s2 ≠ s))) := by
 constructor
 ·intro h
  refine ⟨hk, .inr fun he => ?_⟩
  subst he
  simp at h
 rintro ⟨_, h | h⟩
 ·exact absurd h hn
 obtain ⟨a, b, c⟩ := s2
 obtain ⟨d, e, f⟩ := s
 simp only [Bool.not_eq_true', decide_eq_false_iff_not]
 rintro ⟨h1, h2, h3⟩
 subst h1 h2 h3
 exact h rfl
set_option maxHeartbeats 8000000 in
set_option maxRecDepth 100000 in
theorem codeLayer_calls {B : Nat} {w0 : World} (g : Nat) (A As AL : Option Addr) (c cs cL : Nat) (l : List UInt8) (at_ sum : Int) (s0 : Sh) (ns : Value) (Ss : List Sh) (Ls : List Ly) (xs : List Lx) (K : Nat → Prop) (wk : World) (L : List It) (w : World)
 (hS0 : St B w0 w (.blk g 64 (nrX A l.length c at_ s0 (.slice AL Ls.length cL) ns (.slice As Ss.length cs) sum) :: .row As cs 27 3 Ss.length (Ss.map shC).flatten :: .row AL cL 48 14 Ls.length (Ls.map lyC).flatten :: .keep K wk :: L))
 {ok : Nat → Prop} (hr : Rdb B w0 ok A l) (hb : l.length ≤ 1048576) (hat : 0 ≤ at_ ∧ at_ ≤ l.length) (hP : Lys wk K Ls xs) (hSs : Ss.length = xs.length + 1) (hsok : ∀ s ∈ Ss, s.ok) (hxs : xs.length ≤ 64) (hsum : 0 ≤ sum ∧ sum ≤ 65536) :
 Calls Tryz.prog 24 ⟨[.pointer (some ⟨g, 0, none⟩)]⟩ w fun en w' => (∃ x y X, dnLy l Ss xs.length sum at_ = .error (x, y) ∧ en = .panicked (pn x y) ∧ St B w0 w' (X :: L)) ∨
  (∃ x o a L' AL' cL' As' cs' K' wk', dnLy l Ss xs.length sum at_ = .ok (x, o, a) ∧ en = .returned (.tuple #[]) ∧ Lys wk' K' (Ls ++ [L']) (xs ++ [x]) ∧ o.ok ∧ (0 ≤ wtsV x ∧ sum + wtsV x ≤ 65536) ∧ (0 ≤ a ∧ a ≤ l.length) ∧ sizeV o = (o.c * o.h * o.w, 0) ∧
    St B w0 w' (.blk g 64 (nrX A l.length c a s0 (.slice AL' (Ls ++ [L']).length cL') ns (.slice As' (Ss ++ [o]).length cs') (sum + wtsV x)) :: .row As' cs' 27 3 (Ss ++ [o]).length ((Ss ++ [o]).map shC).flatten :: .row AL' cL' 48 14 (Ls ++ [L']).length ((Ls ++ [L']).map lyC).flatten :: .keep K' wk' :: L)) := by
 obtain ⟨ad, rfl⟩ : ∃ ad, As = some ad := by
  obtain ⟨ad, h, _⟩ := (hS0.rd (i := 1) rfl).2 (by omega)
  exact ⟨ad, h⟩
 obtain ⟨s, hs⟩ : ∃ s, Ss[xs.length]? = some s := ⟨_, List.getElem?_eq_getElem (by omega)⟩
 have hsg : Ss.getD xs.length zSh = s := by rw [List.getD_eq_getElem?_getD, hs]; rfl
 have hso := hsok s (List.mem_of_getElem? hs)
 have hLl := hP.1
 refine gc_enter (N := 194) Tryz.func24 rfl rfl rfl [(0, _)] rfl ?_
 have hS := St.start w
 have hS := hS0
 refine gc_seq fun K1 hK1 => gc_region (Zp rfl (Zp rfl (Zf 0 Tryz.underlying64 rfl el61 (Zf 1 Tryz.underlying61 rfl el3 (Zb 0 hS rfl (Zp rfl (gl_nil (hK1 _ _ (gc_seq fun K2 hK2 => gc_region (Zp rfl (Zp rfl (Zf 0 Tryz.underlying64 rfl el61 (gl_callP rfl rfl rfl rfl Tryz.func20 rfl rfl rfl (cUint_calls g _ A l.length c l at_ _ _ _ hS hr rfl hb) ?_)))))))))))))
 rintro _ w21 (⟨x, y, hx, rfl, hS⟩ | ⟨k, a1, hx, rfl, hS⟩)
 ·refine .inr ⟨_, rfl, ?_⟩
  simp only [x_then_panic, x_block_panic]
  refine gk_panic ?_
  exact .inl ⟨_, _, _, dnLy_e hx, rfl, (St.only (M := [_, _, _]) hS)⟩
 refine .inl ⟨_, rfl, ?_⟩
 have hu1 := rU_ok hx
 have hD := dnLy_0 (Ss := Ss) (i := xs.length) (sum := sum) hx
 refine gl_op rfl rfl rfl (op_buildG rfl plan48 rfl rfl) ?_
 refine gl_alloc el48 hS rfl rfl rfl rfl fun g3 w3 hS => ?_
 have hS := hS.moveIn 4
 refine gl_storeM 4 hS el48 rfl rfl rfl rfl rfl rfl rfl rfl rfl fun w_176 hS => ?_
 refine gl_nil (hK2 _ _ (gc_cut (fun a' w' => ∃ g3 g4, Fr 194 a' [(0, .pointer (some ⟨g, 0, none⟩)), (2, .int .i64 at_), (3, .pointer (some ⟨g3, 0, none⟩)), (4, .pointer (some ⟨g4, 0, none⟩))] ∧ St B w0 w' (.blk g 64 (nrX A l.length c (a1) s0 (.slice AL Ls.length cL) ns (.slice (some ad) Ss.length cs) (sum)) :: .row (some ad) cs 27 3 Ss.length (Ss.map shC).flatten :: .row AL cL 48 14 Ls.length (Ls.map lyC).flatten :: .keep K wk :: .blk g3 48 (lyC (mkL k v0 0)) :: .blk g4 27 (shC s) :: L)) ?_ ?_))
 ·refine gc_anyS hS (by kernel_rfl) rfl fun nq2 hK => ?_
  have hS := hS.dr nq2
  refine Yp 0 rfl (by kernel_rfl) (fun _ _ _ _ h => h) hK ?_
  refine Yp 1 rfl (by kernel_rfl) (fun _ _ _ _ h => h) hK ?_
  refine Yf 2 7 Tryz.underlying64 rfl el62 (by kernel_rfl) (fun _ _ _ _ h => h) hK ?_
  refine Yb 3 0 rfl (by kernel_rfl) (fun _ _ _ _ h => h) hK ?_
  refine Yp 4 rfl (by kernel_rfl) (fun _ _ _ _ h => h) hK ?_
  refine Yp 5 rfl (by kernel_rfl) (fun _ _ _ _ h => h) hK ?_
  refine Yf 6 7 Tryz.underlying64 rfl el62 (by kernel_rfl) (fun _ _ _ _ h => h) hK ?_
  refine Yb 7 0 rfl (by kernel_rfl) (fun _ _ _ _ h => h) hK ?_
  refine Yp 8 rfl (by kernel_rfl) (fun _ _ _ _ h => h) hK ?_
  refine ga_take 9 rfl rfl rfl rfl (by kernel_rfl) (fun _ _ _ _ h => h) hK (fun w1 hS => op_fit (n := (Ss.length : Int) - 1) hT rfl (by omega)) ?_
  refine ga_spell 32 (v := .int .i64 ((xs.length : Nat) : Int)) rfl (congrArg (Value.int .i64) (by omega)) ?_
  refine ga_take 10 rfl rfl rfl rfl (by kernel_rfl) (fun _ _ _ _ h => h) hK (fun w1 hS => op_indexAddr hT rfl rfl el27.cellsOf.1 el27.cellsOf.2 rfl rfl (by omega) (by omega) rfl) ?_
  refine ga_spell 33 (v := .pointer (some (ad.add (xs.length * 3)))) rfl (by rw [Int.toNat_natCast]) ?_
  refine ga_take 11 rfl rfl rfl rfl (by kernel_rfl) (fun _ _ _ _ h => h) hK (fun w1 hS => op_loadS Tryz.underlying27 rfl el27 rfl rfl (exSh (l := Ss) (i := xs.length) hS rfl hs) rfl) ?_
  refine ga_one 12 (by kernel_rfl) rfl ?_
  refine gl_alloc el27 hS rfl rfl rfl rfl fun g4 w4 hS => ?_
  have hS := hS.moveIn 5
  refine gl_nil (ga_next (hS.erase 5) fun hK => ?_)
  refine ga_one 13 (by kernel_rfl) rfl ?_
  refine gl_storeM 5 hS el27 rfl rfl rfl rfl rfl rfl rfl rfl rfl fun w_177 hS => ?_
  refine gl_nil (ga_next (hS.erase 5) fun hK => ?_)
  refine ga_done (by kernel_rfl) ?_
  intro a' ha
  exact ⟨g3, g4, ha.sub ⟨rfl, rfl, rfl, rfl, trivial⟩, hS⟩
 rintro a' w1 ⟨g3, g4, hF, hS⟩
 refine gc_of hF ?_
 clear hF
 refine gc_seq fun K3 hK3 => gc_seq fun K4 hK4 => gc_region (Zf 0 Tryz.underlying48 rfl el3 (Zb 4 hS rfl (Zp rfl (Zp rfl (gl_split (t := 38) rfl (fun c38 => ?_) (fun c38 => ?_))))))
 ·simp only [NN, reduceCtorEq] at c38
  refine Zs rfl (Zs rfl (Zs rfl (Zp rfl (gl_nil (hK4 _ _ (gc_cond_t rfl (gc_region (Zp rfl (Zp rfl (Zf 0 Tryz.underlying64 rfl el61 (Zp rfl (gl_callP rfl rfl rfl rfl Tryz.func23 rfl rfl rfl (fail_calls _ 61 at_ _) ?_))))))))))))
  rintro _ w47 ⟨rfl, hb47⟩
  refine .inr ⟨_, rfl, ?_⟩
  simp only [x_then_panic, x_block_panic]
  refine gk_panic ?_; exact .inl ⟨61, at_, _, dnLy_k hx (show k < 1 ∨ 12 < k from by first | exact .inl c38 | exact .inr c42), rfl, (St.only (M := [_, _, _, _, _]) hS).eqv hb47⟩
 simp only [NN, reduceCtorEq] at c38
 refine Zu rfl (Zf 0 Tryz.underlying48 rfl el3 (Zu rfl (Zb 4 hS rfl (Zu rfl (Zp rfl (Zp rfl (gl_nil (hK4 _ _ (gc_cond rfl rfl (fun c42 => ?_) (fun c42 => ?_))))))))))
 ·simp only [NN, reduceCtorEq] at c42
  refine gc_region (Zp rfl (Zp rfl (Zf 0 Tryz.underlying64 rfl el61 (Zp rfl (gl_callP rfl rfl rfl rfl Tryz.func23 rfl rfl rfl (fail_calls _ 61 at_ _) ?_)))))
  rintro _ w47 ⟨rfl, hb47⟩
  refine .inr ⟨_, rfl, ?_⟩
  simp only [x_then_panic, x_block_panic]
  refine gk_panic ?_; exact .inl ⟨61, at_, _, dnLy_k hx (show k < 1 ∨ 12 < k from by first | exact .inl c38 | exact .inr c42), rfl, (St.only (M := [_, _, _, _, _]) hS).eqv hb47⟩
 simp only [NN, reduceCtorEq] at c42
 refine gc_skip (hK3 _ _ (gc_cut (fun a' w' => ∃ (v : List Int) (a : Int), Fr 194 a' [(0, .pointer (some ⟨g, 0, none⟩)), (2, .int .i64 at_), (3, .pointer (some ⟨g3, 0, none⟩)), (4, .pointer (some ⟨g4, 0, none⟩))] ∧ (∀ y ∈ v, i64 y) ∧ (0 ≤ a ∧ a ≤ l.length) ∧ dnLy l Ss xs.length sum at_ = dlA l k v Ss xs.length sum at_ a ∧ St B w0 w' (.blk g 64 (nrX A l.length c (a) s0 (.slice AL Ls.length cL) ns (.slice (some ad) Ss.length cs) (sum)) :: .row (some ad) cs 27 3 Ss.length (Ss.map shC).flatten :: .row AL cL 48 14 Ls.length (Ls.map lyC).flatten :: .keep K wk :: .blk g3 48 (lyC (mkL k v 0)) :: .blk g4 27 (shC s) :: L)) ?_ ?_))
 ·refine gc_seq fun K5 hK5 => gc_region (gl_callf rfl rfl rfl rfl Tryz.func40 rfl rfl rfl (codeFields_calls g3 k _ (hS.cell (i := 4) rfl 0)) ?_)
  rintro _ w48 ⟨A48, c48, rfl, h48⟩
  refine ⟨_, rfl, ?_⟩
  have hS := (hS.more h48).moveIn 6
  refine Zp rfl (Zp rfl (gl_nil (hK5 _ _ (gc_block ?_))))
  have hJ := fidx_lt k
  refine gc_loop (fun kk a' w' => ∃ (i : Nat) (v : List Int) (a : Int), Fr 194 a' [(0, .pointer (some ⟨g, 0, none⟩)), (2, .int .i64 at_), (3, .pointer (some ⟨g3, 0, none⟩)), (4, .pointer (some ⟨g4, 0, none⟩)), (48, .slice A48 (fidx k).length c48), (49, .int .i64 ((fidx k).length : Nat)), (50, .int .i64 (i : Nat))] ∧ i ≤ (fidx k).length ∧ kk = (fidx k).length + 1 - i ∧ v.length = 8 ∧ (∀ y ∈ v, i64 y) ∧ (0 ≤ a ∧ a ≤ l.length) ∧
   dnLy l Ss xs.length sum at_ = dlV l k Ss xs.length sum at_ ((fidx k).drop i) v a ∧ St B w0 w' (.blk g 64 (nrX A l.length c (a) s0 (.slice AL Ls.length cL) ns (.slice (some ad) Ss.length cs) (sum)) :: .row (some ad) cs 27 3 Ss.length (Ss.map shC).flatten :: .row AL cL 48 14 Ls.length (Ls.map lyC).flatten :: .keep K wk :: .blk g3 48 (lyC (mkL k v 0)) :: .blk g4 27 (shC s) :: .row A48 c48 95 1 (fidx k).length ((fidx k).map (pfV g3)) :: L)) ((fidx k).length + 1) ?_ ?_ ?_
  ·intro a' ha; exact ⟨0, v0, a1, ha.sub ⟨rfl, rfl, rfl, rfl, rfl, rfl, rfl, trivial⟩, by omega, by omega, rfl, by decide, by omega, hD, hS⟩
  ·rintro a' w' ⟨i, _, _, _, h1, h2, _⟩; omega
  clear hS hD
  rintro kk a' w1 ⟨i, v, a, hF, hi, hkk, hv8, hvo, hab, hD, hS⟩
  refine gc_of hF ?_
  clear hF
  refine gc_seq fun K6 hK6 => gc_region (Zp rfl (gl_nil (hK6 _ _ (gc_seq fun K7 hK7 => gc_cond rfl rfl (fun c51 => ?_) (fun c51 => ?_)))))
  ·simp only [NN, reduceCtorEq] at c51
   refine gc_skip (hK7 _ _ (gc_seq fun K8 hK8 => gc_block (gc_seq fun K9 hK9 => gc_region ?_)))
   have hil : i < (fidx k).length := by omega
   obtain ⟨j, hj⟩ : ∃ j, (fidx k)[i]? = some j := ⟨_, List.getElem?_eq_getElem hil⟩
   have hj8 := hJ.2 j (List.mem_of_getElem? hj)
   have hdrop : (fidx k).drop i = j :: (fidx k).drop (i + 1) := by
    rw [List.drop_eq_getElem_cons hil]
    rw [List.getElem?_eq_getElem hil] at hj
    rw [Option.some.inj hj]
   obtain ⟨adj, hA, hcl⟩ := (rdE_of (l := fidx k) (enc := pfV g3) (hS.rd (i := 6) rfl) rfl).at 0 (i := (i : Int)) (by omega) (by omega)
   have hug : (fidx k).getD ((i : Int)).toNat 0 = j := by rw [Int.toNat_natCast, List.getD_eq_getElem?_getD, hj]; rfl
   rw [hug] at hcl
   refine gl_op rfl rfl rfl (op_indexAddr hT rfl rfl el95.cellsOf.1 el95.cellsOf.2 rfl rfl (by omega) (by omega) hA) ?_
   refine gl_op rfl rfl rfl (op_load hT rfl rfl rfl rfl hcl) ?_
   refine Zp rfl (gl_nil (hK9 _ _ (gc_region (Zp rfl (Zp rfl (Zp rfl (Zf 0 Tryz.underlying64 rfl el61 (gl_callP rfl rfl rfl rfl Tryz.func20 rfl rfl rfl (cUint_calls g _ A l.length c l a _ _ _ hS hr rfl hb) ?_))))))))
   rintro _ w58 (⟨x, y, hx2, rfl, hS⟩ | ⟨n, b, hx2, rfl, hS⟩)
   ·refine .inr ⟨_, rfl, ?_⟩
    simp only [x_then_panic, x_block_panic]
    refine gk_panic ?_
    exact .inl ⟨_, _, _, hD.trans (dlV_e hdrop hx2), rfl, (St.only (M := [_, _, _, _, _, _]) hS)⟩
   refine .inl ⟨_, rfl, ?_⟩
   have hu2 := rU_ok hx2
   have hD2 := hD.trans (dlV_s hdrop hx2)
   refine Zp rfl (gl_store 4 hS el3.cellsOf.1 el3.cellsOf.2 rfl rfl rfl rfl rfl rfl (Nat.ble_eq_true_of_le (show j + 1 + 1 ≤ 14 by omega)) rfl fun ws59 hS => ?_)
   refine gl_nil (hK8 _ _ (gc_region (Zi rfl (by omega) ?_)))
   refine Zp rfl (gl_nil ?_)
   intro a' ha
   refine ⟨i + 1, v.set j n, b, ha.sub ⟨rfl, rfl, rfl, rfl, rfl, rfl, rfl, trivial⟩, by omega, by omega, by rw [List.length_set, hv8], fun y hy => ?_, by omega, hD2, ?_⟩
   ·rcases List.mem_or_eq_of_mem_set hy with hy | rfl
    ·exact hvo y hy
    exact ⟨by omega, by omega⟩
   rw [← set_mk hj8 hv8]
   exact hS
  simp only [NN, reduceCtorEq] at c51
  refine gc_exit ?_
  intro a' ha
  change ∃ (v : List Int) (a : Int), Fr 194 a' [(0, .pointer (some ⟨g, 0, none⟩)), (2, .int .i64 at_), (3, .pointer (some ⟨g3, 0, none⟩)), (4, .pointer (some ⟨g4, 0, none⟩))] ∧ (∀ y ∈ v, i64 y) ∧ (0 ≤ a ∧ a ≤ l.length) ∧ dnLy l Ss xs.length sum at_ = dlA l k v Ss xs.length sum at_ a ∧ St B w0 _ _
  have hie : (fidx k).drop i = [] := List.drop_eq_nil_of_le (by omega)
  rw [hie, dlV_0] at hD
  exact ⟨v, a, ha.sub ⟨rfl, rfl, rfl, rfl, trivial⟩, hvo, hab, hD, hS.erase 6⟩
 rintro a' w1 ⟨v, a, hF, hvo, hab, hD, hS⟩
 refine gc_of hF ?_
 clear hF
 refine gc_cut (fun a' w' => ∃ (L0 : Ly) (a : Int), Fr 194 a' [(0, .pointer (some ⟨g, 0, none⟩)), (2, .int .i64 at_), (3, .pointer (some ⟨g3, 0, none⟩)), (4, .pointer (some ⟨g4, 0, none⟩))] ∧ (bare L0).ok ∧ (0 ≤ a ∧ a ≤ l.length) ∧ dnLy l Ss xs.length sum at_ = dlOut l (bare L0) Ss xs.length sum at_ a ∧ St B w0 w' (.blk g 64 (nrX A l.length c (a) s0 (.slice AL Ls.length cL) ns (.slice (some ad) Ss.length cs) (sum)) :: .row (some ad) cs 27 3 Ss.length (Ss.map shC).flatten :: .row AL cL 48 14 Ls.length (Ls.map lyC).flatten :: .keep K wk :: .blk g3 48 (lyC (bare L0)) :: .blk g4 27 (shC s) :: L)) ?_ ?_
 ·refine gc_seq fun K10 hK10 => gc_region (Zf 0 Tryz.underlying48 rfl el3 (Zb 4 hS rfl (gl_callf rfl rfl rfl rfl Tryz.func41 rfl rfl rfl (hasA_calls k _) ?_)))
  rintro _ _ ⟨rfl, n63, rfl⟩
  refine ⟨_, rfl, ?_⟩
  have hS := hS.dr n63
  refine gl_nil (hK10 _ _ (gc_cond rfl rfl (fun c63 => ?_) (fun c63 => ?_)))
  ·simp only [NN, reduceCtorEq] at c63
   refine gc_region (Zp rfl (Zp rfl (Zf 0 Tryz.underlying64 rfl el61 (gl_callP rfl rfl rfl rfl Tryz.func49 rfl rfl rfl (cFloat_calls g _ A l.length c l a _ _ _ hS hr rfl hb (by omega)) ?_))))
   rintro _ w67 (⟨x, y, hx2, rfl, hS⟩ | ⟨ua, b, hx2, rfl, hS⟩)
   ·refine .inr ⟨_, rfl, ?_⟩
    simp only [x_then_panic, x_block_panic]
    refine gk_panic ?_
    exact .inl ⟨_, _, _, hD.trans (dlA_e (by omega) hx2), rfl, (St.only (M := [_, _, _, _, _]) hS)⟩
   refine .inl ⟨_, rfl, ?_⟩
   have hu2 := rF_ok hx2
   have hD := hD.trans (dlA_1 (by omega) hx2)
   refine Zf 9 Tryz.underlying48 rfl el44 (gl_store 4 hS el44.cellsOf.1 el44.cellsOf.2 rfl rfl rfl rfl rfl rfl rfl rfl fun w_185 hS => ?_)
   refine gl_nil ?_
   intro a' ha
   have hki : i64 k := ⟨by omega, by omega⟩
   exact ⟨mkL k v ua, b, ha.sub ⟨rfl, rfl, rfl, rfl, trivial⟩, mkL_ok hki hvo hu2.2.2.2, ⟨by omega, by omega⟩, hD, hS⟩
  simp only [NN, reduceCtorEq] at c63
  refine gc_skip ?_
  intro a' ha
  have hki : i64 k := ⟨by omega, by omega⟩
  exact ⟨mkL k v 0, a, ha.sub ⟨rfl, rfl, rfl, rfl, trivial⟩, mkL_ok hki hvo (show 0 < 18446744073709551616 by decide), hab, hD.trans (dlA_0 (by omega)), hS⟩
 rintro a' w1 ⟨L0, a, hF, hok, hab, hD, hS⟩
 refine gc_of hF ?_
 clear hF
 refine gc_seq fun K11 hK11 => gc_region (Zg 4 Tryz.underlying48 el48 hS rfl (Zg 5 Tryz.underlying27 el27 hS rfl (gl_callf rfl rfl rfl rfl Tryz.func50 rfl rfl rfl (mOut_calls (bare L0) s _ hok hso) ?_)))
 rintro _ w72 ⟨rfl, hb72⟩
 refine ⟨_, rfl, ?_⟩
 have hS := hS.grown hb72
 refine Zp rfl (Zp rfl (Zp rfl (gl_alloc el27 hS rfl rfl rfl rfl fun g7 w7 hS => ?_)))
 have hS := hS.moveIn 6
 refine gl_storeM 6 hS el27 rfl rfl rfl rfl rfl rfl rfl rfl rfl fun w_187 hS => ?_
 refine Zp rfl (gl_nil (hK11 _ _ (gc_seq fun K12 hK12 => gc_region (Zp rfl (Zp rfl (Zf 0 Tryz.underlying64 rfl el61 (Zp rfl (Zp rfl (gl_callP rfl rfl rfl rfl Tryz.func22 rfl rfl rfl (check_calls8 _ (outV (bare L0) s).2 at_ _) ?_)))))))))
 rintro _ w80 (⟨hx2, rfl, hb80⟩ | ⟨hx2, rfl, hb80⟩)
 ·refine .inr ⟨_, rfl, ?_⟩
  simp only [x_then_panic, x_block_panic]
  refine gk_panic ?_
  rw [← hsg] at hx2 ⊢
  exact .inl ⟨_, _, _, hD.trans (dlOut_b hx2), rfl, (St.only (M := [_, _, _, _, _, _]) hS).eqv hb80⟩
 refine .inl ⟨_, rfl, ?_⟩
 have hS := hS.eqv hb80
 have hno : ¬ (outV (bare L0) s).2 ≠ 0 := by omega
 obtain ⟨hf0, _⟩ := outV_ok (by omega : (outV (bare L0) s).2 = 0)
 obtain ⟨_, _, hfo⟩ := fv_zero hf0
 have hfr : L0.k = 5 → 0 ≤ L0.fr ∧ L0.fr ≤ 64 := fun h => by
  have := hfo.2.2
  rw [if_pos (show (bare L0).k = 5 from h)] at this
  exact this
 have hwb := wsum_bd hno
 have hoo := out_ok hno
 refine gl_nil (hK12 _ _ (gc_seq fun K13 hK13 => gc_cut (fun a' w' => ∃ (g7 : Nat) (bb : Bool), Fr 194 a' [(0, .pointer (some ⟨g, 0, none⟩)), (2, .int .i64 at_), (3, .pointer (some ⟨g3, 0, none⟩)), (4, .pointer (some ⟨g4, 0, none⟩)), (7, .pointer (some ⟨g7, 0, none⟩)), (105, .bool bb)] ∧ (bb = true ↔ (L0.k = 5 ∧ ((Ss.length : Int) ≤ L0.fr ∨ Ss.getD L0.fr.toNat zSh ≠ s))) ∧ St B w0 w' (.blk g 64 (nrX A l.length c (a) s0 (.slice AL Ls.length cL) ns (.slice (some ad) Ss.length cs) (sum)) :: .row (some ad) cs 27 3 Ss.length (Ss.map shC).flatten :: .row AL cL 48 14 Ls.length (Ls.map lyC).flatten :: .keep K wk :: .blk g3 48 (lyC (bare L0)) :: .blk g4 27 (shC s) :: .blk g7 27 (shC (outV (bare L0) s).1) :: L)) ?_ ?_))
 ·refine gc_anyS hS (by kernel_rfl) rfl fun nq14 hK => ?_
  have hS := hS.dr nq14
  refine Yf 0 0 Tryz.underlying48 rfl el3 (by kernel_rfl) (fun _ _ _ _ h => h) hK ?_
  refine Yb 1 4 rfl (by kernel_rfl) (fun _ _ _ _ h => h) hK ?_
  refine Yp 2 rfl (by kernel_rfl) (fun _ _ _ _ h => h) hK ?_
  refine ga_spell 83 (v := .bool (decide (L0.k = 5))) rfl (rfl) ?_
  refine Yp 3 rfl (by kernel_rfl) (fun _ _ _ _ h => h) hK ?_
  refine ga_split (t := 84) rfl (fun c84 => ?_) (fun c84 => ?_)
  ·simp only [NN, reduceCtorEq] at c84
   refine ga_take_at 4 rfl rfl rfl rfl rfl rfl rfl (by kernel_rfl) (fun _ _ _ _ h => h) hK (fun w1 hS => op_fieldB 8 rfl Tryz.underlying48 rfl el3 rfl rfl) ?_
   refine ga_take_at 5 rfl rfl rfl rfl rfl rfl rfl (by kernel_rfl) (fun _ _ _ _ h => h) hK (fun w1 hS => op_loadB 4 hT hS rfl rfl rfl rfl rfl rfl) ?_
   refine ga_take_at 6 rfl rfl rfl rfl rfl rfl rfl (by kernel_rfl) (fun _ _ _ _ h => h) hK (fun w1 hS => op_pure hT rfl) ?_
   refine ga_take_at 7 rfl rfl rfl rfl rfl rfl rfl (by kernel_rfl) (fun _ _ _ _ h => h) hK (fun w1 hS => op_pure hT rfl) ?_
   refine ga_take_at 8 rfl rfl rfl rfl rfl rfl rfl (by kernel_rfl) (fun _ _ _ _ h => h) hK (fun w1 hS => op_fieldB 7 rfl Tryz.underlying64 rfl el62 rfl rfl) ?_
   refine ga_take_at 9 rfl rfl rfl rfl rfl rfl rfl (by kernel_rfl) (fun _ _ _ _ h => h) hK (fun w1 hS => op_loadB 0 hT hS rfl rfl rfl rfl rfl rfl) ?_
   refine ga_take_at 10 rfl rfl rfl rfl rfl rfl rfl (by kernel_rfl) (fun _ _ _ _ h => h) hK (fun w1 hS => op_pure hT rfl) ?_
   refine ga_take_at 11 rfl rfl rfl rfl rfl rfl rfl (by kernel_rfl) (fun _ _ _ _ h => h) hK (fun w1 hS => op_pure hT rfl) ?_
   refine ga_take_at 12 rfl rfl rfl rfl rfl rfl rfl (by kernel_rfl) (fun _ _ _ _ h => h) hK (fun w1 hS => op_pure hT rfl) ?_
   refine ga_split (t := 93) rfl (fun c93 => ?_) (fun c93 => ?_)
   ·simp only [NN, reduceCtorEq] at c93
    refine Ys 13 rfl (by kernel_rfl) (fun _ _ _ _ h => h) hK ?_
    refine Ys 14 rfl (by kernel_rfl) (fun _ _ _ _ h => h) hK ?_
    refine Ys 15 rfl (by kernel_rfl) (fun _ _ _ _ h => h) hK ?_
    refine Ys 16 rfl (by kernel_rfl) (fun _ _ _ _ h => h) hK ?_
    refine Ys 17 rfl (by kernel_rfl) (fun _ _ _ _ h => h) hK ?_
    refine Ys 18 rfl (by kernel_rfl) (fun _ _ _ _ h => h) hK ?_
    refine Ys 19 rfl (by kernel_rfl) (fun _ _ _ _ h => h) hK ?_
    refine Ys 20 rfl (by kernel_rfl) (fun _ _ _ _ h => h) hK ?_
    refine Ys 21 rfl (by kernel_rfl) (fun _ _ _ _ h => h) hK ?_
    refine Ys 22 rfl (by kernel_rfl) (fun _ _ _ _ h => h) hK ?_
    refine ga_take_at 23 rfl rfl rfl rfl rfl rfl rfl (by kernel_rfl) (fun _ _ _ _ h => h) hK (fun w1 hS => op_pure hT rfl) ?_
    refine Yp 24 rfl (by kernel_rfl) (fun _ _ _ _ h => h) hK ?_
    refine ga_done (by kernel_rfl) ?_
    intro a' ha
    exact ⟨g7, true, ha.sub ⟨rfl, rfl, rfl, rfl, rfl, rfl, trivial⟩, ⟨fun _ => ⟨by omega, .inl (by omega)⟩, fun _ => rfl⟩, hS⟩
   simp only [NN, reduceCtorEq] at c93
   refine ga_take_at 13 rfl rfl rfl rfl rfl rfl rfl (by kernel_rfl) (fun _ _ _ _ h => h) hK (fun w1 hS => op_pure hT rfl) ?_
   refine ga_take_at 14 rfl rfl rfl rfl rfl rfl rfl (by kernel_rfl) (fun _ _ _ _ h => h) hK (fun w1 hS => op_pure hT rfl) ?_
   refine ga_take_at 15 rfl rfl rfl rfl rfl rfl rfl (by kernel_rfl) (fun _ _ _ _ h => h) hK (fun w1 hS => op_fieldB 7 rfl Tryz.underlying64 rfl el62 rfl rfl) ?_
   refine ga_take_at 16 rfl rfl rfl rfl rfl rfl rfl (by kernel_rfl) (fun _ _ _ _ h => h) hK (fun w1 hS => op_loadB 0 hT hS rfl rfl rfl rfl rfl rfl) ?_
   refine ga_take_at 17 rfl rfl rfl rfl rfl rfl rfl (by kernel_rfl) (fun _ _ _ _ h => h) hK (fun w1 hS => op_fieldB 8 rfl Tryz.underlying48 rfl el3 rfl rfl) ?_
   refine ga_take_at 18 rfl rfl rfl rfl rfl rfl rfl (by kernel_rfl) (fun _ _ _ _ h => h) hK (fun w1 hS => op_loadB 4 hT hS rfl rfl rfl rfl rfl rfl) ?_
   refine ga_take_at 19 rfl rfl rfl rfl rfl rfl rfl (by kernel_rfl) (fun _ _ _ _ h => h) hK (fun w1 hS => op_indexAddr hT rfl rfl el27.cellsOf.1 el27.cellsOf.2 rfl rfl (hfr (by omega)).1 (by omega) rfl) ?_
   refine ga_take_at 20 rfl rfl rfl rfl rfl rfl rfl (by kernel_rfl) (fun _ _ _ _ h => h) hK (fun w1 hS => op_loadS Tryz.underlying27 rfl el27 rfl rfl (exSh (l := Ss) (i := L0.fr.toNat) (s := Ss.getD L0.fr.toNat zSh) hS rfl (by have := (hfr (by omega)).1; rw [List.getD_eq_getElem?_getD, List.getElem?_eq_getElem (by omega)]; rfl)) rfl) ?_
   refine ga_take_at 21 rfl rfl rfl rfl rfl rfl rfl (by kernel_rfl) (fun _ _ _ _ h => h) hK (fun w1 hS => op_loadG 5 Tryz.underlying27 rfl el27 hS rfl rfl rfl rfl rfl) ?_
   refine ga_take_at 22 rfl rfl rfl rfl rfl rfl rfl (by kernel_rfl) (fun _ _ _ _ h => h) hK (fun w1 hS => op_neq3 shape_three rfl rfl rfl) ?_
   refine ga_take_at 23 rfl rfl rfl rfl rfl rfl rfl (by kernel_rfl) (fun _ _ _ _ h => h) hK (fun w1 hS => op_pure hT rfl) ?_
   refine Yp 24 rfl (by kernel_rfl) (fun _ _ _ _ h => h) hK ?_
   refine ga_done (by kernel_rfl) ?_
   intro a' ha
   refine ⟨g7, _, ha.sub ⟨rfl, rfl, rfl, rfl, rfl, rfl, trivial⟩, ?_, hS⟩
   exact sh_ne_iff (k := L0.k) (fr := L0.fr) (n := (Ss.length : Int)) (s2 := Ss.getD L0.fr.toNat zSh) (s := s) (by omega) (by omega)
  simp only [NN, reduceCtorEq] at c84
  refine Ys 4 rfl (by kernel_rfl) (fun _ _ _ _ h => h) hK ?_
  refine Ys 5 rfl (by kernel_rfl) (fun _ _ _ _ h => h) hK ?_
  refine Ys 6 rfl (by kernel_rfl) (fun _ _ _ _ h => h) hK ?_
  refine Ys 7 rfl (by kernel_rfl) (fun _ _ _ _ h => h) hK ?_
  refine Ys 8 rfl (by kernel_rfl) (fun _ _ _ _ h => h) hK ?_
  refine Ys 9 rfl (by kernel_rfl) (fun _ _ _ _ h => h) hK ?_
  refine Ys 10 rfl (by kernel_rfl) (fun _ _ _ _ h => h) hK ?_
  refine Ys 11 rfl (by kernel_rfl) (fun _ _ _ _ h => h) hK ?_
  refine Ys 12 rfl (by kernel_rfl) (fun _ _ _ _ h => h) hK ?_
  refine ga_none 13 rfl rfl rfl rfl rfl rfl (by kernel_rfl) (fun _ _ _ _ h => h) hK ?_
  refine ga_none 14 rfl rfl rfl rfl rfl rfl (by kernel_rfl) (fun _ _ _ _ h => h) hK ?_
  refine ga_none 15 rfl rfl rfl rfl rfl rfl (by kernel_rfl) (fun _ _ _ _ h => h) hK ?_
  refine ga_none 16 rfl rfl rfl rfl rfl rfl (by kernel_rfl) (fun _ _ _ _ h => h) hK ?_
  refine ga_none 17 rfl rfl rfl rfl rfl rfl (by kernel_rfl) (fun _ _ _ _ h => h) hK ?_
  refine ga_none 18 rfl rfl rfl rfl rfl rfl (by kernel_rfl) (fun _ _ _ _ h => h) hK ?_
  refine ga_none 19 rfl rfl rfl rfl rfl rfl (by kernel_rfl) (fun _ _ _ _ h => h) hK ?_
  refine ga_none 20 rfl rfl rfl rfl rfl rfl (by kernel_rfl) (fun _ _ _ _ h => h) hK ?_
  refine ga_none 21 rfl rfl rfl rfl rfl rfl (by kernel_rfl) (fun _ _ _ _ h => h) hK ?_
  refine ga_none 22 rfl rfl rfl rfl rfl rfl (by kernel_rfl) (fun _ _ _ _ h => h) hK ?_
  refine Ys 23 rfl (by kernel_rfl) (fun _ _ _ _ h => h) hK ?_
  refine Yp 24 rfl (by kernel_rfl) (fun _ _ _ _ h => h) hK ?_
  refine ga_done (by kernel_rfl) ?_
  intro a' ha
  exact ⟨g7, false, ha.sub ⟨rfl, rfl, rfl, rfl, rfl, rfl, trivial⟩, ⟨fun h => (by cases h), fun h => absurd h.1 (by omega)⟩, hS⟩
 rintro a' w1 ⟨g7, bb, hF, hbb, hS⟩
 refine gc_of hF ?_
 clear hF
 refine gc_cond rfl rfl (fun c105 => ?_) (fun c105 => ?_)
 ·refine gc_region (Zp rfl (Zp rfl (Zf 0 Tryz.underlying64 rfl el61 (Zp rfl (gl_callP rfl rfl rfl rfl Tryz.func23 rfl rfl rfl (fail_calls _ 66 at_ _) ?_)))))
  rintro _ w110 ⟨rfl, hb110⟩
  refine .inr ⟨_, rfl, ?_⟩
  simp only [x_then_panic, x_block_panic]
  refine gk_panic ?_; rw [← hsg] at hno hbb; exact .inl ⟨66, at_, _, hD.trans (dlOut_f hno (hbb.1 c105)), rfl, (St.only (M := [_, _, _, _, _, _]) hS).eqv hb110⟩
 have hnf : ¬ (L0.k = 5 ∧ ((Ss.length : Int) ≤ L0.fr ∨ Ss.getD L0.fr.toNat zSh ≠ s)) := fun h => by rw [hbb.2 h] at c105; cases c105
 obtain ⟨nw, nb, nz, ny, hlv⟩ : ∃ nw nb nz ny : Nat, lensV (bare L0) s = ((nw : Int), (nb : Int), (nz : Int), (ny : Int)) := ⟨(lensV (bare L0) s).1.toNat, (lensV (bare L0) s).2.1.toNat, (lensV (bare L0) s).2.2.1.toNat, (lensV (bare L0) s).2.2.2.toNat, by
  rw [Int.toNat_of_nonneg (by omega), Int.toNat_of_nonneg (by omega), Int.toNat_of_nonneg (by omega), Int.toNat_of_nonneg (by omega)]⟩
 rw [hlv] at hwb
 simp only at hwb
 have hl0 : listsV (bare L0) s = (((nw : Int), (nb : Int), (nz : Int), (ny : Int)), 0) := by unfold listsV; rw [if_neg hno, hlv]
 have hws : wsum (bare L0) s = nw + nb + 2 * nz + 2 * ny := by unfold wsum; rw [hlv]
 refine gc_skip (hK13 _ _ (gc_seq fun K14 hK14 => gc_region (Zg 4 Tryz.underlying48 el48 hS rfl (Zg 5 Tryz.underlying27 el27 hS rfl (gl_callf rfl rfl rfl rfl Tryz.func51 rfl rfl rfl (mLists_calls (bare L0) s _ hok hso) ?_)))))
 rintro _ w114 ⟨rfl, hb114⟩
 refine ⟨_, rfl, ?_⟩
 have hS := hS.grown hb114
 rw [hl0]
 dsimp only
 refine Zp rfl (Zp rfl (Zp rfl (Zp rfl (Zp rfl (Zp rfl (Zp rfl (Zp rfl (Zp rfl (Zp rfl (Zp rfl (gl_nil (hK14 _ _ (gc_seq fun K15 hK15 => gc_region (Zp rfl (Zp rfl (Zf 0 Tryz.underlying64 rfl el61 (Zp rfl (Zp rfl (gl_callP rfl rfl rfl rfl Tryz.func22 rfl rfl rfl (check_calls8 _ 0 at_ _) ?_)))))))))))))))))))
 rintro _ w125 (⟨hx2, rfl, hb125⟩ | ⟨hx2, rfl, hb125⟩)
 ·exact absurd rfl hx2
 refine .inl ⟨_, rfl, ?_⟩
 have hS := hS.eqv hb125
 refine gl_nil (hK15 _ _ (gc_seq fun K16 hK16 => gc_region (Zp rfl (Zp rfl (Zf 8 Tryz.underlying64 rfl el3 (Zb 0 hS rfl (Zp rfl (Zp rfl (Zi rfl (by omega) ?_)))))))))
 refine Zp rfl (Zi rfl (by omega) ?_)
 refine Zi rfl (by omega) ?_
 refine Zp rfl (Zi rfl (by omega) ?_)
 refine Zi rfl (by omega) ?_
 refine Zi rfl (by omega) ?_
 refine Zp rfl (Zf 8 Tryz.underlying64 rfl el3 (gl_store 0 hS el3.cellsOf.1 el3.cellsOf.2 rfl rfl rfl rfl rfl rfl rfl rfl fun w_194 hS => ?_))
 refine gl_nil (hK16 _ _ (gc_seq fun K17 hK17 => gc_seq fun K18 hK18 => gc_region (Zp rfl (Zp rfl (Zf 8 Tryz.underlying64 rfl el3 (Zb 0 hS rfl (Zp rfl (gl_nil (hK18 _ _ (gc_cond rfl rfl (fun c146 => ?_) (fun c146 => ?_)))))))))))
 ·simp only [NN, reduceCtorEq] at c146
  refine gc_region (Zp rfl (Zp rfl (Zf 0 Tryz.underlying64 rfl el61 (Zp rfl (gl_callP rfl rfl rfl rfl Tryz.func23 rfl rfl rfl (fail_calls _ 65 at_ _) ?_)))))
  rintro _ w151 ⟨rfl, hb151⟩
  refine .inr ⟨_, rfl, ?_⟩
  simp only [x_then_panic, x_block_panic]
  refine gk_panic ?_; rw [← hsg] at hno hnf hws; exact .inl ⟨65, at_, _, hD.trans (dlOut_z hno hnf (by rw [hws]; omega)), rfl, (St.only (M := [_, _, _, _, _, _]) hS).eqv hb151⟩
 simp only [NN, reduceCtorEq] at c146
 have hD : dnLy l Ss xs.length sum at_ = dlLists l (bare L0) (outV (bare L0) s).1 nw nb nz ny a := by
  have h1 : ¬ 65536 < sum + wsum (bare L0) s := by rw [hws]; omega
  subst hsg
  rw [hD, dlOut_0 hno hnf h1, hlv]
  simp only [Int.toNat_natCast]
 refine gc_skip (hK17 _ _ (gc_cut (fun a' w' => ∃ (W Bl : List Nat) (AW AB : Option Addr) (cW cB : Nat) (a : Int), Fr 194 a' [(0, .pointer (some ⟨g, 0, none⟩)), (3, .pointer (some ⟨g3, 0, none⟩)), (7, .pointer (some ⟨g7, 0, none⟩)), (11, .int .i64 (nz : Nat)), (12, .int .i64 (ny : Nat))] ∧ (W.length = nw ∧ ∀ u ∈ W, u < 18446744073709551616) ∧ (Bl.length = nb ∧ ∀ u ∈ Bl, u < 18446744073709551616) ∧ (0 ≤ a ∧ a ≤ l.length) ∧ dnLy l Ss xs.length sum at_ = dlZ l (bare L0) (outV (bare L0) s).1 nz ny W Bl a ∧ St B w0 w' (.blk g 64 (nrX A l.length c (a) s0 (.slice AL Ls.length cL) ns (.slice (some ad) Ss.length cs) (sum + (nw + nb + 2 * nz + 2 * ny))) :: .row (some ad) cs 27 3 Ss.length (Ss.map shC).flatten :: .row AL cL 48 14 Ls.length (Ls.map lyC).flatten :: .keep K wk :: .blk g3 48 (lyC (wth L0 (AW, nw, cW) (AB, nb, cB) nilS nilS)) :: .blk g4 27 (shC s) :: .blk g7 27 (shC (outV (bare L0) s).1) :: .row AW cW 44 1 nw (W.map fV) :: .row AB cB 44 1 nb (Bl.map fV) :: L)) ?_ ?_))
 ·refine gc_anyS ((hS.blank 0).blank 4) (by kernel_rfl) rfl fun nq21 hK => ?_
  have hS := hS.dr nq21
  refine Yp 0 rfl (by kernel_rfl) (fun _ _ _ _ h => h) hK ?_
  refine Yp 1 rfl (by kernel_rfl) (fun _ _ _ _ h => h) hK ?_
  refine Yf 2 0 Tryz.underlying64 rfl el61 (by kernel_rfl) (fun _ _ _ _ h => h) hK ?_
  refine Yp 3 rfl (by kernel_rfl) (fun _ _ _ _ h => h) hK ?_
  refine Yp 5 rfl (by kernel_rfl) (fun _ _ _ _ h => h) hK ?_
  refine Yp 6 rfl (by kernel_rfl) (fun _ _ _ _ h => h) hK ?_
  refine Yf 7 0 Tryz.underlying64 rfl el61 (by kernel_rfl) (fun _ _ _ _ h => h) hK ?_
  refine Yp 8 rfl (by kernel_rfl) (fun _ _ _ _ h => h) hK ?_
  refine ga_one 4 (by kernel_rfl) rfl ?_
  refine gl_callP rfl rfl rfl rfl Tryz.func47 rfl rfl rfl (cFloats_calls g _ A l.length c l a _ _ _ nw hS hr rfl hb hab (by omega)) ?_
  rintro _ w156 (⟨x, y, a9, hx2, rfl, hS⟩ | ⟨W, a2, AW, cW, hxW, rfl, hS⟩)
  ·refine .inr ⟨_, rfl, ?_⟩
   simp only [x_then_panic, x_block_panic]
   refine gk_panic ?_
   exact .inl ⟨_, _, _, hD.trans (dlL_1 hx2), rfl, (St.only (M := [_, _, _, _, _, _]) hS)⟩
  refine .inl ⟨_, rfl, ?_⟩
  obtain ⟨hWl, hWa, hWf⟩ := rFs_ok hxW
  have ha2 := hWa hab
  have hD := hD.trans (dlL_0 hxW)
  have hS := hS.permute (.cons _ ((List.perm_append_comm (l₁ := [_]) (l₂ := [_, _, _, _, _, _])).append_right _))
  refine gl_nil (ga_next (((hS.blank 0).blank 4).erase 7) fun hK => ?_)
  refine ga_one 9 (by kernel_rfl) rfl ?_
  refine gl_callP rfl rfl rfl rfl Tryz.func47 rfl rfl rfl (cFloats_calls g _ A l.length c l a2 _ _ _ nb hS hr rfl hb ha2 (by omega)) ?_
  rintro _ w161 (⟨x, y, a9, hx2, rfl, hS⟩ | ⟨Bl, a3, AB, cB, hxB, rfl, hS⟩)
  ·refine .inr ⟨_, rfl, ?_⟩
   simp only [x_then_panic, x_block_panic]
   refine gk_panic ?_
   exact .inl ⟨_, _, _, hD.trans (dlB_1 hx2), rfl, (St.only (M := [_, _, _, _, _, _, _]) hS)⟩
  refine .inl ⟨_, rfl, ?_⟩
  obtain ⟨hBl, hBa, hBf⟩ := rFs_ok hxB
  have ha3 := hBa ha2
  have hD := hD.trans (dlB_0 hxB)
  have hS := hS.permute (.cons _ ((List.perm_append_comm (l₁ := [_]) (l₂ := [_, _, _, _, _, _, _])).append_right _))
  refine gl_nil (ga_next ((((hS.blank 0).blank 4).erase 7).erase 7) fun hK => ?_)
  refine Yf 10 10 Tryz.underlying48 rfl el45 (by kernel_rfl) (fun _ _ _ _ h => h) hK ?_
  refine ga_one 11 (by kernel_rfl) rfl ?_
  refine gl_store 4 hS el45.cellsOf.1 el45.cellsOf.2 rfl rfl rfl rfl rfl rfl rfl rfl fun w_198 hS => ?_
  refine gl_nil (ga_next ((((hS.blank 0).blank 4).erase 7).erase 7) fun hK => ?_)
  refine Yf 12 11 Tryz.underlying48 rfl el45 (by kernel_rfl) (fun _ _ _ _ h => h) hK ?_
  refine ga_one 13 (by kernel_rfl) rfl ?_
  refine gl_store 4 hS el45.cellsOf.1 el45.cellsOf.2 rfl rfl rfl rfl rfl rfl rfl rfl fun w_198 hS => ?_
  refine gl_nil (ga_next ((((hS.blank 0).blank 4).erase 7).erase 7) fun hK => ?_)
  refine ga_done (by kernel_rfl) ?_
  intro a' ha
  exact ⟨W, Bl, AW, AB, cW, cB, a3, ha.sub ⟨rfl, rfl, rfl, rfl, rfl, trivial⟩, ⟨hWl, hWf⟩, ⟨hBl, hBf⟩, ha3, hD, hS⟩
 rintro a' w1 ⟨W, Bl, AW, AB, cW, cB, a, hF, hW, hBl, hab, hD, hS⟩
 refine gc_of hF ?_
 clear hF
 refine gc_cut (fun a' w' => ∃ (Z Y : List Nat) (AZ AY : Option Addr) (cZ cY : Nat) (a : Int), Fr 194 a' [(0, .pointer (some ⟨g, 0, none⟩)), (3, .pointer (some ⟨g3, 0, none⟩)), (7, .pointer (some ⟨g7, 0, none⟩))] ∧ (Z.length = 2 * nz ∧ ∀ u ∈ Z, u < 18446744073709551616) ∧ (Y.length = 2 * ny ∧ ∀ u ∈ Y, u < 18446744073709551616) ∧ (0 ≤ a ∧ a ≤ l.length) ∧ dnLy l Ss xs.length sum at_ = .ok (⟨bare L0, W, Bl, prs Z, prs Y⟩, (outV (bare L0) s).1, a) ∧ St B w0 w' (.blk g 64 (nrX A l.length c (a) s0 (.slice AL Ls.length cL) ns (.slice (some ad) Ss.length cs) (sum + (nw + nb + 2 * nz + 2 * ny))) :: .row (some ad) cs 27 3 Ss.length (Ss.map shC).flatten :: .row AL cL 48 14 Ls.length (Ls.map lyC).flatten :: .keep K wk :: .blk g3 48 (lyC (wth L0 (AW, nw, cW) (AB, nb, cB) (AZ, nz, cZ) (AY, ny, cY))) :: .blk g4 27 (shC s) :: .blk g7 27 (shC (outV (bare L0) s).1) :: .row AW cW 44 1 nw (W.map fV) :: .row AB cB 44 1 nb (Bl.map fV) :: .row AZ cZ 98 1 nz ((prs Z).map cV) :: .row AY cY 98 1 ny ((prs Y).map cV) :: L)) ?_ ?_
 ·refine gc_region (Zp rfl (Zp rfl (gl_callP rfl rfl rfl rfl Tryz.func52 rfl rfl rfl (complexes_calls g _ A l.length c l a _ _ _ nz hS hr rfl hb hab (by omega)) ?_)))
  rintro _ w166 (⟨x, y, a9, hx2, rfl, hS⟩ | ⟨Z, a2, AZ, cZ, hxZ, rfl, hS⟩)
  ·refine .inr ⟨_, rfl, ?_⟩
   simp only [x_then_panic, x_block_panic]
   refine gk_panic ?_
   exact .inl ⟨_, _, _, hD.trans (dlZ_1 hx2), rfl, (St.only (M := [_, _, _, _, _, _, _, _]) hS)⟩
  refine .inl ⟨_, rfl, ?_⟩
  obtain ⟨hZl, hZa, hZf⟩ := rFs_ok hxZ
  have ha2 := hZa hab
  have hD := hD.trans (dlZ_0 hxZ)
  have hS := hS.permute (.cons _ ((List.perm_append_comm (l₁ := [_]) (l₂ := [_, _, _, _, _, _, _, _])).append_right _))
  refine Zp rfl (Zp rfl (gl_callP rfl rfl rfl rfl Tryz.func52 rfl rfl rfl (complexes_calls g _ A l.length c l a2 _ _ _ ny hS hr rfl hb ha2 (by omega)) ?_))
  rintro _ w169 (⟨x, y, a9, hx2, rfl, hS⟩ | ⟨Y, a3, AY, cY, hxY, rfl, hS⟩)
  ·refine .inr ⟨_, rfl, ?_⟩
   simp only [x_then_panic, x_block_panic]
   refine gk_panic ?_
   exact .inl ⟨_, _, _, hD.trans (dlZB_1 hx2), rfl, (St.only (M := [_, _, _, _, _, _, _, _, _]) hS)⟩
  refine .inl ⟨_, rfl, ?_⟩
  obtain ⟨hYl, hYa, hYf⟩ := rFs_ok hxY
  have ha3 := hYa ha2
  have hD := hD.trans (dlZB_0 hxY)
  have hS := hS.permute (.cons _ ((List.perm_append_comm (l₁ := [_]) (l₂ := [_, _, _, _, _, _, _, _, _])).append_right _))
  refine Zf 12 Tryz.underlying48 rfl el46 (gl_store 4 hS el46.cellsOf.1 el46.cellsOf.2 rfl rfl rfl rfl rfl rfl rfl rfl fun w_199 hS => ?_)
  refine Zf 13 Tryz.underlying48 rfl el46 (gl_store 4 hS el46.cellsOf.1 el46.cellsOf.2 rfl rfl rfl rfl rfl rfl rfl rfl fun w_199 hS => ?_)
  refine gl_nil ?_
  intro a' ha
  exact ⟨Z, Y, AZ, AY, cZ, cY, a3, ha.sub ⟨rfl, rfl, rfl, trivial⟩, ⟨hZl, hZf⟩, ⟨hYl, hYf⟩, ha3, hD, hS⟩
 rintro a' w1 ⟨Z, Y, AZ, AY, cZ, cY, a, hF, hZ, hY, hab, hD, hS⟩
 refine gc_of hF ?_
 clear hF
 have hLs64 : Ls.length ≤ 64 := by omega
 refine gc_cut (fun a' w' => ∃ (AL : Option Addr) (cL : Nat), Fr 194 a' [(0, .pointer (some ⟨g, 0, none⟩)), (7, .pointer (some ⟨g7, 0, none⟩))] ∧ St B w0 w' (.blk g 64 (nrX A l.length c (a) s0 (.slice AL (Ls.length + 1) cL) ns (.slice (some ad) Ss.length cs) (sum + (nw + nb + 2 * nz + 2 * ny))) :: .row (some ad) cs 27 3 Ss.length (Ss.map shC).flatten :: .row AL cL 48 14 (Ls.length + 1) ((Ls.map lyC).flatten ++ lyC (wth L0 (AW, nw, cW) (AB, nb, cB) (AZ, nz, cZ) (AY, ny, cY))) :: .keep K wk :: .blk g7 27 (shC (outV (bare L0) s).1) :: .row AW cW 44 1 nw (W.map fV) :: .row AB cB 44 1 nb (Bl.map fV) :: .row AZ cZ 98 1 nz ((prs Z).map cV) :: .row AY cY 98 1 ny ((prs Y).map cV) :: L)) ?_ ?_
 ·refine gc_anyS ((hS.blank 0).blank 2) (by kernel_rfl) rfl fun nq23 hK => ?_
  have hS := hS.dr nq23
  refine Yp 0 rfl (by kernel_rfl) (fun _ _ _ _ h => h) hK ?_
  refine Yp 1 rfl (by kernel_rfl) (fun _ _ _ _ h => h) hK ?_
  refine Yp 2 rfl (by kernel_rfl) (fun _ _ _ _ h => h) hK ?_
  refine Yf 3 2 Tryz.underlying64 rfl el31 (by kernel_rfl) (fun _ _ _ _ h => h) hK ?_
  refine Yf 4 5 Tryz.underlying31 rfl el28 (by kernel_rfl) (fun _ _ _ _ h => h) hK ?_
  refine ga_take 6 rfl rfl rfl rfl (by kernel_rfl) (fun _ _ _ _ h => h) hK (fun w1 hS => op_loadG 4 Tryz.underlying48 rfl el48 hS rfl rfl rfl rfl rfl) ?_
  refine ga_two 5 7 (by kernel_rfl) rfl rfl ?_ ?_
  ·refine Zb 0 hS rfl (gl_nil (ga_next ((hS.blank 0).blank 2) fun hK => ?_))
   refine ga_one 7 (by kernel_rfl) rfl ?_
   refine gl_litS hT hS el48 rfl rfl rfl rfl rfl rfl rfl (by decide) fun g179 w179 hS => ?_
   have hS := hS.moveIn 11
   refine gl_nil (ga_next (((hS.blank 0).blank 2).erase 11) fun hK => ?_)
   refine ga_one 8 (by kernel_rfl) rfl ?_
   refine gl_append 2 hT hS el48 (hS.rd (i := 11) rfl) (lyC_one _) rfl rfl rfl rfl rfl rfl rfl rfl (by omega) (by omega) fun A180 c180 w180 hS => ?_
   refine gl_nil (ga_next (((hS.blank 0).blank 2).erase 11) fun hK => ?_)
   refine Yp 9 rfl (by kernel_rfl) (fun _ _ _ _ h => h) hK ?_
   refine Yf 10 2 Tryz.underlying64 rfl el31 (by kernel_rfl) (fun _ _ _ _ h => h) hK ?_
   refine Yf 11 5 Tryz.underlying31 rfl el28 (by kernel_rfl) (fun _ _ _ _ h => h) hK ?_
   refine ga_one 12 (by kernel_rfl) rfl ?_
   refine gl_store 0 hS el28.cellsOf.1 el28.cellsOf.2 rfl rfl rfl rfl rfl rfl rfl rfl fun w_200 hS => ?_
   refine gl_nil (ga_next (((hS.blank 0).blank 2).erase 11) fun hK => ?_)
   refine ga_done (by kernel_rfl) ?_
   intro a' ha
   exact ⟨A180, c180, ha.sub ⟨rfl, rfl, trivial⟩, ((hS.erase 11).erase 5).erase 4⟩
  refine gl_litS hT hS el48 rfl rfl rfl rfl rfl rfl rfl (by decide) fun g179 w179 hS => ?_
  have hS := hS.moveIn 11
  refine gl_nil (ga_next (((hS.blank 0).blank 2).erase 11) fun hK => ?_)
  refine ga_one 5 (by kernel_rfl) rfl ?_
  refine Zb 0 hS rfl (gl_nil (ga_next (((hS.blank 0).blank 2).erase 11) fun hK => ?_))
  refine ga_one 8 (by kernel_rfl) rfl ?_
  refine gl_append 2 hT hS el48 (hS.rd (i := 11) rfl) (lyC_one _) rfl rfl rfl rfl rfl rfl rfl rfl (by omega) (by omega) fun A180 c180 w180 hS => ?_
  refine gl_nil (ga_next (((hS.blank 0).blank 2).erase 11) fun hK => ?_)
  refine Yp 9 rfl (by kernel_rfl) (fun _ _ _ _ h => h) hK ?_
  refine Yf 10 2 Tryz.underlying64 rfl el31 (by kernel_rfl) (fun _ _ _ _ h => h) hK ?_
  refine Yf 11 5 Tryz.underlying31 rfl el28 (by kernel_rfl) (fun _ _ _ _ h => h) hK ?_
  refine ga_one 12 (by kernel_rfl) rfl ?_
  refine gl_store 0 hS el28.cellsOf.1 el28.cellsOf.2 rfl rfl rfl rfl rfl rfl rfl rfl fun w_200 hS => ?_
  refine gl_nil (ga_next (((hS.blank 0).blank 2).erase 11) fun hK => ?_)
  refine ga_done (by kernel_rfl) ?_
  intro a' ha
  exact ⟨A180, c180, ha.sub ⟨rfl, rfl, trivial⟩, ((hS.erase 11).erase 5).erase 4⟩
 rintro a' w1 ⟨AL, cL, hF, hS⟩
 refine gc_of hF ?_
 clear hF
 refine gc_anyS ((hS.blank 0).blank 1) (by kernel_rfl) rfl fun nq24 hK => ?_
 have hS := hS.dr nq24
 refine Yp 0 rfl (by kernel_rfl) (fun _ _ _ _ h => h) hK ?_
 refine Yp 1 rfl (by kernel_rfl) (fun _ _ _ _ h => h) hK ?_
 refine Yp 2 rfl (by kernel_rfl) (fun _ _ _ _ h => h) hK ?_
 refine Yf 3 7 Tryz.underlying64 rfl el62 (by kernel_rfl) (fun _ _ _ _ h => h) hK ?_
 refine ga_take 5 rfl rfl rfl rfl (by kernel_rfl) (fun _ _ _ _ h => h) hK (fun w1 hS => op_loadG 4 Tryz.underlying27 rfl el27 hS rfl rfl rfl rfl rfl) ?_
 refine ga_two 4 6 (by kernel_rfl) rfl rfl ?_ ?_
 ·refine Zb 0 hS rfl (gl_nil (ga_next ((hS.blank 0).blank 1) fun hK => ?_))
  refine ga_one 6 (by kernel_rfl) rfl ?_
  refine gl_litS hT hS el27 rfl rfl rfl rfl rfl rfl rfl (by decide) fun g190 w190 hS => ?_
  have hS := hS.moveIn 9
  refine gl_nil (ga_next (((hS.blank 0).blank 1).erase 9) fun hK => ?_)
  refine ga_one 7 (by kernel_rfl) rfl ?_
  refine gl_append 1 hT hS el27 (hS.rd (i := 9) rfl) (shp_one _) rfl rfl rfl rfl rfl rfl rfl rfl (by omega) (by omega) fun A191 c191 w191 hS => ?_
  refine gl_nil (ga_next (((hS.blank 0).blank 1).erase 9) fun hK => ?_)
  refine Yp 8 rfl (by kernel_rfl) (fun _ _ _ _ h => h) hK ?_
  refine Yf 9 7 Tryz.underlying64 rfl el62 (by kernel_rfl) (fun _ _ _ _ h => h) hK ?_
  refine ga_one 10 (by kernel_rfl) rfl ?_
  refine gl_store 0 hS el62.cellsOf.1 el62.cellsOf.2 rfl rfl rfl rfl rfl rfl rfl rfl fun w_201 hS => ?_
  refine gl_nil (ga_next (((hS.blank 0).blank 1).erase 9) fun hK => ?_)
  refine ga_done (by kernel_rfl) ?_
  refine gk_end0 rfl ?_
  have hws2 : wtsV ⟨bare L0, W, Bl, prs Z, prs Y⟩ = nw + nb + 2 * nz + 2 * ny := by
   unfold wtsV
   rw [hW.1, hBl.1, prs_len nz Z hZ.1, prs_len ny Y hY.1]
   omega
  have hS : St B w0 _ ([.blk g 64 (nrX A l.length c a s0 (.slice AL (Ls.length + 1) cL) ns (.slice A191 (Ss.length + 1) c191) (sum + (nw + nb + 2 * nz + 2 * ny))), .row A191 c191 27 3 (Ss.length + 1) ((Ss.map shC).flatten ++ shC (outV (bare L0) s).1), .row AL cL 48 14 (Ls.length + 1) ((Ls.map lyC).flatten ++ lyC (wth L0 (AW, nw, cW) (AB, nb, cB) (AZ, nz, cZ) (AY, ny, cY)))] ++ ([.keep K wk, .row AW cW 44 1 nw (W.map fV), .row AB cB 44 1 nb (Bl.map fV), .row AZ cZ 98 1 nz ((prs Z).map cV), .row AY cY 98 1 ny ((prs Y).map cV)] ++ L)) := (hS.erase 9).erase 4
  have hP1 := hP.lift (ok' := fun b => ∃ it ∈ [It.keep K wk, .row AW cW 44 1 nw (W.map fV), .row AB cB 44 1 nb (Bl.map fV), .row AZ cZ 98 1 nz ((prs Z).map cV), .row AY cY 98 1 ny ((prs Y).map cV)], it.fp b) fun h => (hS.keepRd (i := 3) rfl h).weaken (keep_mem (x := .keep K wk) (.head _))
  have hLM : LyM _ (fun b => ∃ it ∈ [It.keep K wk, .row AW cW 44 1 nw (W.map fV), .row AB cB 44 1 nb (Bl.map fV), .row AZ cZ 98 1 nz ((prs Z).map cV), .row AY cY 98 1 ny ((prs Y).map cV)], it.fp b) ⟨wth L0 (AW, nw, cW) (AB, nb, cB) (AZ, nz, cZ) (AY, ny, cY), W, Bl, prs Z, prs Y⟩ :=
   ⟨⟨hok.k, hok.out, hok.kh, hok.kw, hok.sh, hok.sw, hok.ph, hok.pw, hok.fr, hok.a⟩, rdE_of (hS.rowRd (i := 4) rfl (keep_mem (.tail _ (.head _)))) hW.1, hW.1.symm, rdE_of (hS.rowRd (i := 5) rfl (keep_mem (.tail _ (.tail _ (.head _))))) hBl.1, hBl.1.symm,
    rdE_of (hS.rowRd (i := 6) rfl (keep_mem (.tail _ (.tail _ (.tail _ (.head _)))))) (prs_len nz Z hZ.1), (prs_len nz Z hZ.1).symm, rdE_of (hS.rowRd (i := 7) rfl (keep_mem (.tail _ (.tail _ (.tail _ (.tail _ (.head _))))))) (prs_len ny Y hY.1), (prs_len ny Y hY.1).symm,
    hW.2, hBl.2, prs_mem Z hZ.2, prs_mem Y hY.2, by show W.length ≤ _; omega, by show Bl.length ≤ _; omega, by show (prs Z).length ≤ _; rw [prs_len nz Z hZ.1]; omega, by show (prs Y).length ≤ _; rw [prs_len ny Y hY.1]; omega⟩
  have hP2 := hP1.snoc (x := ⟨bare L0, W, Bl, prs Z, prs Y⟩) hLM rfl
  refine .inr ⟨_, _, _, _, AL, cL, A191, c191, _, _, hD, rfl, hP2, hoo.1, by rw [hws2]; omega, hab, hoo.2, ?_⟩
  rw [hws2, List.length_append, List.length_append, flat_snoc, flat_snoc]
  exact hS.keepFront
 refine gl_litS hT hS el27 rfl rfl rfl rfl rfl rfl rfl (by decide) fun g190 w190 hS => ?_
 have hS := hS.moveIn 9
 refine gl_nil (ga_next (((hS.blank 0).blank 1).erase 9) fun hK => ?_)
 refine ga_one 4 (by kernel_rfl) rfl ?_
 refine Zb 0 hS rfl (gl_nil (ga_next (((hS.blank 0).blank 1).erase 9) fun hK => ?_))
 refine ga_one 7 (by kernel_rfl) rfl ?_
 refine gl_append 1 hT hS el27 (hS.rd (i := 9) rfl) (shp_one _) rfl rfl rfl rfl rfl rfl rfl rfl (by omega) (by omega) fun A191 c191 w191 hS => ?_
 refine gl_nil (ga_next (((hS.blank 0).blank 1).erase 9) fun hK => ?_)
 refine Yp 8 rfl (by kernel_rfl) (fun _ _ _ _ h => h) hK ?_
 refine Yf 9 7 Tryz.underlying64 rfl el62 (by kernel_rfl) (fun _ _ _ _ h => h) hK ?_
 refine ga_one 10 (by kernel_rfl) rfl ?_
 refine gl_store 0 hS el62.cellsOf.1 el62.cellsOf.2 rfl rfl rfl rfl rfl rfl rfl rfl fun w_201 hS => ?_
 refine gl_nil (ga_next (((hS.blank 0).blank 1).erase 9) fun hK => ?_)
 refine ga_done (by kernel_rfl) ?_
 refine gk_end0 rfl ?_
 have hws2 : wtsV ⟨bare L0, W, Bl, prs Z, prs Y⟩ = nw + nb + 2 * nz + 2 * ny := by
  unfold wtsV
  rw [hW.1, hBl.1, prs_len nz Z hZ.1, prs_len ny Y hY.1]
  omega
 have hS : St B w0 _ ([.blk g 64 (nrX A l.length c a s0 (.slice AL (Ls.length + 1) cL) ns (.slice A191 (Ss.length + 1) c191) (sum + (nw + nb + 2 * nz + 2 * ny))), .row A191 c191 27 3 (Ss.length + 1) ((Ss.map shC).flatten ++ shC (outV (bare L0) s).1), .row AL cL 48 14 (Ls.length + 1) ((Ls.map lyC).flatten ++ lyC (wth L0 (AW, nw, cW) (AB, nb, cB) (AZ, nz, cZ) (AY, ny, cY)))] ++ ([.keep K wk, .row AW cW 44 1 nw (W.map fV), .row AB cB 44 1 nb (Bl.map fV), .row AZ cZ 98 1 nz ((prs Z).map cV), .row AY cY 98 1 ny ((prs Y).map cV)] ++ L)) := (hS.erase 9).erase 4
 have hP1 := hP.lift (ok' := fun b => ∃ it ∈ [It.keep K wk, .row AW cW 44 1 nw (W.map fV), .row AB cB 44 1 nb (Bl.map fV), .row AZ cZ 98 1 nz ((prs Z).map cV), .row AY cY 98 1 ny ((prs Y).map cV)], it.fp b) fun h => (hS.keepRd (i := 3) rfl h).weaken (keep_mem (x := .keep K wk) (.head _))
 have hLM : LyM _ (fun b => ∃ it ∈ [It.keep K wk, .row AW cW 44 1 nw (W.map fV), .row AB cB 44 1 nb (Bl.map fV), .row AZ cZ 98 1 nz ((prs Z).map cV), .row AY cY 98 1 ny ((prs Y).map cV)], it.fp b) ⟨wth L0 (AW, nw, cW) (AB, nb, cB) (AZ, nz, cZ) (AY, ny, cY), W, Bl, prs Z, prs Y⟩ :=
  ⟨⟨hok.k, hok.out, hok.kh, hok.kw, hok.sh, hok.sw, hok.ph, hok.pw, hok.fr, hok.a⟩, rdE_of (hS.rowRd (i := 4) rfl (keep_mem (.tail _ (.head _)))) hW.1, hW.1.symm, rdE_of (hS.rowRd (i := 5) rfl (keep_mem (.tail _ (.tail _ (.head _))))) hBl.1, hBl.1.symm,
   rdE_of (hS.rowRd (i := 6) rfl (keep_mem (.tail _ (.tail _ (.tail _ (.head _)))))) (prs_len nz Z hZ.1), (prs_len nz Z hZ.1).symm, rdE_of (hS.rowRd (i := 7) rfl (keep_mem (.tail _ (.tail _ (.tail _ (.tail _ (.head _))))))) (prs_len ny Y hY.1), (prs_len ny Y hY.1).symm,
   hW.2, hBl.2, prs_mem Z hZ.2, prs_mem Y hY.2, by show W.length ≤ _; omega, by show Bl.length ≤ _; omega, by show (prs Z).length ≤ _; rw [prs_len nz Z hZ.1]; omega, by show (prs Y).length ≤ _; rw [prs_len ny Y hY.1]; omega⟩
 have hP2 := hP1.snoc (x := ⟨bare L0, W, Bl, prs Z, prs Y⟩) hLM rfl
 refine .inr ⟨_, _, _, _, AL, cL, A191, c191, _, _, hD, rfl, hP2, hoo.1, by rw [hws2]; omega, hab, hoo.2, ?_⟩
 rw [hws2, List.length_append, List.length_append, flat_snoc, flat_snoc]
 exact hS.keepFront
end Go.Proofs.YtnomlloaahoceaaGreatDoor
