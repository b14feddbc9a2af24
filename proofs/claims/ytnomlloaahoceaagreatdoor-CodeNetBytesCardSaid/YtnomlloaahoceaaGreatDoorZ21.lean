/- Contracts of functions that CodeNetBytes reaches, and words to say them. No condition. -/
import Derived.Test.YtnomlloaahoceaaGreatDoorZ20
import Derived.Test.YtnomlloaahoceaaGreatDoorZ03
import Derived.Test.YtnomlloaahoceaaGreatDoorZ13
import Derived.Test.YtnomlloaahoceaaGreatDoorZ19
/- Contracts of package code: the first example's network, written. No condition. -/
namespace Go.Proofs.YtnomlloaahoceaaGreatDoor
open Go.RowKit
set_option linter.unusedVariables false
set_option linter.unusedSimpArgs false
def hdN : List UInt8 := [65, 77, 66, 78, 1]
def exA : Nat := 4602678819172646912
def exLy : Ly := ⟨8, 0, 0, 0, 0, 0, 0, 0, 0, exA, (none, 0, 0), (none, 0, 0), (none, 0, 0), (none, 0, 0)⟩
def exL : Lx := ⟨exLy, [], [], [], []⟩
def exW : List UInt8 := [65, 77, 66, 78, 1, 1, 1, 1, 1, 8, 0, 0, 0, 0, 0, 0, 0xe0, 0x3f, 0]
def ex0 : List UInt8 := [65, 77, 66, 78, 1, 1, 1, 1, 1]
def ex1 : List UInt8 := [65, 77, 66, 78, 1, 1, 1, 1, 1, 8, 0, 0, 0, 0, 0, 0, 0xe0, 0x3f]
theorem ex0_eq : hdN ++ encs [1, 1, 1, 1] = ex0 := by
 simp [encs, uintV, encU_small, hdN, ex0]
theorem ex1_eq : ex0 ++ encs [8] ++ encf [exA] = ex1 := by
 have h1 : encs [8] = [8] := by simp [encs, uintV, encU_small]
 have h2 : encf [exA] = [0, 0, 0, 0, 0, 0, 0xe0, 0x3f] := by
  unfold encf floatV
  simp [exA, numB, leB]
 rw [h1, h2]
 rfl
theorem ex2_eq : ex1 ++ encs [0] = exW := by
 have h1 : encs [0] = [0] := by simp [encs, uintV, encU_small]
 rw [h1]
 rfl
def exB : List UInt8 := exW ++ le4 (crcV exW)
theorem exL_ok {w : World} : LyM w All exL :=
 ⟨⟨by decide, by decide, by decide, by decide, by decide, by decide, by decide, by decide, by decide, by decide⟩, RdE.nil w none, rfl, RdE.nil w none, rfl, RdE.nil w none, rfl, RdE.nil w none, rfl,
  (fun u h => by cases h), (fun u h => by cases h), (fun u h => by cases h), (fun u h => by cases h), by decide, by decide, by decide, by decide⟩
theorem exShapes : shapesV ⟨1, 1, 1⟩ [exL] = (0, 0) := by decide
theorem exCheck (AL : Option Addr) (cL : Nat) (w : World) {ok : Nat → Prop} (hrd : RdS w ok lxC 14 AL [exL]) :
 Calls Tryz.prog 38 ⟨[.agg ⟨netC ⟨1, 1, 1⟩ AL 1 cL⟩]⟩ w fun e w' => e = .returned (.tuple #[.int .i64 0, .int .i64 0]) ∧ Below w.heap.size w w' := by
 have h := check_calls ⟨1, 1, 1⟩ AL cL [exL] w ⟨by decide, by decide, by decide⟩ (ok := All) ⟨hrd.1.weaken fun _ _ => trivial, hrd.2⟩ (fun x hx => by rw [List.mem_singleton.1 hx]; exact exL_ok)
 rw [exShapes] at h
 exact h
theorem fields8_calls {B : Nat} {w0 : World} (g : Nat) (bt : TypeId) (cs : List Value) (L : List It) (w : World) (hS0 : St B w0 w (.blk g bt (.int .i64 8 :: cs) :: L)) :
 Calls Tryz.prog 40 ⟨[.pointer (some ⟨g, 0, none⟩)]⟩ w fun en w' => en = .returned (.slice none 0 0) ∧ Eqv w w' := by
 refine gc_enter (N := 58) Tryz.func40 rfl rfl rfl [(0, _)] rfl ?_
 have hS := St.start w
 have hS := hS0
 refine gc_seq fun K1 hK1 => gc_region (Zp rfl (gl_nil (hK1 _ _ (gc_seq fun K2 hK2 => gc_region (Zp rfl (gl_nil (hK2 _ _ (gc_seq fun K3 hK3 => gc_seq fun K4 hK4 => gc_region (Zp rfl (Zp rfl (Zf 0 Tryz.underlying48 rfl el3 (Zb 0 hS rfl (gl_nil (hK4 _ _ (gc_block (gc_seq fun K5 hK5 => gc_block (gc_seq fun K6 hK6 => gc_block (gc_seq fun K7 hK7 => gc_block (gc_seq fun K8 hK8 => gc_block (gc_seq fun K9 hK9 => gc_seq fun K10 hK10 => gc_seq fun K11 hK11 => gc_region (Zp rfl (Zp rfl (gl_nil (hK11 _ _ (gc_cond_f rfl (gc_skip (hK10 _ _ (gc_seq fun K12 hK12 => gc_seq fun K13 hK13 => gc_seq fun K14 hK14 => gc_region (Zp rfl (Zp rfl (gl_nil (hK14 _ _ (gc_cond_f rfl (gc_region (Zp rfl (Zp rfl (gl_nil (hK13 _ _ (gc_cond_f rfl (gc_skip (hK12 _ _ (gc_seq fun K15 hK15 => gc_seq fun K16 hK16 => gc_seq fun K17 hK17 => gc_region (Zp rfl (Zp rfl (gl_nil (hK17 _ _ (gc_cond_f rfl (gc_region (Zp rfl (Zp rfl (gl_nil (hK16 _ _ (gc_cond_f rfl (gc_skip (hK15 _ _ (gc_seq fun K18 hK18 => gc_region (Zp rfl (Zp rfl (gl_nil (hK18 _ _ (gc_cond_f rfl (gc_skip (hK9 _ _ (gc_exit ?_))))))))))))))))))))))))))))))))))))))))))))))))))))))))))))))))
 refine hK3 _ _ (gc_seq fun K19 hK19 => gc_region (Zp rfl (Zp rfl (gl_nil (hK19 _ _ (gc_ret (gk_ret1 rfl rfl ?_)))))))
 exact ⟨rfl, Eqv.refl _⟩
theorem hasA_calls (n : Int) (w : World) : Calls Tryz.prog 41 ⟨[.int .i64 n]⟩ w fun e w' => e = .returned (.bool (decide (n = 4 ∨ n = 8))) ∧ Eqv w w' := by
 refine gc_enter (N := 9) Tryz.func41 rfl rfl rfl [(0, _)] rfl ?_
 refine gc_seq fun K1 hK1 => gc_region (Zp rfl (gl_nil (hK1 _ _ (gc_seq fun K2 hK2 => gc_region (Zp rfl (Zp rfl (Zp rfl (gl_split (t := 5) rfl (fun c5 => ?_) (fun c5 => ?_)))))))))
 ·simp only [NN, reduceCtorEq] at c5
  refine Zs rfl (Zs rfl (Zp rfl (Zp rfl (gl_nil (hK2 _ _ (gc_ret (gk_ret1 rfl rfl ?_)))))))
  exact ⟨by congr 2; first | (rw [decide_eq_true (by omega)]) | (exact decide_eq_decide.2 (by omega)), Eqv.refl _⟩
 simp only [NN, reduceCtorEq] at c5
 refine Zu rfl (Zp rfl (Zu rfl (Zp rfl (Zp rfl (Zp rfl (gl_nil (hK2 _ _ (gc_ret (gk_ret1 rfl rfl ?_)))))))))
 exact ⟨by congr 2; first | (rw [decide_eq_true (by omega)]) | (exact decide_eq_decide.2 (by omega)), Eqv.refl _⟩
set_option maxHeartbeats 4000000 in
set_option maxRecDepth 100000 in
theorem encodeNet1_calls (AL : Option Addr) (cL : Nat) (w : World) {ok : Nat → Prop} (hrd : RdS w ok lxC 14 AL [exL]) :
 Calls Tryz.prog 13 ⟨[.agg ⟨netC ⟨1, 1, 1⟩ AL 1 cL⟩]⟩ w fun e w' => ∃ A c, e = .returned (.tuple #[.slice A 23 c, .int .i64 0, .int .i64 0]) ∧ St w.heap.size w w' [.row A c 5 1 23 (exB.map uB)] := by
 refine gc_enter (N := 136) Tryz.func13 rfl rfl rfl [(0, _)] rfl ?_
 have hS := St.start w
 refine gc_seq fun K1 hK1 => gc_region (gl_box hS rfl rfl rfl rfl rfl fun g1 w1 hS => ?_)
 refine Zp rfl (Zp rfl (Zp rfl (gl_nil (hK1 _ _ (gc_seq fun K2 hK2 => gc_seq fun K3 hK3 => gc_region (Zg 0 Tryz.underlying31 el31 hS rfl (gl_callf rfl rfl rfl rfl Tryz.func38 rfl rfl rfl (exCheck AL cL _ (hrd.old (by decide) hS)) ?_)))))))
 rintro _ w18 ⟨rfl, hb18⟩
 refine ⟨_, rfl, ?_⟩
 have hS := hS.grown hb18
 refine Zp rfl (Zp rfl (Zp rfl (Zp rfl (Zp rfl (gl_nil (hK3 _ _ (gc_seq fun K4 hK4 => gc_region (Zp rfl (Zp rfl (gl_nil (hK4 _ _ (gc_cond rfl rfl (fun c22 => ?_) (fun c22 => ?_)))))))))))))
 ·simp only [NN, reduceCtorEq] at c22
  exact absurd c22 (by decide)
 simp only [NN, reduceCtorEq] at c22
 refine gc_skip (hK2 _ _ (gc_cut (fun a w' => ∃ gc A c X, Fr 136 a [(1, .pointer (some ⟨g1, 0, none⟩)), (7, .pointer (some ⟨gc, 0, none⟩))] ∧ ObjRow X 5 A c hdN.length (hdN.map uB) ∧ St w.heap.size w w' [.blk gc 61 (cuC A (hdN).length c 0 []), X, .blk g1 31 (netC ⟨1, 1, 1⟩ AL 1 cL)]) ?_ ?_))
 ·refine gc_region (gl_lit hT hS el5 rfl rfl rfl rfl rfl rfl rfl rfl rfl fun g25 w25 hS => ?_)
  refine gl_mark 1 hT hS rfl rfl rfl rfl rfl rfl rfl rfl fun w26 cur26 fz26 hcur26 hS => ?_
  refine gl_op rfl rfl rfl (op_buildG rfl plan61 rfl rfl) ?_
  refine gl_box hS rfl rfl rfl rfl rfl fun g28 w28 hS => ?_
  refine Zp rfl (gl_nil ?_)
  intro a ha
  exact ⟨g28, _, _, _, ha.sub ⟨rfl, rfl, trivial⟩, ⟨_, _, _, rfl, rfl, rfl, rfl, hcur26⟩, hS.permute (p_cba _ _ _)⟩
 rintro a w1 ⟨gc, A, c, X, hF, hX, hS⟩
 refine gc_of hF ?_
 clear hF
 refine gc_seq fun K5 hK5 => gc_region (Zp rfl (Zf 0 Tryz.underlying31 rfl el27 (Zf 0 Tryz.underlying27 rfl el3 (Zb 2 hS rfl (Zf 0 Tryz.underlying31 rfl el27 (Zf 1 Tryz.underlying27 rfl el3 (Zb 2 hS rfl (Zf 0 Tryz.underlying31 rfl el27 (Zf 2 Tryz.underlying27 rfl el3 (Zb 2 hS rfl (Zf 3 Tryz.underlying31 rfl el28 (Zb 2 hS rfl (Zp rfl (gl_lit hT hS el3 rfl rfl rfl rfl rfl rfl rfl rfl rfl fun g42 w42 hS => ?_))))))))))))))
 refine gl_callf rfl rfl rfl rfl Tryz.func39 rfl rfl rfl (putUint_calls gc _ A c (hdN) 0 [] _ _ _ 4 ([1, 1, 1, 1]) _ hS (.inr ⟨hX, _, _, rfl, by decide⟩) (fun hS => hS.rdE (i := 3) rfl) rfl (by decide) (by decide)) ?_
 rintro _ w43 ⟨rfl, A, c, hS⟩
 refine ⟨_, rfl, ?_⟩
 have hS := hS.erase 3
 rw [ex0_eq] at hS
 refine gl_nil (hK5 _ _ (gc_seq fun K6 hK6 => gc_seq fun K7 hK7 => gc_region (Zf 3 Tryz.underlying31 rfl el28 (Zb 2 hS rfl (Zp rfl (Zp rfl (gl_nil (hK7 _ _ (gc_block ?_)))))))))
 refine gc_loop (fun kk a' w' => ∃ (i : Nat) (m : List UInt8) (A : Option Addr) (c : Nat), Fr 136 a' [(1, .pointer (some ⟨g1, 0, none⟩)), (7, .pointer (some ⟨gc, 0, none⟩)), (46, .int .i64 1), (47, .int .i64 (i : Nat))] ∧ i ≤ 1 ∧ kk = 2 - i ∧ m = (if i = 0 then ex0 else ex1) ∧
  St w.heap.size w w' [.blk gc 61 (cuC A (m).length c 0 []), .row A c 5 1 (m).length ((m).map uB), .blk g1 31 (netC ⟨1, 1, 1⟩ AL 1 cL)]) 2 ?_ ?_ ?_
 ·intro a' ha; exact ⟨0, ex0, A, c, ha.sub ⟨rfl, rfl, rfl, rfl, trivial⟩, by omega, by omega, rfl, hS⟩
 ·rintro a' w' ⟨i, _, _, _, _, h1, h2, _⟩; omega
 clear hS
 rintro kk a' w1 ⟨i, m, A, c, hF, hi, hk, hm, hS⟩
 refine gc_of hF ?_
 clear hF
 refine gc_seq fun K8 hK8 => gc_region (Zp rfl (gl_nil (hK8 _ _ (gc_seq fun K9 hK9 => gc_cond rfl rfl (fun c48 => ?_) (fun c48 => ?_)))))
 ·simp only [NN, reduceCtorEq] at c48
  have hi0 : i = 0 := by omega
  subst hi0
  rw [if_pos rfl] at hm
  subst hm
  refine gc_skip (hK9 _ _ (gc_seq fun K10 hK10 => gc_block (gc_seq fun K11 hK11 => gc_region (Zp rfl (Zp rfl (gl_nil (hK11 _ _ (gc_seq fun K12 hK12 => gc_region (Zf 3 Tryz.underlying31 rfl el28 (Zb 2 hS rfl (Zp rfl ?_)))))))))))
  obtain ⟨ad, hA, hcx⟩ := (hrd.old (by decide) hS).at (i := 0) rfl
  refine gl_op rfl rfl rfl (op_indexAddr hT rfl rfl el48.cellsOf.1 el48.cellsOf.2 rfl rfl (by decide) (by decide) hA) ?_
  refine gl_op rfl rfl rfl (op_loadS Tryz.underlying48 rfl el48 rfl rfl hcx rfl) ?_
  refine gl_alloc el48 hS rfl rfl rfl rfl fun g9 w9 hS => ?_
  refine gl_storeM 3 hS el48 rfl rfl rfl rfl rfl rfl rfl rfl rfl fun w_144 hS => ?_
  refine gl_nil (hK12 _ _ (gc_seq fun K13 hK13 => gc_region (Zp rfl (Zf 0 Tryz.underlying48 rfl el3 (Zb 3 hS rfl (gl_lit hT hS el3 rfl rfl rfl rfl rfl rfl rfl rfl rfl fun g58 w58 hS => ?_))))))
  refine gl_callf rfl rfl rfl rfl Tryz.func39 rfl rfl rfl (putUint_calls gc _ A c (ex0) 0 [] _ _ _ 1 ([8]) _ hS (.inl rfl) (fun hS => hS.rdE (i := 4) rfl) rfl (by decide) (by decide)) ?_
  rintro _ w59 ⟨rfl, A, c, hS⟩
  refine ⟨_, rfl, ?_⟩
  have hS := hS.erase 4
  refine gl_nil (hK13 _ _ (gc_seq fun K14 hK14 => gc_seq fun K15 hK15 => gc_region (gl_callf rfl rfl rfl rfl Tryz.func40 rfl rfl rfl (fields8_calls g9 _ _ _ _ (hS.permute (List.perm_append_comm (l₁ := [_, _, _]) (l₂ := [_])))) ?_)))
  rintro _ w60 ⟨rfl, hb60⟩
  refine ⟨_, rfl, ?_⟩
  have hS := hS.eqv hb60
  refine Zp rfl (Zp rfl (gl_nil (hK15 _ _ (gc_block ?_))))
  have hS : St w.heap.size w _ [.blk gc 61 (cuC A (ex0 ++ encs [8]).length c 0 []), .row A c 5 1 (ex0 ++ encs [8]).length ((ex0 ++ encs [8]).map uB), .blk g1 31 (netC ⟨1, 1, 1⟩ AL 1 cL), .blk g9 48 (lyC exLy)] := hS
  refine gc_loop (fun kk a' w' => kk = 1 ∧ Fr 136 a' [(1, .pointer (some ⟨g1, 0, none⟩)), (7, .pointer (some ⟨gc, 0, none⟩)), (9, .pointer (some ⟨g9, 0, none⟩)), (46, .int .i64 1), (47, .int .i64 0), (61, .int .i64 0), (62, .int .i64 0)] ∧ St w.heap.size w w' [.blk gc 61 (cuC A (ex0 ++ encs [8]).length c 0 []), .row A c 5 1 (ex0 ++ encs [8]).length ((ex0 ++ encs [8]).map uB), .blk g1 31 (netC ⟨1, 1, 1⟩ AL 1 cL), .blk g9 48 (lyC exLy)]) 1 ?_ ?_ ?_
  ·intro a' ha; exact ⟨rfl, ha.sub ⟨rfl, rfl, rfl, rfl, rfl, rfl, rfl, trivial⟩, hS⟩
  ·rintro a' w' ⟨h, _⟩; omega
  clear hS
  rintro kk a' w1 ⟨hk, hF, hS⟩
  refine gc_of hF ?_
  clear hF
  refine gc_seq fun K16 hK16 => gc_region (Zp rfl (gl_nil (hK16 _ _ (gc_seq fun K17 hK17 => gc_cond_f rfl (gc_exit ?_)))))
  refine hK14 _ _ (gc_seq fun K18 hK18 => gc_seq fun K19 hK19 => gc_region (Zf 0 Tryz.underlying48 rfl el3 (Zb 3 hS rfl (gl_callf rfl rfl rfl rfl Tryz.func41 rfl rfl rfl (hasA_calls 8 _) ?_))))
  rintro _ _ ⟨rfl, n75, rfl⟩
  refine ⟨_, rfl, ?_⟩
  have hS := hS.dr n75
  refine gl_nil (hK19 _ _ (gc_cond_t rfl (gc_region (Zp rfl (Zf 9 Tryz.underlying48 rfl el44 (Zb 3 hS rfl (gl_lit hT hS el44 rfl rfl rfl rfl rfl rfl rfl rfl rfl fun g79 w79 hS => ?_)))))))
  refine gl_callf rfl rfl rfl rfl Tryz.func42 rfl rfl rfl (putFloats_calls gc _ A c (ex0 ++ encs [8]) 0 [] _ _ _ 1 ([exA]) _ hS (fun hS => hS.rdE (i := 4) rfl) rfl (by simp [encs, uintV, encU_small, ex0]) (by decide)) ?_
  rintro _ w80 ⟨rfl, A, c, hS⟩
  refine ⟨_, rfl, ?_⟩
  have hS := hS.erase 4
  rw [ex1_eq] at hS
  refine gl_nil (hK18 _ _ (gc_seq fun K20 hK20 => gc_region (Zp rfl (Zf 10 Tryz.underlying48 rfl el45 (Zb 3 hS rfl (gl_callf rfl rfl rfl rfl Tryz.func42 rfl rfl rfl (putFloats_calls gc _ A c (ex1) 0 [] _ _ _ 0 ([]) _ hS (fun hS => RdE.nil (ok := All) _ _) rfl (by decide) (by simp)) ?_))))))
  rintro _ w84 ⟨rfl, A, c, hS⟩
  refine ⟨_, rfl, ?_⟩
  rw [show ex1 ++ encf [] = ex1 from List.append_nil _] at hS
  refine gl_nil (hK20 _ _ (gc_seq fun K21 hK21 => gc_region (Zp rfl (Zf 11 Tryz.underlying48 rfl el45 (Zb 3 hS rfl (gl_callf rfl rfl rfl rfl Tryz.func42 rfl rfl rfl (putFloats_calls gc _ A c (ex1) 0 [] _ _ _ 0 ([]) _ hS (fun hS => RdE.nil (ok := All) _ _) rfl (by decide) (by simp)) ?_))))))
  rintro _ w88 ⟨rfl, A, c, hS⟩
  refine ⟨_, rfl, ?_⟩
  rw [show ex1 ++ encf [] = ex1 from List.append_nil _] at hS
  refine gl_nil (hK21 _ _ (gc_seq fun K22 hK22 => gc_anyS hS (by kernel_rfl) rfl fun nq20 hK => ?_))
  have hS := hS.dr nq20
  refine Yf 0 12 Tryz.underlying48 rfl el46 (by kernel_rfl) (fun _ _ _ _ h => h) hK ?_
  refine Yb 1 3 rfl (by kernel_rfl) (fun _ _ _ _ h => h) hK ?_
  refine Yf 3 13 Tryz.underlying48 rfl el46 (by kernel_rfl) (fun _ _ _ _ h => h) hK ?_
  refine Yb 4 3 rfl (by kernel_rfl) (fun _ _ _ _ h => h) hK ?_
  refine Yp 7 rfl (by kernel_rfl) (fun _ _ _ _ h => h) hK ?_
  refine ga_one 2 (by kernel_rfl) rfl ?_
  refine gl_append0 hT hS el98 (rd_of (RdE.nil (enc := cV) (ok := All) _ none) rfl) rfl rfl rfl rfl rfl rfl rfl rfl (by decide) (by decide) fun A91 c91 w91 hS => ?_
  refine gl_nil (ga_next (hS.pre 4) fun hK => ?_)
  refine ga_one 5 (by kernel_rfl) rfl ?_
  refine gl_append 4 hT hS el98 (rd_of (RdE.nil (enc := cV) (ok := All) _ none) rfl) rfl rfl rfl rfl rfl rfl rfl rfl rfl (by decide) (by decide) fun A94 c94 w94 hS => ?_
  refine gl_nil (ga_next (hS.pre 4) fun hK => ?_)
  refine Yp 6 rfl (by kernel_rfl) (fun _ _ _ _ h => h) hK ?_
  refine ga_done (by kernel_rfl) ?_
  refine hK22 _ _ (gc_block ?_)
  have hS : St w.heap.size w _ [.blk gc 61 (cuC A (ex1).length c 0 []), .row A c 5 1 (ex1).length ((ex1).map uB), .blk g1 31 (netC ⟨1, 1, 1⟩ AL 1 cL)] := (hS.erase 3).erase 3
  refine gc_loop (fun kk a' w' => kk = 1 ∧ Fr 136 a' [(1, .pointer (some ⟨g1, 0, none⟩)), (7, .pointer (some ⟨gc, 0, none⟩)), (46, .int .i64 1), (47, .int .i64 0), (95, .int .i64 0), (96, .int .i64 0)] ∧ St w.heap.size w w' [.blk gc 61 (cuC A (ex1).length c 0 []), .row A c 5 1 (ex1).length ((ex1).map uB), .blk g1 31 (netC ⟨1, 1, 1⟩ AL 1 cL)]) 1 ?_ ?_ ?_
  ·intro a' ha; exact ⟨rfl, ha.sub ⟨rfl, rfl, rfl, rfl, rfl, rfl, trivial⟩, hS⟩
  ·rintro a' w' ⟨h, _⟩; omega
  clear hS
  rintro kk a' w1 ⟨hk, hF, hS⟩
  refine gc_of hF ?_
  clear hF
  refine gc_seq fun K23 hK23 => gc_region (Zp rfl (gl_nil (hK23 _ _ (gc_seq fun K24 hK24 => gc_cond_f rfl (gc_exit ?_)))))
  refine hK10 _ _ (gc_region (Zi rfl (by omega) ?_))
  refine Zp rfl (gl_nil ?_)
  intro a' ha
  exact ⟨1, ex1, A, c, ha.sub ⟨rfl, rfl, rfl, rfl, trivial⟩, by omega, by omega, rfl, hS⟩
 simp only [NN, reduceCtorEq] at c48
 have hi1 : ¬ i = 0 := by omega
 rw [if_neg hi1] at hm
 subst hm
 refine gc_exit ?_
 refine hK6 _ _ (gc_seq fun K25 hK25 => gc_region (Zp rfl (Zf 4 Tryz.underlying31 rfl el29 (Zb 2 hS rfl (Zp rfl (gl_lit hT hS el3 rfl rfl rfl rfl rfl rfl rfl rfl rfl fun g113 w113 hS => ?_))))))
 refine gl_callf rfl rfl rfl rfl Tryz.func39 rfl rfl rfl (putUint_calls gc _ A c (ex1) 0 [] _ _ _ 1 ([0]) _ hS (.inl rfl) (fun hS => hS.rdE (i := 3) rfl) rfl (by decide) (by decide)) ?_
 rintro _ w114 ⟨rfl, A, c, hS⟩
 refine ⟨_, rfl, ?_⟩
 have hS := hS.erase 3
 rw [ex2_eq] at hS
 refine gl_nil (hK25 _ _ (gc_seq fun K26 hK26 => gc_seq fun K27 hK27 => gc_region (Zf 4 Tryz.underlying31 rfl el29 (Zb 2 hS rfl (Zp rfl (Zp rfl (gl_nil (hK27 _ _ (gc_block (gc_loop (fun kk a' w' => kk = 1 ∧ Fr 136 a' [(1, .pointer (some ⟨g1, 0, none⟩)), (7, .pointer (some ⟨gc, 0, none⟩)), (117, .int .i64 0), (118, .int .i64 0)] ∧ St w.heap.size w w' [.blk gc 61 (cuC A (exW).length c 0 []), .row A c 5 1 (exW).length ((exW).map uB), .blk g1 31 (netC ⟨1, 1, 1⟩ AL 1 cL)]) 1 ?_ ?_ ?_))))))))))
 ·intro a' ha; exact ⟨rfl, ha.sub ⟨rfl, rfl, rfl, rfl, trivial⟩, hS⟩
 ·rintro a' w' ⟨h, _⟩; omega
 clear hS
 rintro kk a' w1 ⟨hk, hF, hS⟩
 refine gc_of hF ?_
 clear hF
 have hlx : exW.length = 19 := rfl
 refine gc_seq fun K28 hK28 => gc_region (Zp rfl (gl_nil (hK28 _ _ (gc_seq fun K29 hK29 => gc_cond_f rfl (gc_exit ?_)))))
 refine hK26 _ _ (gc_seq fun K30 hK30 => gc_anyS (hS.blank 1) (by kernel_rfl) rfl fun nq32 hK => ?_)
 have hS := hS.dr nq32
 refine Yp 0 rfl (by kernel_rfl) (fun _ _ _ _ h => h) hK ?_
 refine Yp 1 rfl (by kernel_rfl) (fun _ _ _ _ h => h) hK ?_
 refine Yf 2 0 Tryz.underlying61 rfl el22 (by kernel_rfl) (fun _ _ _ _ h => h) hK ?_
 refine Yb 3 0 rfl (by kernel_rfl) (fun _ _ _ _ h => h) hK ?_
 refine Yp 4 rfl (by kernel_rfl) (fun _ _ _ _ h => h) hK ?_
 refine Yp 5 rfl (by kernel_rfl) (fun _ _ _ _ h => h) hK ?_
 refine Yf 6 0 Tryz.underlying61 rfl el22 (by kernel_rfl) (fun _ _ _ _ h => h) hK ?_
 refine Yb 7 0 rfl (by kernel_rfl) (fun _ _ _ _ h => h) hK ?_
 refine ga_one 8 (by kernel_rfl) rfl ?_
 refine gl_callf rfl rfl rfl rfl Tryz.func44 rfl rfl rfl (sealed_calls A _ c exW _ (hS.rdE (i := 1) rfl) rfl (by decide)) ?_
 rintro _ w134 ⟨A134, c134, rfl, hr134, hb134⟩
 refine ⟨_, rfl, ?_⟩
 have hS := hS.addRow hb134 hr134
 refine gl_nil (ga_next ((hS.blank 1).pre 3) fun hK => ?_)
 refine ga_one 9 (by kernel_rfl) rfl ?_
 refine gl_append 1 hT hS el5 (hS.rd (i := 3) rfl) (allOne_map (fun _ => rfl) _) rfl rfl rfl rfl rfl rfl rfl rfl (by first | omega | (simp; omega)) (by first | omega | (simp; omega)) fun A135 c135 w135 hS => ?_
 refine gl_nil (ga_next ((hS.blank 1).pre 3) fun hK => ?_)
 refine Yp 10 rfl (by kernel_rfl) (fun _ _ _ _ h => h) hK ?_
 refine Yp 11 rfl (by kernel_rfl) (fun _ _ _ _ h => h) hK ?_
 refine Yp 12 rfl (by kernel_rfl) (fun _ _ _ _ h => h) hK ?_
 refine ga_done (by kernel_rfl) ?_
 refine hK30 _ _ (gc_ret (gk_ret3 rfl rfl rfl rfl ?_))
 refine ⟨A135, c135, rfl, ?_⟩
 have hS := ((hS.erase 0).erase 1).erase 1
 rw [show exB = exW ++ le4 (crcV exW) from rfl, List.map_append]
 exact hS
end Go.Proofs.YtnomlloaahoceaaGreatDoor

/- Contracts of package code: a layer's fields, complex numbers read. No condition. -/
namespace Go.Proofs.YtnomlloaahoceaaGreatDoor
open Go.RowKit
set_option linter.unusedVariables false
set_option linter.unusedSimpArgs false
@[reducible] def pfV (g j : Nat) : Value := .pointer (some ⟨g, j + 1, none⟩)
theorem pf_one (g : Nat) (l : List Nat) : allOne (l.map (pfV g)) = true := allOne_map (fun _ => rfl) _
theorem codeFields_calls (g : Nat) (k : Int) (w : World) (hk : w.cell? ⟨g, 0, none⟩ = some (.int .i64 k)) :
 Calls Tryz.prog 40 ⟨[.pointer (some ⟨g, 0, none⟩)]⟩ w fun e w' => ∃ A c, e = .returned (.slice A (fidx k).length c) ∧ St w.heap.size w w' [.row A c 95 1 (fidx k).length ((fidx k).map (pfV g))] := by
 refine gc_enter (N := 58) Tryz.func40 rfl rfl rfl [(0, _)] rfl ?_
 have hS := St.start w
 refine gc_seq fun K1 hK1 => gc_region (Zp rfl (gl_nil (hK1 _ _ (gc_seq fun K2 hK2 => gc_region (Zp rfl (gl_nil (hK2 _ _ (gc_cut (fun a' w' => ∃ (A : Option Addr) (c : Nat), Fr 58 a' [(3, .slice A (fidx k).length c)] ∧ St w.heap.size w w' [.row A c 95 1 (fidx k).length ((fidx k).map (pfV g))]) ?_ ?_))))))))
 ·refine gc_seq fun K3 hK3 => gc_region (Zp rfl (Zp rfl (Zf 0 Tryz.underlying48 rfl el3 (gl_op rfl rfl rfl (op_load hT rfl rfl rfl rfl (cellOf hS.below hk)) ?_))))
  refine gl_nil (hK3 _ _ (gc_block (gc_seq fun K4 hK4 => gc_block (gc_seq fun K5 hK5 => gc_block (gc_cut (fun a' w' => ∃ (A : Option Addr) (c : Nat) (J : List Nat), Fr 58 a' [(0, .pointer (some ⟨g, 0, none⟩)), (3, .slice A J.length c)] ∧ fidx k = J ++ [1, 2, 3, 4, 5, 6] ∧ J.length ≤ 1 ∧ St w.heap.size w w' [.row A c 95 1 J.length (J.map (pfV g))]) ?_ ?_)))))
  ·refine gc_block (gc_seq fun K6 hK6 => gc_block (gc_seq fun K7 hK7 => gc_seq fun K8 hK8 => gc_seq fun K9 hK9 => gc_region (Zp rfl (Zp rfl (gl_nil (hK9 _ _ (gc_cond rfl rfl (fun c8 => ?_) (fun c8 => ?_))))))))
   ·simp only [NN, reduceCtorEq] at c8
    refine gc_exit ?_
    refine hK6 _ _ (gc_region (Zp rfl (Zp rfl (Zp rfl (Zf 1 Tryz.underlying48 rfl el3 (gl_lit hT hS el95 rfl rfl rfl rfl rfl rfl rfl rfl rfl fun g22 w22 hS => ?_))))))
    refine gl_append0 hT hS el95 (hS.rd (i := 0) rfl) (rfl) rfl rfl rfl rfl rfl rfl rfl (by first | omega | (simp; omega)) (by first | omega | (simp; omega)) fun A23 c23 w23 hS => ?_
    refine Zp rfl (gl_nil ?_)
    intro a' ha
    change ∃ (A : Option Addr) (c : Nat) (J : List Nat), Fr 58 a' [(0, .pointer (some ⟨g, 0, none⟩)), (3, .slice A J.length c)] ∧ fidx k = J ++ [1, 2, 3, 4, 5, 6] ∧ J.length ≤ 1 ∧ St w.heap.size w _ [.row A c 95 1 J.length (J.map (pfV g))]
    exact ⟨A23, c23, [0], ha.sub ⟨rfl, rfl, trivial⟩, by unfold fidx; rw [if_pos (by omega)]; rfl, by decide, hS.erase 0⟩
   simp only [NN, reduceCtorEq] at c8
   refine gc_skip (hK8 _ _ (gc_seq fun K10 hK10 => gc_seq fun K11 hK11 => gc_seq fun K12 hK12 => gc_region (Zp rfl (Zp rfl (gl_nil (hK12 _ _ (gc_cond rfl rfl (fun c10 => ?_) (fun c10 => ?_))))))))
   ·simp only [NN, reduceCtorEq] at c10
    refine gc_skip (hK11 _ _ (gc_cond_t rfl (gc_exit ?_)))
    intro a' ha
    change ∃ (A : Option Addr) (c : Nat) (J : List Nat), Fr 58 a' [(0, .pointer (some ⟨g, 0, none⟩)), (3, .slice A J.length c)] ∧ fidx k = J ++ [1, 2, 3, 4, 5, 6] ∧ J.length ≤ 1 ∧ St w.heap.size w _ [.row A c 95 1 J.length (J.map (pfV g))]
    exact ⟨none, 0, [], ha.sub ⟨rfl, rfl, trivial⟩, by unfold fidx; rw [if_neg (by omega), if_pos (by omega)]; rfl, by decide, hS.nil 95 1⟩
   simp only [NN, reduceCtorEq] at c10
   refine gc_region (Zp rfl (Zp rfl (gl_nil (hK11 _ _ (gc_cond rfl rfl (fun c10 => ?_) (fun c10 => ?_))))))
   ·simp only [NN, reduceCtorEq] at c10
    refine gc_exit ?_
    intro a' ha
    change ∃ (A : Option Addr) (c : Nat) (J : List Nat), Fr 58 a' [(0, .pointer (some ⟨g, 0, none⟩)), (3, .slice A J.length c)] ∧ fidx k = J ++ [1, 2, 3, 4, 5, 6] ∧ J.length ≤ 1 ∧ St w.heap.size w _ [.row A c 95 1 J.length (J.map (pfV g))]
    exact ⟨none, 0, [], ha.sub ⟨rfl, rfl, trivial⟩, by unfold fidx; rw [if_neg (by omega), if_pos (by omega)]; rfl, by decide, hS.nil 95 1⟩
   simp only [NN, reduceCtorEq] at c10
   refine gc_skip (hK10 _ _ (gc_seq fun K13 hK13 => gc_seq fun K14 hK14 => gc_seq fun K15 hK15 => gc_region (Zp rfl (Zp rfl (gl_nil (hK15 _ _ (gc_cond rfl rfl (fun c13 => ?_) (fun c13 => ?_))))))))
   ·simp only [NN, reduceCtorEq] at c13
    refine gc_skip (hK14 _ _ (gc_cond_t rfl (gc_exit ?_)))
    refine hK5 _ _ (gc_seq fun K16 hK16 => gc_region (Zp rfl (Zp rfl (Zp rfl (Zf 1 Tryz.underlying48 rfl el3 (gl_lit hT hS el95 rfl rfl rfl rfl rfl rfl rfl rfl rfl fun g49 w49 hS => ?_))))))
    refine gl_append0 hT hS el95 (hS.rd (i := 0) rfl) (rfl) rfl rfl rfl rfl rfl rfl rfl (by first | omega | (simp; omega)) (by first | omega | (simp; omega)) fun A50 c50 w50 hS => ?_
    refine Zp rfl (gl_nil (hK16 _ _ (gc_exit ?_)))
    intro a' ha
    change ∃ (A : Option Addr) (c : Nat), Fr 58 a' [(3, .slice A (fidx k).length c)] ∧ St w.heap.size w _ [.row A c 95 1 (fidx k).length ((fidx k).map (pfV g))]
    rw [show fidx k = [0] by unfold fidx; rw [if_neg (by omega), if_neg (by omega), if_pos (by omega)]]; exact ⟨A50, c50, ha.sub ⟨rfl, trivial⟩, hS.erase 0⟩
   simp only [NN, reduceCtorEq] at c13
   refine gc_region (Zp rfl (Zp rfl (gl_nil (hK14 _ _ (gc_cond rfl rfl (fun c13 => ?_) (fun c13 => ?_))))))
   ·simp only [NN, reduceCtorEq] at c13
    refine gc_exit ?_
    refine hK5 _ _ (gc_seq fun K17 hK17 => gc_region (Zp rfl (Zp rfl (Zp rfl (Zf 1 Tryz.underlying48 rfl el3 (gl_lit hT hS el95 rfl rfl rfl rfl rfl rfl rfl rfl rfl fun g49 w49 hS => ?_))))))
    refine gl_append0 hT hS el95 (hS.rd (i := 0) rfl) (rfl) rfl rfl rfl rfl rfl rfl rfl (by first | omega | (simp; omega)) (by first | omega | (simp; omega)) fun A50 c50 w50 hS => ?_
    refine Zp rfl (gl_nil (hK17 _ _ (gc_exit ?_)))
    intro a' ha
    change ∃ (A : Option Addr) (c : Nat), Fr 58 a' [(3, .slice A (fidx k).length c)] ∧ St w.heap.size w _ [.row A c 95 1 (fidx k).length ((fidx k).map (pfV g))]
    rw [show fidx k = [0] by unfold fidx; rw [if_neg (by omega), if_neg (by omega), if_pos (by omega)]]; exact ⟨A50, c50, ha.sub ⟨rfl, trivial⟩, hS.erase 0⟩
   simp only [NN, reduceCtorEq] at c13
   refine gc_skip (hK13 _ _ (gc_seq fun K18 hK18 => gc_region (Zp rfl (Zp rfl (gl_nil (hK18 _ _ (gc_cond rfl rfl (fun c16 => ?_) (fun c16 => ?_))))))))
   ·simp only [NN, reduceCtorEq] at c16
    refine gc_exit ?_
    refine hK4 _ _ (gc_seq fun K19 hK19 => gc_region (Zp rfl (Zp rfl (Zp rfl (Zf 8 Tryz.underlying48 rfl el3 (gl_lit hT hS el95 rfl rfl rfl rfl rfl rfl rfl rfl rfl fun g55 w55 hS => ?_))))))
    refine gl_append0 hT hS el95 (hS.rd (i := 0) rfl) (rfl) rfl rfl rfl rfl rfl rfl rfl (by first | omega | (simp; omega)) (by first | omega | (simp; omega)) fun A56 c56 w56 hS => ?_
    refine Zp rfl (gl_nil (hK19 _ _ (gc_exit ?_)))
    intro a' ha
    change ∃ (A : Option Addr) (c : Nat), Fr 58 a' [(3, .slice A (fidx k).length c)] ∧ St w.heap.size w _ [.row A c 95 1 (fidx k).length ((fidx k).map (pfV g))]
    rw [show fidx k = [7] by unfold fidx; rw [if_neg (by omega), if_neg (by omega), if_neg (by omega), if_pos (by omega)]]; exact ⟨A56, c56, ha.sub ⟨rfl, trivial⟩, hS.erase 0⟩
   simp only [NN, reduceCtorEq] at c16
   refine gc_skip (hK7 _ _ (gc_exit ?_))
   intro a' ha
   change ∃ (A : Option Addr) (c : Nat), Fr 58 a' [(3, .slice A (fidx k).length c)] ∧ St w.heap.size w _ [.row A c 95 1 (fidx k).length ((fidx k).map (pfV g))]
   rw [show fidx k = [] by unfold fidx; rw [if_neg (by omega), if_neg (by omega), if_neg (by omega), if_neg (by omega)]]; exact ⟨none, 0, ha.sub ⟨rfl, trivial⟩, hS.nil 95 1⟩
  rintro a' w1 ⟨A, c, J, hF, hJ, hJl, hS⟩
  refine gc_of hF ?_
  clear hF
  refine gc_seq fun K20 hK20 => gc_anyS (hS.blank 0) (by kernel_rfl) rfl fun nq10 hK => ?_
  have hS := hS.dr nq10
  refine Yp 0 rfl (by kernel_rfl) (fun _ _ _ _ h => h) hK ?_
  refine Yp 1 rfl (by kernel_rfl) (fun _ _ _ _ h => h) hK ?_
  refine Yp 2 rfl (by kernel_rfl) (fun _ _ _ _ h => h) hK ?_
  refine Yf 3 2 Tryz.underlying48 rfl el3 (by kernel_rfl) (fun _ _ _ _ h => h) hK ?_
  refine Yp 4 rfl (by kernel_rfl) (fun _ _ _ _ h => h) hK ?_
  refine Yp 5 rfl (by kernel_rfl) (fun _ _ _ _ h => h) hK ?_
  refine Yf 6 3 Tryz.underlying48 rfl el3 (by kernel_rfl) (fun _ _ _ _ h => h) hK ?_
  refine Yp 7 rfl (by kernel_rfl) (fun _ _ _ _ h => h) hK ?_
  refine Yp 8 rfl (by kernel_rfl) (fun _ _ _ _ h => h) hK ?_
  refine Yf 9 4 Tryz.underlying48 rfl el3 (by kernel_rfl) (fun _ _ _ _ h => h) hK ?_
  refine Yp 10 rfl (by kernel_rfl) (fun _ _ _ _ h => h) hK ?_
  refine Yp 11 rfl (by kernel_rfl) (fun _ _ _ _ h => h) hK ?_
  refine Yf 12 5 Tryz.underlying48 rfl el3 (by kernel_rfl) (fun _ _ _ _ h => h) hK ?_
  refine Yp 13 rfl (by kernel_rfl) (fun _ _ _ _ h => h) hK ?_
  refine Yp 14 rfl (by kernel_rfl) (fun _ _ _ _ h => h) hK ?_
  refine Yf 15 6 Tryz.underlying48 rfl el3 (by kernel_rfl) (fun _ _ _ _ h => h) hK ?_
  refine Yp 16 rfl (by kernel_rfl) (fun _ _ _ _ h => h) hK ?_
  refine Yp 17 rfl (by kernel_rfl) (fun _ _ _ _ h => h) hK ?_
  refine Yf 18 7 Tryz.underlying48 rfl el3 (by kernel_rfl) (fun _ _ _ _ h => h) hK ?_
  refine ga_one 19 (by kernel_rfl) rfl ?_
  refine gl_lit hT hS el95 rfl rfl rfl rfl rfl rfl rfl rfl rfl fun g43 w43 hS => ?_
  refine gl_nil (ga_next ((hS.blank 0).pre 1) fun hK => ?_)
  refine ga_one 20 (by kernel_rfl) rfl ?_
  refine gl_append 0 hT hS el95 (hS.rd (i := 1) rfl) (pf_one g [1, 2, 3, 4, 5, 6]) rfl rfl rfl rfl rfl rfl rfl rfl (by first | omega | (simp; omega)) (by first | omega | (simp; omega)) fun A44 c44 w44 hS => ?_
  have hS := hS.erase 1
  refine gl_nil (ga_next ((hS.blank 0).pre 1) fun hK => ?_)
  refine Yp 21 rfl (by kernel_rfl) (fun _ _ _ _ h => h) hK ?_
  refine ga_done (by kernel_rfl) ?_
  refine hK20 _ _ (gc_exit ?_)
  intro a' ha
  change ∃ (A : Option Addr) (c : Nat), Fr 58 a' [(3, .slice A (fidx k).length c)] ∧ St w.heap.size w _ [.row A c 95 1 (fidx k).length ((fidx k).map (pfV g))]
  exact ⟨A44, c44, ha.sub ⟨by rw [hJ, List.length_append]; rfl, trivial⟩, by rw [hJ, List.length_append, List.map_append]; exact hS⟩
 rintro a' w1 ⟨A, c, hF, hS⟩
 refine gc_of hF ?_
 clear hF
 refine gc_seq fun K21 hK21 => gc_region (Zp rfl (Zp rfl (gl_nil (hK21 _ _ (gc_ret (gk_ret1 rfl rfl ?_))))))
 exact ⟨A, c, rfl, hS⟩
theorem rFs_two {l : List UInt8} {at_ a : Int} {us : List Nat} {i : Nat} (h : rFs l (2 * i) at_ = .ok (us, a)) : rFs l (2 * (i + 1)) at_ = match rF l a with | .error x => .error x | .ok (u, b) => match rF l b with | .error x => .error x | .ok (v, d) => .ok (us ++ [u, v], d) := by
 rw [show 2 * (i + 1) = 2 * i + 2 by omega, rFs_snoc h 2]
 unfold rFs
 cases rF l a with
 | error x => rfl
 | ok p =>
  obtain ⟨u, b⟩ := p
  simp only
  unfold rFs
  cases rF l b with
  | error x => rfl
  | ok q =>
   obtain ⟨v, d⟩ := q
   simp only
   unfold rFs
   rfl
theorem rFs_stop {l : List UInt8} {at_ : Int} {x : Int × Int} {n m : Nat} (h : rFs l n at_ = .error x) (hm : n ≤ m) : rFs l m at_ = .error x := by
 cases hm2 : rFs l m at_ with
 | error y =>
  obtain ⟨k, rfl⟩ : ∃ k, m = n + k := ⟨m - n, by omega⟩
  exact rFs_err h k ▸ hm2 ▸ rfl
 | ok p =>
  obtain ⟨k, rfl⟩ : ∃ k, m = n + k := ⟨m - n, by omega⟩
  rw [rFs_err h k] at hm2
  cases hm2
where
 rFs_err {l : List UInt8} {x : Int × Int} : ∀ {n : Nat} {at_ : Int}, rFs l n at_ = .error x → ∀ k, rFs l (n + k) at_ = .error x
 | 0, at_, h, k => by unfold rFs at h; cases h
 | n + 1, at_, h, k => by
  unfold rFs at h
  rw [show n + 1 + k = (n + k) + 1 by omega]
  unfold rFs
  cases h1 : rF l at_ with
  | error y => rw [h1] at h; injection h with h; subst h; rfl
  | ok p =>
   obtain ⟨u, a⟩ := p
   rw [h1] at h
   simp only at h ⊢
   cases h2 : rFs l n a with
   | error y =>
    rw [h2] at h
    injection h with h
    subst h
    rw [rFs_err h2 k]
   | ok q => rw [h2] at h; cases h
theorem one_cV (l : List (Nat × Nat)) : allOne (l.map cV) = true := allOne_map (fun _ => rfl) _
set_option maxRecDepth 100000 in
theorem complexes_calls {B : Nat} {w0 : World} (g : Nat) (bt : TypeId) (A : Option Addr) (n c : Nat) (l : List UInt8) (at_ : Int) (cs : List Value) (L : List It) (w : World) (m : Nat) (hS0 : St B w0 w (.blk g bt (cuC A n c at_ cs) :: L)) {ok : Nat → Prop} (hr : Rdb B w0 ok A l) (hn : n = l.length) (hb : l.length ≤ 1048576) (hat : 0 ≤ at_ ∧ at_ ≤ l.length) (hm : m ≤ 1048576) :
 Calls Tryz.prog 52 ⟨[.pointer (some ⟨g, 0, none⟩), .int .i64 (m : Nat)]⟩ w fun en w' => (∃ x y a, rFs l (2 * m) at_ = .error (x, y) ∧ en = .panicked (pn x y) ∧ St B w0 w' (.blk g bt (cuC A n c a cs) :: L)) ∨
  (∃ us a A' c', rFs l (2 * m) at_ = .ok (us, a) ∧ en = .returned (.slice A' m c') ∧ St B w0 w' (.blk g bt (cuC A n c a cs) :: .row A' c' 98 1 m ((prs us).map cV) :: L)) := by
 subst hn
 refine gc_enter (N := 25) Tryz.func52 rfl rfl rfl [(0, _), (1, _)] rfl ?_
 have hS := St.start w
 have hS := hS0
 refine gc_seq fun K1 hK1 => gc_region (Zp rfl (gl_nil (hK1 _ _ (gc_seq fun K2 hK2 => gc_region (Zp rfl (gl_nil (hK2 _ _ (gc_seq fun K3 hK3 => gc_seq fun K4 hK4 => gc_region (Zp rfl (Zp rfl (gl_nil (hK4 _ _ (gc_block ?_)))))))))))))
 have hS := (hS.nil 98 1).front2
 refine gc_loop (fun kk a' w' => ∃ (i : Nat) (us : List Nat) (a : Int) (A' : Option Addr) (c' : Nat), Fr 25 a' [(0, .pointer (some ⟨g, 0, none⟩)), (5, .slice A' i c'), (7, .int .i64 (m : Nat)), (8, .int .i64 (i : Nat))] ∧ i ≤ m ∧ kk = m + 1 - i ∧ rFs l (2 * i) at_ = .ok (us, a) ∧
  St B w0 w' (.blk g bt (cuC A l.length c a cs) :: .row A' c' 98 1 i ((prs us).map cV) :: L)) (m + 1) ?_ ?_ ?_
 ·intro a' ha; exact ⟨0, [], at_, none, 0, ha.sub ⟨rfl, rfl, rfl, rfl, trivial⟩, by omega, by omega, rfl, hS⟩
 ·rintro a' w' ⟨i, _, _, _, _, _, h1, h2, _⟩; omega
 clear hS
 rintro kk a' w1 ⟨i, us, a, A', c', hF, hi, hk, hus, hS⟩
 refine gc_of hF ?_
 clear hF
 obtain ⟨hul, hua, huf⟩ := rFs_ok hus
 have hab := hua hat
 refine gc_seq fun K5 hK5 => gc_region (Zp rfl (gl_nil (hK5 _ _ (gc_seq fun K6 hK6 => gc_cond rfl rfl (fun c9 => ?_) (fun c9 => ?_)))))
 ·simp only [NN, reduceCtorEq] at c9
  refine gc_skip (hK6 _ _ (gc_seq fun K7 hK7 => gc_block (gc_seq fun K8 hK8 => gc_region (Zp rfl (Zp rfl (Zf 0 Tryz.underlying64 rfl el61 ?_))))))
  have htw := rFs_two hus
  refine gl_callP rfl rfl rfl rfl Tryz.func49 rfl rfl rfl (cFloat_calls g bt A l.length c l a cs _ _ hS hr rfl hb (by omega)) ?_
  rintro _ w13 (⟨x, y, hx, rfl, hS⟩ | ⟨u, b, hx, rfl, hS⟩)
  ·refine .inr ⟨_, rfl, ?_⟩
   simp only [x_then_panic, x_block_panic]
   refine gk_panic ?_
   refine .inl ⟨x, y, a, ?_, rfl, hS.erase 1⟩
   rw [hx] at htw
   exact rFs_stop htw (by omega)
  refine .inl ⟨_, rfl, ?_⟩
  rw [hx] at htw
  have hu1 := rF_ok hx
  refine Zp rfl (gl_nil (hK8 _ _ (gc_region (Zp rfl (Zp rfl (Zp rfl (Zp rfl (Zf 0 Tryz.underlying64 rfl el61 (gl_callP rfl rfl rfl rfl Tryz.func49 rfl rfl rfl (cFloat_calls g bt A l.length c l b cs _ _ hS hr rfl hb (by omega)) ?_)))))))))
  rintro _ w19 (⟨x, y, hx2, rfl, hS⟩ | ⟨v, d, hx2, rfl, hS⟩)
  ·refine .inr ⟨_, rfl, ?_⟩
   simp only [x_then_panic, x_block_panic]
   refine gk_panic ?_
   refine .inl ⟨x, y, b, ?_, rfl, hS.erase 1⟩
   simp only [hx2] at htw
   exact rFs_stop htw (by omega)
  refine .inl ⟨_, rfl, ?_⟩
  simp only [hx2] at htw
  refine gl_op rfl rfl rfl (op_complex rfl rfl rfl) ?_
  refine gl_lit hT hS el98 rfl rfl rfl rfl rfl rfl rfl rfl rfl fun g21 w21 hS => ?_
  have hS := hS.moveIn 2
  refine gl_append 1 hT hS el98 (hS.rd (i := 2) rfl) (one_cV [(u, v)]) rfl rfl rfl rfl rfl rfl rfl rfl (by first | omega | (simp; omega)) (by first | omega | (simp; omega)) fun A22 c22 w22 hS => ?_
  have hS := hS.erase 2
  refine Zp rfl (gl_nil (hK7 _ _ (gc_region (Zi rfl (by omega) ?_))))
  refine Zp rfl (gl_nil ?_)
  intro a' ha
  refine ⟨i + 1, us ++ [u, v], d, A22, c22, ha.sub ⟨rfl, rfl, rfl, rfl, trivial⟩, by omega, by omega, htw, ?_⟩
  rw [prs_snoc i us u v hul, List.map_append]
  exact hS
 simp only [NN, reduceCtorEq] at c9
 refine gc_exit ?_
 refine hK3 _ _ (gc_seq fun K9 hK9 => gc_region (Zp rfl (Zp rfl (gl_nil (hK9 _ _ (gc_ret (gk_ret1 rfl rfl ?_)))))))
 have him : i = m := by omega
 subst him
 exact .inr ⟨us, a, A', c', hus, rfl, hS⟩
end Go.Proofs.YtnomlloaahoceaaGreatDoor
