/- Contracts of functions that CodeNetBytes reaches, and words to say them. No condition. -/
import Derived.Test.YtnomlloaahoceaaGreatDoorZ08
import Derived.Test.YtnomlloaahoceaaGreatDoorZ03
/- Contracts of model.fields, model.Out, model.Lists. No condition. -/
namespace Go.Proofs.YtnomlloaahoceaaGreatDoor
open Go.RowKit
set_option linter.unusedVariables false
set_option linter.unusedSimpArgs false
theorem bnd_at (k kh kw : Int) (j : Nat) (h : j < 16) : (bndC k kh kw)[j]? = some (.int .i64 ((bndI k kh kw).getD j 0)) := by
 have hl : (bndI k kh kw).length = 16 := by have := bndC_len k kh kw; rw [bndC_eq, List.length_map] at this; exact this
 rw [bndC_eq, List.getElem?_map, List.getElem?_eq_getElem (by omega), List.getD_eq_getElem?_getD, List.getElem?_eq_getElem (by omega)]
 rfl
theorem int_at (l : List Int) (j : Nat) (h : j < l.length) : (l.map (Value.int .i64))[j]? = some (.int .i64 (l.getD j 0)) := by
 rw [List.getElem?_map, List.getElem?_eq_getElem h, List.getD_eq_getElem?_getD, List.getElem?_eq_getElem h]
 rfl
set_option maxHeartbeats 2000000 in
set_option maxRecDepth 100000 in
theorem fields_calls (L : Ly) (w : World) (hL : L.ok) : Calls Tryz.prog 77 ⟨[.agg ⟨lyC L⟩]⟩ w fun e w' => e = .returned (.int .i64 (fieldsV L)) ∧ Below w.heap.size w w' := by
 have hfits := fits_iff L
 obtain ⟨k, out, kh, kw, sh, sw, ph, pw, fr, a, W, B, Z, ZB⟩ := L
 show Calls _ _ ⟨[Value.agg ⟨[.int .i64 k, .int .i64 out, .int .i64 kh, .int .i64 kw, .int .i64 sh, .int .i64 sw, .int .i64 ph, .int .i64 pw, .int .i64 fr, .float .f64 a, svV W, svV B, svV Z, svV ZB]⟩]⟩ w _
 have ha64 : a < 18446744073709551616 := hL.a
 obtain ⟨L, hLe⟩ : ∃ L : Ly, L = ⟨k, out, kh, kw, sh, sw, ph, pw, fr, a, W, B, Z, ZB⟩ := ⟨_, rfl⟩
 rw [← hLe] at hfits ⊢
 have hLk : L.k = k := by rw [hLe]
 have hLa : L.a = a := by rw [hLe]
 refine gc_enter (N := 87) Tryz.func77 rfl rfl rfl [(0, _)] rfl ?_
 have hS := St.start w
 refine gc_seq fun K1 hK1 => gc_region (gl_box hS rfl rfl rfl rfl rfl fun g1 w1 hS => ?_)
 refine Zp rfl (gl_nil (hK1 _ _ (gc_seq fun K2 hK2 => gc_seq fun K3 hK3 => gc_region (Zf 0 Tryz.underlying48 rfl el3 (Zb 0 hS rfl (Zp rfl (Zp rfl (gl_split (t := 10) rfl (fun c10 => ?_) (fun c10 => ?_)))))))))
 ·simp only [NN, reduceCtorEq] at c10
  refine Zs rfl (Zs rfl (Zs rfl (Zp rfl (gl_nil (hK3 _ _ (gc_cond_t rfl (gc_seq fun K4 hK4 => gc_region (Zp rfl (gl_nil (hK4 _ _ (gc_ret ?_)))))))))))
  simp only [XR]
  refine gk_ret1 rfl rfl ?_
  refine ⟨?_, hS.below⟩
  rw [fv_61 (by omega)]; done
 simp only [NN, reduceCtorEq] at c10
 refine Zu rfl (Zf 0 Tryz.underlying48 rfl el3 (Zu rfl (Zb 0 hS rfl (Zu rfl (Zp rfl (Zp rfl (gl_nil (hK3 _ _ (gc_cond rfl rfl (fun c14 => ?_) (fun c14 => ?_))))))))))
 ·simp only [NN, reduceCtorEq] at c14
  refine gc_seq fun K5 hK5 => gc_region (Zp rfl (gl_nil (hK5 _ _ (gc_ret ?_))))
  simp only [XR]
  refine gk_ret1 rfl rfl ?_
  refine ⟨?_, hS.below⟩
  rw [fv_61 (by omega)]; done
 simp only [NN, reduceCtorEq] at c14
 refine gc_skip (hK2 _ _ (gc_seq fun K6 hK6 => gc_region (Zg 0 Tryz.underlying48 el48 hS rfl (gl_callf rfl rfl rfl rfl Tryz.func100 rfl rfl rfl (bounds_calls ⟨k, out, kh, kw, sh, sw, ph, pw, fr, a, W, B, Z, ZB⟩ _ hL) ?_))))
 rintro _ w17 ⟨rfl, hb17⟩
 refine ⟨_, rfl, ?_⟩
 have hS := hS.grown hb17
 refine Zp rfl (Zp rfl (Zp rfl (gl_alloc el175 hS rfl rfl rfl rfl fun g3 w3 hS => ?_)))
 refine gl_storeM 1 hS el175 rfl rfl rfl rfl rfl rfl (bndC_len k kh kw) rfl (bndC_one k kh kw) fun w_66 hS => ?_
 refine Zp rfl (gl_nil (hK6 _ _ (gc_seq fun K7 hK7 => gc_seq fun K8 hK8 => gc_region (Zf 1 Tryz.underlying48 rfl el3 (Zb 0 hS rfl (Zf 2 Tryz.underlying48 rfl el3 (Zb 0 hS rfl (Zf 3 Tryz.underlying48 rfl el3 (Zb 0 hS rfl (Zf 4 Tryz.underlying48 rfl el3 (Zb 0 hS rfl (Zf 5 Tryz.underlying48 rfl el3 (Zb 0 hS rfl (Zf 6 Tryz.underlying48 rfl el3 (Zb 0 hS rfl (Zf 7 Tryz.underlying48 rfl el3 (Zb 0 hS rfl (Zf 8 Tryz.underlying48 rfl el3 (Zb 0 hS rfl (gl_op rfl rfl rfl (op_buildG rfl plan120 rfl rfl) ?_))))))))))))))))))))
 refine Zp rfl (gl_nil (hK8 _ _ (gc_block ?_)))
 have e1 : spliceL [.int .i64 0, .int .i64 0, .int .i64 0, .int .i64 0, .int .i64 0, .int .i64 0, .int .i64 0, .int .i64 0, .int .i64 0, .int .i64 0, .int .i64 0, .int .i64 0, .int .i64 0, .int .i64 0, .int .i64 0, .int .i64 0] 0 (bndC k kh kw) = bndC k kh kw := by unfold spliceL; rw [bndC_len, List.drop_eq_nil_of_le (by decide)]; simp
 have hS : St w.heap.size w _ [.blk g1 48 [.int .i64 k, .int .i64 out, .int .i64 kh, .int .i64 kw, .int .i64 sh, .int .i64 sw, .int .i64 ph, .int .i64 pw, .int .i64 fr, .float .f64 a, svV W, svV B, svV Z, svV ZB], .blk g3 175 (spliceL [.int .i64 0, .int .i64 0, .int .i64 0, .int .i64 0, .int .i64 0, .int .i64 0, .int .i64 0, .int .i64 0, .int .i64 0, .int .i64 0, .int .i64 0, .int .i64 0, .int .i64 0, .int .i64 0, .int .i64 0, .int .i64 0] 0 (bndC k kh kw))] := hS
 rw [e1] at hS
 refine gc_loop (fun n a' w' => ∃ i : Nat, Fr 87 a' [(1, .pointer (some ⟨g1, 0, none⟩)), (3, .pointer (some ⟨g3, 0, none⟩)), (4, .bool (bndA k)), (36, .agg ⟨(fldI L).map (Value.int .i64)⟩), (37, .int .i64 (i : Nat))] ∧ i ≤ 8 ∧ n = 9 - i ∧ (∀ j, j < i → fitAt L j) ∧
  St w.heap.size w w' [.blk g1 48 [.int .i64 k, .int .i64 out, .int .i64 kh, .int .i64 kw, .int .i64 sh, .int .i64 sw, .int .i64 ph, .int .i64 pw, .int .i64 fr, .float .f64 a, svV W, svV B, svV Z, svV ZB], .blk g3 175 (bndC k kh kw)]) 9 ?_ ?_ ?_
 ·intro a' ha
  refine ⟨0, ha.sub ⟨rfl, rfl, rfl, ?_, rfl, trivial⟩, by omega, by omega, fun j hj => by omega, hS⟩
  rw [hLe]; rfl
 ·rintro a' w' ⟨i, _, h1, h2, _⟩; omega
 rintro n a' w' ⟨i, hF, hi, hn, hfit, hS⟩
 refine gc_of hF ?_
 clear hF
 refine gc_seq fun K9 hK9 => gc_region (Zp rfl (gl_nil (hK9 _ _ (gc_seq fun K10 hK10 => gc_cond rfl rfl (fun c38 => ?_) (fun c38 => ?_)))))
 ·simp only [NN, reduceCtorEq] at c38
  refine gc_skip (hK10 _ _ (gc_seq fun K11 hK11 => gc_block (gc_seq fun K12 hK12 => gc_region (Zp rfl ?_))))
  have hv := int_at (fldI L) i (by show i < 8; omega)
  refine gl_op rfl rfl rfl (op_indexA hT rfl Tryz.underlying120 el3 rfl rfl rfl rfl (by omega) (by omega) (by rw [Int.toNat_natCast]; exact hv)) ?_
  refine Zp rfl (Zp rfl (gl_nil (hK12 _ _ (gc_seq fun K13 hK13 => gc_region (Zp rfl (Zp rfl (gl_op rfl rfl rfl (op_ixA (j := i * 2) rfl Tryz.underlying175 el174 rfl rfl (by omega) (by omega) (by rw [Int.toNat_natCast]; omega)) ?_)))))))
  refine gl_op rfl rfl rfl (op_fieldB (i * 2) rfl Tryz.underlying174 rfl el3 rfl rfl) ?_
  refine gl_op rfl rfl rfl (op_loadB 1 hT hS rfl rfl rfl rfl rfl (bnd_at k kh kw (i * 2) (by omega))) ?_
  refine Zp rfl (Zp rfl (gl_split (t := 47) rfl (fun c47 => ?_) (fun c47 => ?_)))
  ·simp only [NN, reduceCtorEq] at c47
   refine Zs rfl (Zs rfl (Zs rfl (Zs rfl (Zs rfl (Zs rfl (Zp rfl (gl_nil (hK13 _ _ (gc_cond_t rfl (gc_seq fun K14 hK14 => gc_region (Zp rfl (gl_nil (hK14 _ _ (gc_ret ?_))))))))))))))
   simp only [XR]
   refine gk_ret1 rfl rfl ?_
   refine ⟨?_, hS.below⟩
   rw [fv_62 (by omega)]
   intro hok
   have hx := hfits.2 hok i (by omega)
   unfold fitAt at hx
   rw [hLk, show L.kh = kh by rw [hLe], show L.kw = kw by rw [hLe], Nat.mul_comm 2 i] at hx
   omega
  simp only [NN, reduceCtorEq] at c47
  refine Zu rfl (Zp rfl (Zu rfl (Zp rfl (Zu rfl (gl_op rfl rfl rfl (op_ixA (j := i * 2) rfl Tryz.underlying175 el174 rfl rfl (by omega) (by omega) (by rw [Int.toNat_natCast]; omega)) ?_)))))
  refine Zu rfl (gl_op rfl rfl rfl (op_fieldB (i * 2 + 1) rfl Tryz.underlying174 rfl el3 rfl rfl) ?_)
  refine Zu rfl (gl_op rfl rfl rfl (op_loadB 1 hT hS rfl rfl rfl rfl rfl (bnd_at k kh kw (i * 2 + 1) (by omega))) ?_)
  refine Zu rfl (Zp rfl (Zp rfl (gl_nil (hK13 _ _ (gc_cond rfl rfl (fun c54 => ?_) (fun c54 => ?_))))))
  ·simp only [NN, reduceCtorEq] at c54
   refine gc_seq fun K15 hK15 => gc_region (Zp rfl (gl_nil (hK15 _ _ (gc_ret ?_))))
   simp only [XR]
   refine gk_ret1 rfl rfl ?_
   refine ⟨?_, hS.below⟩
   rw [fv_62 (by omega)]
   intro hok
   have hx := hfits.2 hok i (by omega)
   unfold fitAt at hx
   rw [hLk, show L.kh = kh by rw [hLe], show L.kw = kw by rw [hLe], Nat.mul_comm 2 i] at hx
   omega
  simp only [NN, reduceCtorEq] at c54
  refine gc_skip (hK11 _ _ (gc_region (Zi rfl (by omega) ?_)))
  refine Zp rfl (gl_nil ?_)
  intro a' ha
  refine ⟨i + 1, ha.sub ⟨rfl, rfl, rfl, rfl, rfl, trivial⟩, by omega, by omega, fun j hj => ?_, hS⟩
  rcases Nat.lt_or_ge j i with h | h
  ·exact hfit j h
  have hj2 : j = i := by omega
  subst hj2
  unfold fitAt
  rw [hLk, show L.kh = kh by rw [hLe], show L.kw = kw by rw [hLe], Nat.mul_comm 2 j]
  omega
 simp only [NN, reduceCtorEq] at c38
 have hok : fldOk L := hfits.1 fun j hj => hfit j (by omega)
 refine gc_exit ?_
 refine hK7 _ _ (gc_seq fun K16 hK16 => gc_block (gc_seq fun K17 hK17 => gc_region (Zp rfl (Zp rfl (Zp rfl (gl_split (t := 59) rfl (fun c59 => ?_) (fun c59 => ?_)))))))
 ·simp only [NN, reduceCtorEq] at c59
  refine Zu rfl (Zf 9 Tryz.underlying48 rfl el44 (Zu rfl (Zb 0 hS rfl (Zu rfl (gl_callf rfl rfl rfl rfl Tryz.func67 rfl rfl rfl (mBits_calls a _) ?_)))))
  rintro _ _ ⟨rfl, n62, rfl⟩
  refine ⟨_, rfl, ?_⟩
  have hS := hS.dr n62
  refine Zu rfl (Zp rfl (Zp rfl (Zp rfl (gl_nil (hK17 _ _ (gc_cond rfl rfl (fun c56 => ?_) (fun c56 => ?_)))))))
  ·simp only [NN, reduceCtorEq] at c56
   refine gc_seq fun K18 hK18 => gc_region (Zp rfl (gl_nil (hK18 _ _ (gc_ret ?_))))
   simp only [XR]
   refine gk_ret1 rfl rfl ?_
   refine ⟨?_, hS.below⟩
   rw [fv_62a (by omega) hok (by rw [hLk]; assumption) (by omega)]; done
  simp only [NN, reduceCtorEq] at c56
  refine gc_seq fun K19 hK19 => gc_region (Zp rfl (Zp rfl (gl_split (t := 67) rfl (fun c67 => ?_) (fun c67 => ?_))))
  ·refine Zu rfl (Zf 9 Tryz.underlying48 rfl el44 (Zu rfl (Zb 0 hS rfl (Zu rfl (gl_callf rfl rfl rfl rfl Tryz.func101 rfl rfl rfl (mnumber_calls a ha64 _) ?_)))))
   rintro _ _ ⟨rfl, n70, rfl⟩
   refine ⟨_, rfl, ?_⟩
   have hS := hS.dr n70
   refine Zu rfl (Zp rfl (Zp rfl (Zp rfl (gl_nil (hK19 _ _ (gc_cond rfl rfl (fun c65 => ?_) (fun c65 => ?_)))))))
   ·simp only [NN, reduceCtorEq] at c65
    refine gc_seq fun K20 hK20 => gc_region (Zp rfl (gl_nil (hK20 _ _ (gc_ret ?_))))
    simp only [XR]
    refine gk_ret1 rfl rfl ?_
    refine ⟨?_, hS.below⟩
    exact absurd (c59.symm.trans c67) (by decide)
   simp only [NN, reduceCtorEq] at c65
   refine gc_seq fun K21 hK21 => gc_region (Zf 0 Tryz.underlying48 rfl el3 (Zb 0 hS rfl (Zp rfl (Zp rfl (gl_split (t := 77) rfl (fun c77 => ?_) (fun c77 => ?_))))))
   ·simp only [NN, reduceCtorEq] at c77
    refine Zu rfl (Zf 9 Tryz.underlying48 rfl el44 (Zu rfl (Zb 0 hS rfl (Zu rfl (gl_op rfl rfl rfl (op_fcmp rfl rfl rfl rfl) ?_)))))
    refine Zu rfl (Zp rfl (gl_split (t := 81) rfl (fun c81 => ?_) (fun c81 => ?_)))
    ·refine Zs rfl (Zs rfl (Zs rfl (Zu rfl (Zp rfl (Zp rfl (Zp rfl (gl_nil (hK21 _ _ (gc_cond_t rfl (gc_seq fun K22 hK22 => gc_region (Zp rfl (gl_nil (hK22 _ _ (gc_ret ?_))))))))))))))
     simp only [XR]
     refine gk_ret1 rfl rfl ?_
     refine ⟨?_, hS.below⟩
     exact absurd (c59.symm.trans c67) (by decide)
    refine Zu rfl (Zf 9 Tryz.underlying48 rfl el44 (Zu rfl (Zb 0 hS rfl (Zu rfl (gl_op rfl rfl rfl (op_fcmp rfl rfl rfl rfl) ?_)))))
    refine Zu rfl (Zp rfl (Zp rfl (Zp rfl (gl_nil (hK21 _ _ (gc_cond rfl rfl (fun c73 => ?_) (fun c73 => ?_)))))))
    ·refine gc_seq fun K23 hK23 => gc_region (Zp rfl (gl_nil (hK23 _ _ (gc_ret ?_))))
     simp only [XR]
     refine gk_ret1 rfl rfl ?_
     refine ⟨?_, hS.below⟩
     exact absurd (c59.symm.trans c67) (by decide)
    refine gc_skip (hK16 _ _ (gc_seq fun K24 hK24 => gc_region (Zp rfl (gl_nil (hK24 _ _ (gc_ret (gk_ret1 rfl rfl ?_)))))))
    refine ⟨?_, hS.below⟩
    exact absurd (c59.symm.trans c67) (by decide)
   simp only [NN, reduceCtorEq] at c77
   refine Zs rfl (Zs rfl (Zs rfl (Zs rfl (gl_none rfl rfl rfl rfl rfl ?_))))
   refine gl_none rfl rfl rfl rfl rfl ?_
   refine gl_none rfl rfl rfl rfl rfl ?_
   refine Zs rfl (Zp rfl (Zp rfl (gl_nil (hK21 _ _ (gc_cond_f rfl (gc_skip (hK16 _ _ (gc_seq fun K25 hK25 => gc_region (Zp rfl (gl_nil (hK25 _ _ (gc_ret (gk_ret1 rfl rfl ?_)))))))))))))
   refine ⟨?_, hS.below⟩
   exact absurd (c59.symm.trans c67) (by decide)
  refine Zs rfl (Zs rfl (Zs rfl (Zs rfl (Zp rfl (Zp rfl (gl_nil (hK19 _ _ (gc_cond_f rfl (gc_seq fun K26 hK26 => gc_region (Zf 0 Tryz.underlying48 rfl el3 (Zb 0 hS rfl (Zp rfl (Zp rfl (gl_split (t := 77) rfl (fun c77 => ?_) (fun c77 => ?_)))))))))))))))
  ·simp only [NN, reduceCtorEq] at c77
   refine Zu rfl (Zf 9 Tryz.underlying48 rfl el44 (Zu rfl (Zb 0 hS rfl (Zu rfl (gl_op rfl rfl rfl (op_fcmp rfl rfl rfl rfl) ?_)))))
   refine Zu rfl (Zp rfl (gl_split (t := 81) rfl (fun c81 => ?_) (fun c81 => ?_)))
   ·refine Zs rfl (Zs rfl (Zs rfl (Zu rfl (Zp rfl (Zp rfl (Zp rfl (gl_nil (hK26 _ _ (gc_cond_t rfl (gc_seq fun K27 hK27 => gc_region (Zp rfl (gl_nil (hK27 _ _ (gc_ret ?_))))))))))))))
    simp only [XR]
    refine gk_ret1 rfl rfl ?_
    refine ⟨?_, hS.below⟩
    rw [c77] at c59; exact absurd c59 (by decide)
   refine Zu rfl (Zf 9 Tryz.underlying48 rfl el44 (Zu rfl (Zb 0 hS rfl (Zu rfl (gl_op rfl rfl rfl (op_fcmp rfl rfl rfl rfl) ?_)))))
   refine Zu rfl (Zp rfl (Zp rfl (Zp rfl (gl_nil (hK26 _ _ (gc_cond rfl rfl (fun c73 => ?_) (fun c73 => ?_)))))))
   ·refine gc_seq fun K28 hK28 => gc_region (Zp rfl (gl_nil (hK28 _ _ (gc_ret ?_))))
    simp only [XR]
    refine gk_ret1 rfl rfl ?_
    refine ⟨?_, hS.below⟩
    rw [c77] at c59; exact absurd c59 (by decide)
   refine gc_skip (hK16 _ _ (gc_seq fun K29 hK29 => gc_region (Zp rfl (gl_nil (hK29 _ _ (gc_ret (gk_ret1 rfl rfl ?_)))))))
   refine ⟨?_, hS.below⟩
   rw [c77] at c59; exact absurd c59 (by decide)
  simp only [NN, reduceCtorEq] at c77
  refine Zs rfl (Zs rfl (Zs rfl (Zs rfl (gl_none rfl rfl rfl rfl rfl ?_))))
  refine gl_none rfl rfl rfl rfl rfl ?_
  refine gl_none rfl rfl rfl rfl rfl ?_
  refine Zs rfl (Zp rfl (Zp rfl (gl_nil (hK26 _ _ (gc_cond_f rfl (gc_skip (hK16 _ _ (gc_seq fun K30 hK30 => gc_region (Zp rfl (gl_nil (hK30 _ _ (gc_ret (gk_ret1 rfl rfl ?_)))))))))))))
  refine ⟨?_, hS.below⟩
  rw [fv_0a (by omega) hok (by rw [hLk]; assumption) (by omega)]; done
 simp only [NN, reduceCtorEq] at c59
 refine Zs rfl (Zs rfl (Zs rfl (Zs rfl (Zp rfl (Zp rfl (gl_nil (hK17 _ _ (gc_cond_f rfl (gc_seq fun K31 hK31 => gc_region (Zp rfl (Zp rfl (gl_split (t := 67) rfl (fun c67 => ?_) (fun c67 => ?_)))))))))))))
 ·refine Zu rfl (Zf 9 Tryz.underlying48 rfl el44 (Zu rfl (Zb 0 hS rfl (Zu rfl (gl_callf rfl rfl rfl rfl Tryz.func101 rfl rfl rfl (mnumber_calls a ha64 _) ?_)))))
  rintro _ _ ⟨rfl, n70, rfl⟩
  refine ⟨_, rfl, ?_⟩
  have hS := hS.dr n70
  refine Zu rfl (Zp rfl (Zp rfl (Zp rfl (gl_nil (hK31 _ _ (gc_cond rfl rfl (fun c65 => ?_) (fun c65 => ?_)))))))
  ·simp only [NN, reduceCtorEq] at c65
   refine gc_seq fun K32 hK32 => gc_region (Zp rfl (gl_nil (hK32 _ _ (gc_ret ?_))))
   simp only [XR]
   refine gk_ret1 rfl rfl ?_
   refine ⟨?_, hS.below⟩
   rw [fv_64 (by omega) hok (by rw [hLk]; assumption) (by rw [hLa]; assumption)]; done
  simp only [NN, reduceCtorEq] at c65
  refine gc_seq fun K33 hK33 => gc_region (Zf 0 Tryz.underlying48 rfl el3 (Zb 0 hS rfl (Zp rfl (Zp rfl (gl_split (t := 77) rfl (fun c77 => ?_) (fun c77 => ?_))))))
  ·simp only [NN, reduceCtorEq] at c77
   refine Zu rfl (Zf 9 Tryz.underlying48 rfl el44 (Zu rfl (Zb 0 hS rfl (Zu rfl (gl_op rfl rfl rfl (op_fcmp rfl rfl rfl rfl) ?_)))))
   refine Zu rfl (Zp rfl (gl_split (t := 81) rfl (fun c81 => ?_) (fun c81 => ?_)))
   ·refine Zs rfl (Zs rfl (Zs rfl (Zu rfl (Zp rfl (Zp rfl (Zp rfl (gl_nil (hK33 _ _ (gc_cond_t rfl (gc_seq fun K34 hK34 => gc_region (Zp rfl (gl_nil (hK34 _ _ (gc_ret ?_))))))))))))))
    simp only [XR]
    refine gk_ret1 rfl rfl ?_
    refine ⟨?_, hS.below⟩
    rw [fv_62b (by omega) hok (by rw [hLk]; assumption) (by rw [hLa]; assumption) (by omega) (by rw [hLa]; unfold aOut; first | rw [c81, Bool.true_or] | rw [c73, Bool.or_true])]; done
   refine Zu rfl (Zf 9 Tryz.underlying48 rfl el44 (Zu rfl (Zb 0 hS rfl (Zu rfl (gl_op rfl rfl rfl (op_fcmp rfl rfl rfl rfl) ?_)))))
   refine Zu rfl (Zp rfl (Zp rfl (Zp rfl (gl_nil (hK33 _ _ (gc_cond rfl rfl (fun c73 => ?_) (fun c73 => ?_)))))))
   ·refine gc_seq fun K35 hK35 => gc_region (Zp rfl (gl_nil (hK35 _ _ (gc_ret ?_))))
    simp only [XR]
    refine gk_ret1 rfl rfl ?_
    refine ⟨?_, hS.below⟩
    rw [fv_62b (by omega) hok (by rw [hLk]; assumption) (by rw [hLa]; assumption) (by omega) (by rw [hLa]; unfold aOut; first | rw [c81, Bool.true_or] | rw [c73, Bool.or_true])]; done
   refine gc_skip (hK16 _ _ (gc_seq fun K36 hK36 => gc_region (Zp rfl (gl_nil (hK36 _ _ (gc_ret (gk_ret1 rfl rfl ?_)))))))
   refine ⟨?_, hS.below⟩
   rw [fv_0c (by omega) hok (by rw [hLk]; assumption) (by rw [hLa]; assumption) (by rw [hLa]; unfold aOut; rw [c81, c73]; rfl)]; done
  simp only [NN, reduceCtorEq] at c77
  refine Zs rfl (Zs rfl (Zs rfl (Zs rfl (gl_none rfl rfl rfl rfl rfl ?_))))
  refine gl_none rfl rfl rfl rfl rfl ?_
  refine gl_none rfl rfl rfl rfl rfl ?_
  refine Zs rfl (Zp rfl (Zp rfl (gl_nil (hK33 _ _ (gc_cond_f rfl (gc_skip (hK16 _ _ (gc_seq fun K37 hK37 => gc_region (Zp rfl (gl_nil (hK37 _ _ (gc_ret (gk_ret1 rfl rfl ?_)))))))))))))
  refine ⟨?_, hS.below⟩
  rw [fv_0b (by omega) hok (by rw [hLk]; assumption) (by rw [hLa]; assumption) (by omega)]; done
 refine Zs rfl (Zs rfl (Zs rfl (Zs rfl (Zp rfl (Zp rfl (gl_nil (hK31 _ _ (gc_cond_f rfl (gc_seq fun K38 hK38 => gc_region (Zf 0 Tryz.underlying48 rfl el3 (Zb 0 hS rfl (Zp rfl (Zp rfl (gl_split (t := 77) rfl (fun c77 => ?_) (fun c77 => ?_)))))))))))))))
 ·simp only [NN, reduceCtorEq] at c77
  refine Zu rfl (Zf 9 Tryz.underlying48 rfl el44 (Zu rfl (Zb 0 hS rfl (Zu rfl (gl_op rfl rfl rfl (op_fcmp rfl rfl rfl rfl) ?_)))))
  refine Zu rfl (Zp rfl (gl_split (t := 81) rfl (fun c81 => ?_) (fun c81 => ?_)))
  ·refine Zs rfl (Zs rfl (Zs rfl (Zu rfl (Zp rfl (Zp rfl (Zp rfl (gl_nil (hK38 _ _ (gc_cond_t rfl (gc_seq fun K39 hK39 => gc_region (Zp rfl (gl_nil (hK39 _ _ (gc_ret ?_))))))))))))))
   simp only [XR]
   refine gk_ret1 rfl rfl ?_
   refine ⟨?_, hS.below⟩
   exact absurd (c59.symm.trans c67) (by decide)
  refine Zu rfl (Zf 9 Tryz.underlying48 rfl el44 (Zu rfl (Zb 0 hS rfl (Zu rfl (gl_op rfl rfl rfl (op_fcmp rfl rfl rfl rfl) ?_)))))
  refine Zu rfl (Zp rfl (Zp rfl (Zp rfl (gl_nil (hK38 _ _ (gc_cond rfl rfl (fun c73 => ?_) (fun c73 => ?_)))))))
  ·refine gc_seq fun K40 hK40 => gc_region (Zp rfl (gl_nil (hK40 _ _ (gc_ret ?_))))
   simp only [XR]
   refine gk_ret1 rfl rfl ?_
   refine ⟨?_, hS.below⟩
   exact absurd (c59.symm.trans c67) (by decide)
  refine gc_skip (hK16 _ _ (gc_seq fun K41 hK41 => gc_region (Zp rfl (gl_nil (hK41 _ _ (gc_ret (gk_ret1 rfl rfl ?_)))))))
  refine ⟨?_, hS.below⟩
  exact absurd (c59.symm.trans c67) (by decide)
 simp only [NN, reduceCtorEq] at c77
 refine Zs rfl (Zs rfl (Zs rfl (Zs rfl (gl_none rfl rfl rfl rfl rfl ?_))))
 refine gl_none rfl rfl rfl rfl rfl ?_
 refine gl_none rfl rfl rfl rfl rfl ?_
 refine Zs rfl (Zp rfl (Zp rfl (gl_nil (hK38 _ _ (gc_cond_f rfl (gc_skip (hK16 _ _ (gc_seq fun K42 hK42 => gc_region (Zp rfl (gl_nil (hK42 _ _ (gc_ret (gk_ret1 rfl rfl ?_)))))))))))))
 refine ⟨?_, hS.below⟩
 exact absurd (c59.symm.trans c67) (by decide)
set_option maxHeartbeats 2000000 in
set_option maxRecDepth 100000 in
theorem mOut_calls (L : Ly) (s : Sh) (w : World) (hL : L.ok) (hs : s.ok) : Calls Tryz.prog 50 ⟨[.agg ⟨lyC L⟩, .agg ⟨shC s⟩]⟩ w fun e w' => e = .returned (.tuple #[.agg ⟨shC (outV L s).1⟩, .int .i64 (outV L s).2]) ∧ Below w.heap.size w w' := by
 have hhc := hs.c
 have hhh := hs.h
 have hhw := hs.w
 refine gc_enter (N := 102) Tryz.func50 rfl rfl rfl [(0, _), (1, _)] rfl ?_
 have hS := St.start w
 refine gc_seq fun K1 hK1 => gc_region (gl_box hS rfl rfl rfl rfl rfl fun g2 w2 hS => ?_)
 refine gl_box hS rfl rfl rfl rfl rfl fun g3 w3 hS => ?_
 refine gl_alloc el27 hS rfl rfl rfl rfl fun g4 w4 hS => ?_
 refine Zp rfl (gl_nil (hK1 _ _ (gc_seq fun K2 hK2 => gc_seq fun K3 hK3 => gc_region (Zg 0 Tryz.underlying48 el48 hS rfl (gl_callf rfl rfl rfl rfl Tryz.func77 rfl rfl rfl (fields_calls L _ hL) ?_)))))
 rintro _ w15 ⟨rfl, hb15⟩
 refine ⟨_, rfl, ?_⟩
 have hS := hS.grown hb15
 refine Zp rfl (gl_nil (hK3 _ _ (gc_seq fun K4 hK4 => gc_region (Zp rfl (Zp rfl (gl_nil (hK4 _ _ (gc_cond rfl rfl (fun c17 => ?_) (fun c17 => ?_)))))))))
 ·simp only [NN, reduceCtorEq] at c17
  refine gc_seq fun K5 hK5 => gc_region (gl_op rfl rfl rfl (op_buildG rfl plan27 rfl rfl) ?_)
  refine Zp rfl (gl_storeM 2 hS el27 rfl rfl rfl rfl rfl rfl rfl rfl rfl fun w_86 hS => ?_)
  refine Zp rfl (gl_nil (hK5 _ _ (gc_ret ?_)))
  simp only [XR]
  refine gk_res2 rfl (⟨_, rfl, run_loadVarB 2 Tryz.underlying27 rfl el27 hS rfl rfl rfl⟩) (rfl) ?_
  refine ⟨?_, hS.below⟩
  unfold outV
  rw [if_pos c17]
  rfl
 simp only [NN, reduceCtorEq] at c17
 obtain ⟨hk1, hk2, hfo⟩ := fv_zero c17
 have hout := fld_out hfo
 refine gc_skip (hK2 _ _ (gc_seq fun K6 hK6 => gc_region (Zg 1 Tryz.underlying27 el27 hS rfl (gl_callf rfl rfl rfl rfl Tryz.func21 rfl rfl rfl (mSize_calls s _ hs) ?_))))
 rintro _ w22 ⟨rfl, hb22⟩
 refine ⟨_, rfl, ?_⟩
 have hS := hS.grown hb22
 refine Zp rfl (Zp rfl (Zp rfl (Zp rfl (Zp rfl (gl_nil (hK6 _ _ (gc_seq fun K7 hK7 => gc_seq fun K8 hK8 => gc_region (Zp rfl (Zp rfl (gl_nil (hK8 _ _ (gc_cond rfl rfl (fun c26 => ?_) (fun c26 => ?_)))))))))))))
 ·simp only [NN, reduceCtorEq] at c26
  refine gc_seq fun K9 hK9 => gc_region (gl_op rfl rfl rfl (op_buildG rfl plan27 rfl rfl) ?_)
  refine Zp rfl (gl_storeM 2 hS el27 rfl rfl rfl rfl rfl rfl rfl rfl rfl fun w_90 hS => ?_)
  refine Zp rfl (gl_nil (hK9 _ _ (gc_ret ?_)))
  simp only [XR]
  refine gk_res2 rfl (⟨_, rfl, run_loadVarB 2 Tryz.underlying27 rfl el27 hS rfl rfl rfl⟩) (rfl) ?_
  refine ⟨?_, hS.below⟩
  have hb := sizeV_bad c26
  unfold outV
  rw [if_neg (by rw [c17]; simp), if_pos hb.1, hb.2]
  rfl
 simp only [NN, reduceCtorEq] at c26
 have hsz := sizeV_ok c26
 have hgs := sz_good hsz.1
 rw [hsz.2]
 refine gc_skip (hK7 _ _ (gc_seq fun K10 hK10 => gc_region (Zg 1 Tryz.underlying27 el27 hS rfl (gl_alloc el27 hS rfl rfl rfl rfl fun g9 w9 hS => ?_))))
 refine gl_storeM 3 hS el27 rfl rfl rfl rfl rfl rfl rfl rfl rfl fun w_92 hS => ?_
 refine gl_nil (hK10 _ _ (gc_cut (fun a' w' => Fr 102 a' [(2, .pointer (some ⟨g2, 0, none⟩)), (3, .pointer (some ⟨g3, 0, none⟩)), (4, .pointer (some ⟨g4, 0, none⟩)), (7, .int .i64 (s.c * s.h * s.w)), (9, .pointer (some ⟨g9, 0, none⟩))] ∧ (¬ (winV L.k ∧ (s.h + 2 * L.ph - L.kh < 0 ∨ s.w + 2 * L.pw - L.kw < 0))) ∧ St w.heap.size w w' [.blk g2 48 (lyC L), .blk g3 27 (shC s), .blk g4 27 (shC ⟨0, 0, 0⟩), .blk g9 27 (shC (if winV L.k then ⟨s.c, (s.h + 2 * L.ph - L.kh) / L.sh + 1, (s.w + 2 * L.pw - L.kw) / L.sw + 1⟩ else s))]) ?_ ?_))
 ·refine gc_seq fun K11 hK11 => gc_region (Zf 0 Tryz.underlying48 rfl el3 (Zb 0 hS rfl (gl_callf rfl rfl rfl rfl Tryz.func78 rfl rfl rfl (windowed_calls L.k _) ?_)))
  rintro _ _ ⟨rfl, n32, rfl⟩
  refine ⟨_, rfl, ?_⟩
  have hS := hS.dr n32
  refine gl_nil (hK11 _ _ (gc_cond rfl rfl (fun c32 => ?_) (fun c32 => ?_)))
  ·simp only [NN, reduceCtorEq] at c32
   have hwn := fld_win hfo c32
   refine gc_seq fun K12 hK12 => gc_anyS hS (by kernel_rfl) rfl fun nq9 hK => ?_
   have hS := hS.dr nq9
   refine Yf 0 1 Tryz.underlying27 rfl el3 (by kernel_rfl) (fun _ _ _ _ h => h) hK ?_
   refine Yb 1 1 rfl (by kernel_rfl) (fun _ _ _ _ h => h) hK ?_
   refine Yf 2 6 Tryz.underlying48 rfl el3 (by kernel_rfl) (fun _ _ _ _ h => h) hK ?_
   refine Yb 3 0 rfl (by kernel_rfl) (fun _ _ _ _ h => h) hK ?_
   refine Yi 4 rfl (by omega) (by kernel_rfl) (fun _ _ _ _ h => h) hK ?_
   refine Yi 5 rfl (by omega) (by kernel_rfl) (fun _ _ _ _ h => h) hK ?_
   refine Yf 6 2 Tryz.underlying48 rfl el3 (by kernel_rfl) (fun _ _ _ _ h => h) hK ?_
   refine Yb 7 0 rfl (by kernel_rfl) (fun _ _ _ _ h => h) hK ?_
   refine Yi 8 rfl (by omega) (by kernel_rfl) (fun _ _ _ _ h => h) hK ?_
   refine Yf 9 2 Tryz.underlying27 rfl el3 (by kernel_rfl) (fun _ _ _ _ h => h) hK ?_
   refine Yb 10 1 rfl (by kernel_rfl) (fun _ _ _ _ h => h) hK ?_
   refine Yf 11 7 Tryz.underlying48 rfl el3 (by kernel_rfl) (fun _ _ _ _ h => h) hK ?_
   refine Yb 12 0 rfl (by kernel_rfl) (fun _ _ _ _ h => h) hK ?_
   refine Yi 13 rfl (by omega) (by kernel_rfl) (fun _ _ _ _ h => h) hK ?_
   refine Yi 14 rfl (by omega) (by kernel_rfl) (fun _ _ _ _ h => h) hK ?_
   refine Yf 15 3 Tryz.underlying48 rfl el3 (by kernel_rfl) (fun _ _ _ _ h => h) hK ?_
   refine Yb 16 0 rfl (by kernel_rfl) (fun _ _ _ _ h => h) hK ?_
   refine Yi 17 rfl (by omega) (by kernel_rfl) (fun _ _ _ _ h => h) hK ?_
   refine Yp 18 rfl (by kernel_rfl) (fun _ _ _ _ h => h) hK ?_
   refine Yp 19 rfl (by kernel_rfl) (fun _ _ _ _ h => h) hK ?_
   refine ga_done (by kernel_rfl) ?_
   refine hK12 _ _ (gc_seq fun K13 hK13 => gc_seq fun K14 hK14 => gc_region (Zp rfl (Zp rfl (Zp rfl (gl_split (t := 53) rfl (fun c53 => ?_) (fun c53 => ?_))))))
   ·simp only [NN, reduceCtorEq] at c53
    refine Zs rfl (Zs rfl (Zp rfl (gl_nil (hK14 _ _ (gc_cond_t rfl (gc_seq fun K15 hK15 => gc_region (gl_op rfl rfl rfl (op_buildG rfl plan27 rfl rfl) ?_)))))))
    refine gl_storeM 2 hS el27 rfl rfl rfl rfl rfl rfl rfl rfl rfl fun w_96 hS => ?_
    refine Zp rfl (gl_nil (hK15 _ _ (gc_ret ?_)))
    simp only [XR]
    refine gk_res2 rfl (⟨_, rfl, run_loadVarB 2 Tryz.underlying27 rfl el27 hS rfl rfl rfl⟩) (rfl) ?_
    refine ⟨?_, hS.below⟩
    unfold outV
    rw [if_neg (by rw [c17]; simp), if_neg hsz.1, if_pos ⟨c32, by omega⟩]
    rfl
   simp only [NN, reduceCtorEq] at c53
   refine Zu rfl (Zp rfl (Zu rfl (Zp rfl (Zp rfl (gl_nil (hK14 _ _ (gc_cond rfl rfl (fun c56 => ?_) (fun c56 => ?_))))))))
   ·simp only [NN, reduceCtorEq] at c56
    refine gc_seq fun K16 hK16 => gc_region (gl_op rfl rfl rfl (op_buildG rfl plan27 rfl rfl) ?_)
    refine gl_storeM 2 hS el27 rfl rfl rfl rfl rfl rfl rfl rfl rfl fun w_96 hS => ?_
    refine Zp rfl (gl_nil (hK16 _ _ (gc_ret ?_)))
    simp only [XR]
    refine gk_res2 rfl (⟨_, rfl, run_loadVarB 2 Tryz.underlying27 rfl el27 hS rfl rfl rfl⟩) (rfl) ?_
    refine ⟨?_, hS.below⟩
    unfold outV
    rw [if_neg (by rw [c17]; simp), if_neg hsz.1, if_pos ⟨c32, by omega⟩]
    rfl
   simp only [NN, reduceCtorEq] at c56
   refine gc_skip (hK13 _ _ (gc_anyS (hS.blank 3) (by kernel_rfl) rfl fun nq12 hK => ?_))
   have hS := hS.dr nq12
   refine Yp 0 rfl (by kernel_rfl) (fun _ _ _ _ h => h) hK ?_
   refine Yf 1 4 Tryz.underlying48 rfl el3 (by kernel_rfl) (fun _ _ _ _ h => h) hK ?_
   refine Yb 2 0 rfl (by kernel_rfl) (fun _ _ _ _ h => h) hK ?_
   refine ga_take 3 rfl rfl rfl rfl (by kernel_rfl) (fun _ _ _ _ h => h) hK (fun w1 hS => (by first | exact op_quo hT rfl (by omega) (by omega) | exact op_pure hT rfl | exact op_quoS rfl rfl rfl (by omega) (by omega))) ?_
   have hd61 := div_bd (a := s.h + 2 * L.ph - L.kh) (b := L.sh) (by omega) (by omega)
   refine Yi 4 rfl (by omega) (by kernel_rfl) (fun _ _ _ _ h => h) hK ?_
   refine Yp 5 rfl (by kernel_rfl) (fun _ _ _ _ h => h) hK ?_
   refine Yf 6 5 Tryz.underlying48 rfl el3 (by kernel_rfl) (fun _ _ _ _ h => h) hK ?_
   refine Yb 7 0 rfl (by kernel_rfl) (fun _ _ _ _ h => h) hK ?_
   refine ga_take 8 rfl rfl rfl rfl (by kernel_rfl) (fun _ _ _ _ h => h) hK (fun w1 hS => (by first | exact op_quo hT rfl (by omega) (by omega) | exact op_pure hT rfl | exact op_quoS rfl rfl rfl (by omega) (by omega))) ?_
   have hd66 := div_bd (a := s.w + 2 * L.pw - L.kw) (b := L.sw) (by omega) (by omega)
   refine Yi 9 rfl (by omega) (by kernel_rfl) (fun _ _ _ _ h => h) hK ?_
   refine Yf 10 1 Tryz.underlying27 rfl el3 (by kernel_rfl) (fun _ _ _ _ h => h) hK ?_
   refine ga_one 11 (by kernel_rfl) rfl ?_
   refine gl_store 3 hS el3.cellsOf.1 el3.cellsOf.2 rfl rfl rfl rfl rfl rfl rfl rfl fun w_98 hS => ?_
   refine gl_nil (ga_next ((hS.blank 3).pre 4) fun hK => ?_)
   refine Yf 12 2 Tryz.underlying27 rfl el3 (by kernel_rfl) (fun _ _ _ _ h => h) hK ?_
   refine ga_one 13 (by kernel_rfl) rfl ?_
   refine gl_store 3 hS el3.cellsOf.1 el3.cellsOf.2 rfl rfl rfl rfl rfl rfl rfl rfl fun w_98 hS => ?_
   refine gl_nil (ga_next ((hS.blank 3).pre 4) fun hK => ?_)
   refine ga_done (by kernel_rfl) ?_
   intro a' ha
   by_cases hw : winV L.k
   ·refine ⟨ha.sub ⟨rfl, rfl, rfl, rfl, rfl, trivial⟩, fun h => absurd h.2 (by omega), ?_⟩
    rw [if_pos hw]
    exact hS
   exact absurd c32 hw
  simp only [NN, reduceCtorEq] at c32
  refine gc_skip ?_
  intro a' ha
  by_cases hw : winV L.k
  ·exact absurd hw c32
  refine ⟨ha.sub ⟨rfl, rfl, rfl, rfl, rfl, trivial⟩, fun h => absurd h.1 hw, ?_⟩
  rw [if_neg hw]
  exact hS
 rintro a' w1 ⟨hF, hnw, hS⟩
 refine gc_of hF ?_
 clear hF
 generalize hmid : (if winV L.k then (⟨s.c, (s.h + 2 * L.ph - L.kh) / L.sh + 1, (s.w + 2 * L.pw - L.kw) / L.sw + 1⟩ : Sh) else s) = mid at hS
 refine gc_cut (fun a' w' => Fr 102 a' [(4, .pointer (some ⟨g4, 0, none⟩)), (9, .pointer (some ⟨g9, 0, none⟩))] ∧ (¬ (L.k = 6 ∧ (s.c * s.h * s.w) % 2 = 1)) ∧ St w.heap.size w w' [.blk g2 48 (lyC L), .blk g3 27 (shC s), .blk g4 27 (shC ⟨0, 0, 0⟩), .blk g9 27 (shC (outS L s))]) ?_ ?_
 ·refine gc_seq fun K17 hK17 => gc_region (Zf 0 Tryz.underlying48 rfl el3 (Zb 0 hS rfl (gl_nil (hK17 _ _ (gc_block (gc_seq fun K18 hK18 => gc_region (Zp rfl (Zp rfl (gl_nil (hK18 _ _ (gc_cond rfl rfl (fun c72 => ?_) (fun c72 => ?_))))))))))))
  ·simp only [NN, reduceCtorEq] at c72
   refine gc_region (Zf 1 Tryz.underlying48 rfl el3 (Zb 0 hS rfl (Zf 0 Tryz.underlying27 rfl el3 (gl_store 3 hS el3.cellsOf.1 el3.cellsOf.2 rfl rfl rfl rfl rfl rfl rfl rfl fun w_102 hS => ?_))))
   refine gl_nil ?_
   intro a' ha
   refine ⟨ha.sub ⟨rfl, rfl, trivial⟩, fun h => absurd h.1 (by omega), ?_⟩
   rw [show outS L s = ⟨L.out, mid.h, mid.w⟩ by unfold outS; rw [if_neg (by omega), if_neg (by omega), if_pos (show winV L.k from .inl c72), if_pos c72]; rw [if_pos (show winV L.k from .inl c72)] at hmid; rw [← hmid]]
   exact hS
  simp only [NN, reduceCtorEq] at c72
  refine gc_seq fun K19 hK19 => gc_region (Zp rfl (Zp rfl (gl_nil (hK19 _ _ (gc_cond rfl rfl (fun c77 => ?_) (fun c77 => ?_))))))
  ·simp only [NN, reduceCtorEq] at c77
   refine gc_region (Zf 1 Tryz.underlying48 rfl el3 (Zb 0 hS rfl (gl_op rfl rfl rfl (op_buildG rfl plan27 rfl rfl) ?_)))
   refine gl_storeM 3 hS el27 rfl rfl rfl rfl rfl rfl rfl rfl rfl fun w_104 hS => ?_
   refine gl_nil ?_
   intro a' ha
   refine ⟨ha.sub ⟨rfl, rfl, trivial⟩, fun h => absurd h.1 (by omega), ?_⟩
   rw [show outS L s = ⟨L.out, 1, 1⟩ by unfold outS; rw [if_pos c77]]
   exact hS
  simp only [NN, reduceCtorEq] at c77
  refine gc_seq fun K20 hK20 => gc_region (Zp rfl (Zp rfl (gl_nil (hK20 _ _ (gc_cond rfl rfl (fun c82 => ?_) (fun c82 => ?_))))))
  ·simp only [NN, reduceCtorEq] at c82
   refine gc_seq fun K21 hK21 => gc_seq fun K22 hK22 => gc_region (Zp rfl (gl_op rfl rfl rfl (op_rem hT rfl (by omega)) ?_))
   refine Zp rfl (gl_nil (hK22 _ _ (gc_cond rfl rfl (fun c86 => ?_) (fun c86 => ?_))))
   ·simp only [NN, reduceCtorEq] at c86
    refine gc_seq fun K23 hK23 => gc_region (gl_op rfl rfl rfl (op_buildG rfl plan27 rfl rfl) ?_)
    refine gl_storeM 2 hS el27 rfl rfl rfl rfl rfl rfl rfl rfl rfl fun w_107 hS => ?_
    refine Zp rfl (gl_nil (hK23 _ _ (gc_ret ?_)))
    simp only [XR]
    refine gk_res2 rfl (⟨_, rfl, run_loadVarB 2 Tryz.underlying27 rfl el27 hS rfl rfl rfl⟩) (rfl) ?_
    refine ⟨?_, hS.below⟩
    unfold outV
    rw [if_neg (by rw [c17]; simp), if_neg hsz.1, if_neg hnw, if_pos ⟨c82, by omega⟩]
    rfl
   simp only [NN, reduceCtorEq] at c86
   refine gc_skip (hK21 _ _ (gc_region (Zf 1 Tryz.underlying48 rfl el3 (Zb 0 hS rfl (Zi rfl (by omega) ?_)))))
   refine gl_op rfl rfl rfl (op_buildG rfl plan27 rfl rfl) ?_
   refine gl_storeM 3 hS el27 rfl rfl rfl rfl rfl rfl rfl rfl rfl fun w_109 hS => ?_
   refine gl_nil ?_
   intro a' ha
   refine ⟨ha.sub ⟨rfl, rfl, trivial⟩, fun h => absurd h.2 (by omega), ?_⟩
   rw [show outS L s = ⟨2 * L.out, 1, 1⟩ by unfold outS; rw [if_neg (by omega), if_pos c82]]
   exact hS
  simp only [NN, reduceCtorEq] at c82
  refine gc_skip ?_
  intro a' ha
  refine ⟨ha.sub ⟨rfl, rfl, trivial⟩, fun h => absurd h.1 c82, ?_⟩
  rw [show outS L s = mid by
   unfold outS
   rw [if_neg c77, if_neg c82]
   rw [← hmid]
   by_cases hw : winV L.k
   ·rw [if_pos hw, if_pos hw, if_neg c72]
   rw [if_neg hw, if_neg hw]]
  exact hS
 rintro a' w2 ⟨hF, hn6, hS⟩
 refine gc_of hF ?_
 clear hF
 have hso : (outS L s).ok := by
  have hdiv : ∀ x y : Int, winV L.k → 1 ≤ y → -1000 ≤ x → x ≤ 1000 → -1001 ≤ x / y ∧ x / y ≤ 1000 := fun x y _ h1 h2 h3 => by
   have e1 := Int.ediv_mul_le x (show y ≠ 0 by omega)
   have e2 := Int.lt_ediv_add_one_mul_self x (show (0 : Int) < y by omega)
   constructor
   ·rcases Int.lt_or_le (x / y) (-1001) with h | h
    ·exfalso
     have : (x / y + 1) * y ≤ (x / y + 1) * 1 := Int.mul_le_mul_of_nonpos_left (by omega) (by omega)
     omega
    exact h
   rcases Int.lt_or_le 1000 (x / y) with h | h
   ·exfalso
    have : (x / y) * 1 ≤ (x / y) * y := Int.mul_le_mul_of_nonneg_left (by omega) (by omega)
    omega
   exact h
  unfold outS
  split
  ·exact ⟨by constructor <;> simp only <;> omega, by constructor <;> simp only <;> omega, by constructor <;> simp only <;> omega⟩
  split
  ·exact ⟨by constructor <;> simp only <;> omega, by constructor <;> simp only <;> omega, by constructor <;> simp only <;> omega⟩
  split
  ·rename_i hw
   have hwn := fld_win hfo hw
   have d1 := hdiv (s.h + 2 * L.ph - L.kh) L.sh hw (by omega) (by omega) (by omega)
   have d2 := hdiv (s.w + 2 * L.pw - L.kw) L.sw hw (by omega) (by omega) (by omega)
   refine ⟨?_, by constructor <;> simp only <;> omega, by constructor <;> simp only <;> omega⟩
   simp only
   split
   ·constructor <;> omega
   exact hhc
  exact hs
 refine gc_seq fun K24 hK24 => gc_seq fun K25 hK25 => gc_region (Zg 3 Tryz.underlying27 el27 hS rfl (gl_callf rfl rfl rfl rfl Tryz.func21 rfl rfl rfl (mSize_calls (outS L s) _ hso) ?_))
 rintro _ w94 ⟨rfl, hb94⟩
 refine ⟨_, rfl, ?_⟩
 have hS := hS.grown hb94
 refine Zp rfl (Zp rfl (Zp rfl (Zp rfl (Zp rfl (gl_nil (hK25 _ _ (gc_seq fun K26 hK26 => gc_region (Zp rfl (Zp rfl (gl_nil (hK26 _ _ (gc_cond rfl rfl (fun c98 => ?_) (fun c98 => ?_)))))))))))))
 ·simp only [NN, reduceCtorEq] at c98
  refine gc_seq fun K27 hK27 => gc_region (gl_op rfl rfl rfl (op_buildG rfl plan27 rfl rfl) ?_)
  refine Zp rfl (gl_storeM 2 hS el27 rfl rfl rfl rfl rfl rfl rfl rfl rfl fun w_112 hS => ?_)
  refine Zp rfl (gl_nil (hK27 _ _ (gc_ret ?_)))
  simp only [XR]
  refine gk_res2 rfl (⟨_, rfl, run_loadVarB 2 Tryz.underlying27 rfl el27 hS rfl rfl rfl⟩) (rfl) ?_
  refine ⟨?_, hS.below⟩
  have hb := sizeV_bad c98
  unfold outV
  rw [if_neg (by rw [c17]; simp), if_neg hsz.1, if_neg hnw, if_neg hn6, if_pos hb.1, hb.2]
  rfl
 simp only [NN, reduceCtorEq] at c98
 refine gc_skip (hK24 _ _ (gc_seq fun K28 hK28 => gc_region (Zg 3 Tryz.underlying27 el27 hS rfl (gl_storeM 2 hS el27 rfl rfl rfl rfl rfl rfl rfl rfl rfl fun w_114 hS => ?_))))
 refine Zp rfl (gl_nil (hK28 _ _ (gc_ret (gk_res2 rfl (⟨_, rfl, run_loadVarB 2 Tryz.underlying27 rfl el27 hS rfl rfl rfl⟩) (rfl) ?_))))
 refine ⟨?_, hS.below⟩
 have hb := sizeV_ok c98
 unfold outV
 rw [if_neg (by rw [c17]; simp), if_neg hsz.1, if_neg hnw, if_neg hn6, if_neg hb.1]
 rfl
theorem outV_ok {L : Ly} {s : Sh} (h : (outV L s).2 = 0) : fieldsV L = 0 ∧ ¬ szBad s ∧ ¬ (winV L.k ∧ (s.h + 2 * L.ph - L.kh < 0 ∨ s.w + 2 * L.pw - L.kw < 0)) ∧ ¬ (L.k = 6 ∧ (s.c * s.h * s.w) % 2 = 1) ∧ ¬ szBad (outS L s) ∧ (outV L s).1 = outS L s := by
 unfold outV at h ⊢
 by_cases h1 : fieldsV L ≠ 0
 ·rw [if_pos h1] at h; exact absurd h h1
 rw [if_neg h1] at h ⊢
 by_cases h2 : szBad s
 ·rw [if_pos h2] at h; exact absurd h (by decide)
 rw [if_neg h2] at h ⊢
 by_cases h3 : winV L.k ∧ (s.h + 2 * L.ph - L.kh < 0 ∨ s.w + 2 * L.pw - L.kw < 0)
 ·rw [if_pos h3] at h; exact absurd h (by decide)
 rw [if_neg h3] at h ⊢
 by_cases h4 : L.k = 6 ∧ (s.c * s.h * s.w) % 2 = 1
 ·rw [if_pos h4] at h; exact absurd h (by decide)
 rw [if_neg h4] at h ⊢
 by_cases h5 : szBad (outS L s)
 ·rw [if_pos h5] at h; exact absurd h (by decide)
 rw [if_neg h5] at h ⊢
 exact ⟨by simpa using h1, h2, h3, h4, h5, rfl⟩
set_option maxHeartbeats 2000000 in
set_option maxRecDepth 100000 in
theorem mLists_calls (L : Ly) (s : Sh) (w : World) (hL : L.ok) (hs : s.ok) : Calls Tryz.prog 51 ⟨[.agg ⟨lyC L⟩, .agg ⟨shC s⟩]⟩ w fun e w' => e = .returned (.tuple #[.int .i64 (listsV L s).1.1, .int .i64 (listsV L s).1.2.1, .int .i64 (listsV L s).1.2.2.1, .int .i64 (listsV L s).1.2.2.2, .int .i64 (listsV L s).2]) ∧ Below w.heap.size w w' := by
 refine gc_enter (N := 69) Tryz.func51 rfl rfl rfl [(0, _), (1, _)] rfl ?_
 have hS := St.start w
 refine gc_seq fun K1 hK1 => gc_region (gl_box hS rfl rfl rfl rfl rfl fun g2 w2 hS => ?_)
 refine gl_box hS rfl rfl rfl rfl rfl fun g3 w3 hS => ?_
 refine Zp rfl (Zp rfl (Zp rfl (Zp rfl (Zp rfl (gl_nil (hK1 _ _ (gc_seq fun K2 hK2 => gc_seq fun K3 hK3 => gc_region (Zg 0 Tryz.underlying48 el48 hS rfl (Zg 1 Tryz.underlying27 el27 hS rfl (gl_callf rfl rfl rfl rfl Tryz.func50 rfl rfl rfl (mOut_calls L s _ hL hs) ?_))))))))))
 rintro _ w14 ⟨rfl, hb14⟩
 refine ⟨_, rfl, ?_⟩
 have hS := hS.grown hb14
 refine Zp rfl (Zp rfl (Zp rfl (Zp rfl (gl_nil (hK3 _ _ (gc_seq fun K4 hK4 => gc_region (Zp rfl (Zp rfl (gl_nil (hK4 _ _ (gc_cond rfl rfl (fun c18 => ?_) (fun c18 => ?_))))))))))))
 ·simp only [NN, reduceCtorEq] at c18
  refine gc_seq fun K5 hK5 => gc_region (Zp rfl (Zp rfl (Zp rfl (Zp rfl (Zp rfl (Zp rfl (gl_nil (hK5 _ _ (gc_ret ?_)))))))))
  simp only [XR]
  refine gk_ret5 rfl rfl rfl rfl rfl rfl ?_
  refine ⟨?_, hS.below⟩
  unfold listsV
  rw [if_pos c18]
  rfl
 simp only [NN, reduceCtorEq] at c18
 obtain ⟨hf, hsz, _⟩ := outV_ok c18
 obtain ⟨_, _, hfo⟩ := fv_zero hf
 have hgs := sz_good hsz
 have hout := fld_out hfo
 have hl0 : listsV L s = (lensV L s, 0) := by unfold listsV; rw [if_neg (by simpa using c18)]
 refine gc_skip (hK2 _ _ (gc_seq fun K6 hK6 => gc_region (Zg 1 Tryz.underlying27 el27 hS rfl (gl_callf rfl rfl rfl rfl Tryz.func21 rfl rfl rfl (mSize_calls s _ hs) ?_))))
 rintro _ w22 ⟨rfl, hb22⟩
 refine ⟨_, rfl, ?_⟩
 have hS := hS.grown hb22
 refine Zp rfl (Zp rfl (gl_spell 23 (v := .int .i64 (s.c * s.h * s.w)) rfl (by show Value.int .i64 (sizeV s).1 = _; unfold sizeV; rw [if_neg hsz]) ?_))
 refine Zp rfl (Zp rfl (Zp rfl (gl_nil (hK6 _ _ (gc_cut (fun a' w' => Fr 69 a' [(4, .int .i64 (lensV L s).1), (5, .int .i64 (lensV L s).2.1), (6, .int .i64 (lensV L s).2.2.1), (7, .int .i64 (lensV L s).2.2.2)] ∧ St w.heap.size w w' [.blk g2 48 (lyC L), .blk g3 27 (shC s)]) ?_ ?_)))))
 ·refine gc_seq fun K7 hK7 => gc_region (Zf 0 Tryz.underlying48 rfl el3 (Zb 0 hS rfl (gl_nil (hK7 _ _ (gc_block (gc_seq fun K8 hK8 => gc_region (Zp rfl (Zp rfl (gl_nil (hK8 _ _ (gc_cond rfl rfl (fun c27 => ?_) (fun c27 => ?_))))))))))))
  ·simp only [NN, reduceCtorEq] at c27
   have hm1 := mul_bd0 (a := L.out) (b := s.c * s.h * s.w) (A := 256) (B := 256) (by omega) (by omega) (by omega) (by omega)
   refine gc_anyS hS (by kernel_rfl) rfl fun nq7 hK => ?_
   have hS := hS.dr nq7
   refine Yf 0 1 Tryz.underlying48 rfl el3 (by kernel_rfl) (fun _ _ _ _ h => h) hK ?_
   refine Yb 1 0 rfl (by kernel_rfl) (fun _ _ _ _ h => h) hK ?_
   refine Yp 2 rfl (by kernel_rfl) (fun _ _ _ _ h => h) hK ?_
   refine Yi 3 rfl (by omega) (by kernel_rfl) (fun _ _ _ _ h => h) hK ?_
   refine Yf 4 1 Tryz.underlying48 rfl el3 (by kernel_rfl) (fun _ _ _ _ h => h) hK ?_
   refine Yb 5 0 rfl (by kernel_rfl) (fun _ _ _ _ h => h) hK ?_
   refine Yp 6 rfl (by kernel_rfl) (fun _ _ _ _ h => h) hK ?_
   refine Yp 7 rfl (by kernel_rfl) (fun _ _ _ _ h => h) hK ?_
   refine ga_done (by kernel_rfl) ?_
   intro a' ha
   refine ⟨?_, hS⟩
   rw [show lensV L s = (L.out * (s.c * s.h * s.w), L.out, 0, 0) by unfold lensV; rw [if_pos (by omega)]]; exact ha.sub ⟨rfl, rfl, rfl, rfl, trivial⟩
  simp only [NN, reduceCtorEq] at c27
  refine gc_seq fun K9 hK9 => gc_region (Zp rfl (Zp rfl (gl_nil (hK9 _ _ (gc_cond rfl rfl (fun c35 => ?_) (fun c35 => ?_))))))
  ·simp only [NN, reduceCtorEq] at c35
   have hwn := fld_win hfo (.inl c35)
   have hm1 := mul_bd0 (a := L.out) (b := s.c) (A := 256) (B := 256) (by omega) (by omega) (by omega) (by omega)
   have hm2 := mul_bd0 (a := L.out * s.c) (b := L.kh) (A := 65536) (B := 16) (by omega) (by omega) (by omega) (by omega)
   have hm3 := mul_bd0 (a := L.out * s.c * L.kh) (b := L.kw) (A := 1048576) (B := 16) (by omega) (by omega) (by omega) (by omega)
   refine gc_anyS hS (by kernel_rfl) rfl fun nq9 hK => ?_
   have hS := hS.dr nq9
   refine Yf 0 1 Tryz.underlying48 rfl el3 (by kernel_rfl) (fun _ _ _ _ h => h) hK ?_
   refine Yb 1 0 rfl (by kernel_rfl) (fun _ _ _ _ h => h) hK ?_
   refine Yf 2 0 Tryz.underlying27 rfl el3 (by kernel_rfl) (fun _ _ _ _ h => h) hK ?_
   refine Yb 3 1 rfl (by kernel_rfl) (fun _ _ _ _ h => h) hK ?_
   refine Yi 4 rfl (by omega) (by kernel_rfl) (fun _ _ _ _ h => h) hK ?_
   refine Yf 5 2 Tryz.underlying48 rfl el3 (by kernel_rfl) (fun _ _ _ _ h => h) hK ?_
   refine Yb 6 0 rfl (by kernel_rfl) (fun _ _ _ _ h => h) hK ?_
   refine Yi 7 rfl (by omega) (by kernel_rfl) (fun _ _ _ _ h => h) hK ?_
   refine Yf 8 3 Tryz.underlying48 rfl el3 (by kernel_rfl) (fun _ _ _ _ h => h) hK ?_
   refine Yb 9 0 rfl (by kernel_rfl) (fun _ _ _ _ h => h) hK ?_
   refine Yi 10 rfl (by omega) (by kernel_rfl) (fun _ _ _ _ h => h) hK ?_
   refine Yf 11 1 Tryz.underlying48 rfl el3 (by kernel_rfl) (fun _ _ _ _ h => h) hK ?_
   refine Yb 12 0 rfl (by kernel_rfl) (fun _ _ _ _ h => h) hK ?_
   refine Yp 13 rfl (by kernel_rfl) (fun _ _ _ _ h => h) hK ?_
   refine Yp 14 rfl (by kernel_rfl) (fun _ _ _ _ h => h) hK ?_
   refine ga_done (by kernel_rfl) ?_
   intro a' ha
   refine ⟨?_, hS⟩
   rw [show lensV L s = (L.out * s.c * L.kh * L.kw, L.out, 0, 0) by unfold lensV; rw [if_neg (by omega), if_pos (by omega)]]; exact ha.sub ⟨rfl, rfl, rfl, rfl, trivial⟩
  simp only [NN, reduceCtorEq] at c35
  refine gc_seq fun K10 hK10 => gc_region (Zp rfl (Zp rfl (gl_nil (hK10 _ _ (gc_cond rfl rfl (fun c50 => ?_) (fun c50 => ?_))))))
  ·simp only [NN, reduceCtorEq] at c50
   refine gc_anyS hS (by kernel_rfl) rfl fun nq11 hK => ?_
   have hS := hS.dr nq11
   refine Yf 0 0 Tryz.underlying27 rfl el3 (by kernel_rfl) (fun _ _ _ _ h => h) hK ?_
   refine Yb 1 1 rfl (by kernel_rfl) (fun _ _ _ _ h => h) hK ?_
   refine Yf 2 0 Tryz.underlying27 rfl el3 (by kernel_rfl) (fun _ _ _ _ h => h) hK ?_
   refine Yb 3 1 rfl (by kernel_rfl) (fun _ _ _ _ h => h) hK ?_
   refine Yp 4 rfl (by kernel_rfl) (fun _ _ _ _ h => h) hK ?_
   refine Yp 5 rfl (by kernel_rfl) (fun _ _ _ _ h => h) hK ?_
   refine ga_done (by kernel_rfl) ?_
   intro a' ha
   refine ⟨?_, hS⟩
   rw [show lensV L s = (s.c, s.c, 0, 0) by unfold lensV; rw [if_neg (by omega), if_neg (by omega), if_pos (by omega)]]; exact ha.sub ⟨rfl, rfl, rfl, rfl, trivial⟩
  simp only [NN, reduceCtorEq] at c50
  refine gc_seq fun K11 hK11 => gc_region (Zp rfl (Zp rfl (gl_nil (hK11 _ _ (gc_cond rfl rfl (fun c56 => ?_) (fun c56 => ?_))))))
  ·simp only [NN, reduceCtorEq] at c56
   have hm1 := mul_bd0 (a := L.out) (b := s.c * s.h * s.w) (A := 256) (B := 256) (by omega) (by omega) (by omega) (by omega)
   refine gc_anyS hS (by kernel_rfl) rfl fun nq13 hK => ?_
   have hS := hS.dr nq13
   refine Yf 0 1 Tryz.underlying48 rfl el3 (by kernel_rfl) (fun _ _ _ _ h => h) hK ?_
   refine Yb 1 0 rfl (by kernel_rfl) (fun _ _ _ _ h => h) hK ?_
   refine Yp 2 rfl (by kernel_rfl) (fun _ _ _ _ h => h) hK ?_
   refine Yi 3 rfl (by omega) (by kernel_rfl) (fun _ _ _ _ h => h) hK ?_
   refine ga_take 4 rfl rfl rfl rfl (by kernel_rfl) (fun _ _ _ _ h => h) hK (fun w1 hS => (by first | exact op_quo hT rfl (by omega) (by omega) | exact op_pure hT rfl | exact op_quoS rfl rfl rfl (by omega) (by omega))) ?_
   refine Yf 5 1 Tryz.underlying48 rfl el3 (by kernel_rfl) (fun _ _ _ _ h => h) hK ?_
   refine Yb 6 0 rfl (by kernel_rfl) (fun _ _ _ _ h => h) hK ?_
   refine Yp 7 rfl (by kernel_rfl) (fun _ _ _ _ h => h) hK ?_
   refine Yp 8 rfl (by kernel_rfl) (fun _ _ _ _ h => h) hK ?_
   refine ga_done (by kernel_rfl) ?_
   intro a' ha
   refine ⟨?_, hS⟩
   rw [show lensV L s = (0, 0, L.out * (s.c * s.h * s.w) / 2, L.out) by unfold lensV; rw [if_neg (by omega), if_neg (by omega), if_neg (by omega), if_pos (by omega)]]; exact ha.sub ⟨rfl, rfl, rfl, rfl, trivial⟩
  simp only [NN, reduceCtorEq] at c56
  refine gc_skip ?_
  intro a' ha
  refine ⟨?_, hS⟩
  rw [show lensV L s = (0, 0, 0, 0) by unfold lensV; rw [if_neg (by omega), if_neg (by omega), if_neg (by omega), if_neg (by omega)]]; exact ha.sub ⟨rfl, rfl, rfl, rfl, trivial⟩
 rintro a' w1 ⟨hF, hS⟩
 refine gc_of hF ?_
 clear hF
 refine gc_seq fun K12 hK12 => gc_region (Zp rfl (Zp rfl (Zp rfl (Zp rfl (Zp rfl (Zp rfl (Zp rfl (Zp rfl (Zp rfl (gl_nil (hK12 _ _ (gc_ret (gk_ret5 rfl rfl rfl rfl rfl rfl ?_)))))))))))))
 exact ⟨by rw [hl0], hS.below⟩
end Go.Proofs.YtnomlloaahoceaaGreatDoor
