/- Contracts of functions that CodeNetBytes reaches, and words to say them. No condition. -/
import Derived.Test.YtnomlloaahoceaaGreatDoorZ34
import Derived.Test.YtnomlloaahoceaaGreatDoorZ03
/- Contracts: started. No condition. -/
namespace Go.Proofs.YtnomlloaahoceaaGreatDoor
open Go.RowKit
set_option linter.unusedVariables false
set_option linter.unusedSimpArgs false
set_option maxHeartbeats 40000000 in
set_option maxRecDepth 100000 in
theorem started8_calls (w : World) : Calls Tryz.prog 5 ⟨[]⟩ w fun e w' => e = .returned (.bool true) ∧ Below w.heap.size w w' := by
 obtain ⟨lq, hlq⟩ : ∃ l, l = exPv (crcV exPb) := ⟨_, rfl⟩
 refine gc_enter (N := 127) Tryz.func5 rfl rfl rfl [] rfl ?_
 have hS := St.start w
 refine gc_seq fun K1 hK1 => gc_region (Zp rfl (gl_nil (hK1 _ _ (gc_seq fun K2 hK2 => gc_region (gl_op rfl rfl rfl (op_buildG rfl plan27 rfl rfl) ?_)))))
 refine gl_op rfl rfl rfl (op_buildG rfl plan48 rfl rfl) ?_
 refine gl_litS hT hS el48 rfl rfl rfl rfl rfl rfl rfl (by decide) fun g21 w21 hS => ?_
 refine gl_op rfl rfl rfl (op_buildG rfl plan31 rfl rfl) ?_
 refine gl_alloc el31 hS rfl rfl rfl rfl fun g1 w1 hS => ?_
 refine gl_storeM 1 hS el31 rfl rfl rfl rfl rfl rfl rfl rfl rfl fun w_124 hS => ?_
 refine gl_nil (hK2 _ _ (gc_seq fun K3 hK3 => gc_region (gl_lit hT hS el5 rfl rfl rfl rfl rfl rfl rfl rfl rfl fun g23 w23 hS => ?_)))
 refine Zp rfl (gl_nil (hK3 _ _ (gc_seq fun K4 hK4 => gc_region (Zg 1 Tryz.underlying31 el31 hS rfl ?_))))
 have hrd : RdS _ All lxC 14 (some ⟨g21, 0, none⟩) [exL] := ⟨hS.rd (i := 0) rfl, fun _ => rfl⟩
 refine gl_callf rfl rfl rfl rfl Tryz.func13 rfl rfl rfl (encodeNet1_calls _ 1 _ hrd) ?_
 rintro _ w26 ⟨A, c, rfl, h26⟩
 refine ⟨_, rfl, ?_⟩
 have hS := hS.more h26
 have hc := (hS.cap (i := 3) rfl).1
 refine Zp rfl (Zp rfl (Zp rfl (Zp rfl (Zp rfl (Zp rfl (Zp rfl (gl_nil (hK4 _ _ (gc_seq fun K5 hK5 => gc_region (Zp rfl (gl_callf rfl rfl rfl rfl Tryz.func7 rfl rfl rfl (decodeNetEx_calls A c _ (rdE_of (l := exB) (hS.rd (i := 3) rfl) rfl) hc) ?_)))))))))))
 rintro _ w32 ⟨AL, cL, W, B', rfl, h32⟩
 refine ⟨_, rfl, ?_⟩
 have hS := hS.more h32
 refine Zp rfl (Zp rfl (Zp rfl (Zp rfl (gl_alloc el31 hS rfl rfl rfl rfl fun g6 w6 hS => ?_))))
 refine gl_storeM 5 hS el31 rfl rfl rfl rfl rfl rfl rfl rfl rfl fun w_127 hS => ?_
 refine Zp rfl (Zp rfl (gl_nil (hK5 _ _ (gc_seq fun K6 hK6 => gc_region (gl_callf rfl rfl rfl rfl Tryz.func7 rfl rfl rfl (decodeNet0_calls _) ?_)))))
 rintro _ w37 ⟨rfl, hb37⟩
 refine ⟨_, rfl, ?_⟩
 have hS := hS.grown hb37
 refine Zp rfl (Zp rfl (Zp rfl (Zp rfl (gl_alloc el31 hS rfl rfl rfl rfl fun g9 w9 hS => ?_))))
 refine gl_storeM 6 hS el31 rfl rfl rfl rfl rfl rfl rfl rfl rfl fun w_128 hS => ?_
 refine Zp rfl (Zp rfl (gl_nil (hK6 _ _ (gc_seq fun K7 hK7 => gc_region (gl_lit hT hS el44 rfl rfl rfl rfl rfl rfl rfl rfl rfl fun g41 w41 hS => ?_)))))
 refine gl_op rfl rfl rfl (op_buildG rfl plan53 rfl rfl) ?_
 refine gl_alloc el53 hS rfl rfl rfl rfl fun g12 w12 hS => ?_
 refine gl_storeM 8 hS el53 rfl rfl rfl rfl rfl rfl rfl rfl rfl fun w_129 hS => ?_
 refine gl_nil (hK7 _ _ (gc_seq fun K8 hK8 => gc_region (Zg 8 Tryz.underlying53 el53 hS rfl ?_)))
 have hPM : PrM _ All (some ⟨g41, 0, none⟩, 1, 1) (none, 0, 0) (none, 0, 0) [] [] exP :=
  ⟨rdE_of (l := [0]) (hS.rd (i := 7) rfl) rfl, rfl, by decide, by decide, ⟨nilRd, rfl, by simp⟩, rfl, by decide, ⟨nilRd, rfl, by simp⟩, rfl, by decide, i64_0, by decide, i64_0, by decide⟩
 refine gl_callf rfl rfl rfl rfl Tryz.func14 rfl rfl rfl (exEncodeProp lq hlq (some ⟨g41, 0, none⟩, 1, 1) (none, 0, 0) (none, 0, 0) [] [] _ hPM) ?_
 rintro _ w45 ⟨A2, c2, rfl, h45⟩
 refine ⟨_, rfl, ?_⟩
 have hS := hS.more h45
 have hc2 := (hS.cap (i := 9) rfl).1
 refine Zp rfl (Zp rfl (Zp rfl (Zp rfl (Zp rfl (Zp rfl (Zp rfl (gl_nil (hK8 _ _ (gc_seq fun K9 hK9 => gc_region (Zp rfl (gl_callf rfl rfl rfl rfl Tryz.func15 rfl rfl rfl (exDecodeProp lq hlq A2 c2 _ (rdE_of (hS.rd (i := 9) rfl) (exLen hlq)) hc2) ?_)))))))))))
 rintro _ w51 ⟨C, G, M, K, p, rfl, h51, hCn, hpS⟩
 refine ⟨_, rfl, ?_⟩
 have hS := hS.more h51
 refine Zp rfl (Zp rfl (Zp rfl (Zp rfl (gl_alloc el53 hS rfl rfl rfl rfl fun g16 w16 hS => ?_))))
 refine gl_storeM 11 hS el53 rfl rfl rfl rfl rfl rfl rfl rfl rfl fun w_131 hS => ?_
 refine Zp rfl (Zp rfl (gl_nil (hK9 _ _ (gc_seq fun K10 hK10 => gc_region (Zp rfl (gl_callf rfl rfl rfl rfl Tryz.func9 rfl rfl rfl (num8_calls 0 _) ?_))))))
 rintro _ _ ⟨rfl, n56, rfl⟩
 refine ⟨_, rfl, ?_⟩
 have hS := hS.dr n56
 refine Zp rfl (Zp rfl (Zu rfl (Zp rfl (Zu rfl (Zp rfl (Zp rfl (Zp rfl (Zu rfl (Zp rfl (Zu rfl (Zp rfl (Zu rfl (Zp rfl (Zu rfl (Zp rfl (Zu rfl (Zi rfl (by omega) ?_)))))))))))))))))
 refine Zu rfl (Zp rfl (Zp rfl (Zp rfl (Zu rfl (Zp rfl (Zu rfl (Zp rfl (Zu rfl (Zp rfl (Zu rfl (gl_op rfl rfl rfl (op_slice_h hT el5 rfl rfl rfl rfl (by first | omega | (simp; omega)) (by first | omega | (simp; omega))) ?_)))))))))))
 refine Zu rfl (Zp rfl (Zu rfl ?_))
 have h3 := hS.rd (i := 3) rfl
 rw [exBm] at h3
 have hA : RdE _ All uB A exW := rdE_of (Rd.pre (m := 19) h3 exW19 (by decide)) exW19'
 have hB : RdE _ All uB (some ⟨g23, 0, none⟩) exW := rdE_of (n := 19) (by rw [exWm]; exact hS.rd (i := 2) rfl) rfl
 refine gl_callf rfl rfl rfl rfl Tryz.func16 rfl rfl rfl (same8_calls A (some ⟨g23, 0, none⟩) 19 c 19 19 exW exW _ hA rfl hB rfl rfl) ?_
 rintro _ w76 ⟨rfl, hb76⟩
 refine ⟨_, rfl, ?_⟩
 have hS := hS.eqv hb76
 refine Zp rfl (Zp rfl (Zu rfl (Zp rfl (Zu rfl (gl_callf rfl rfl rfl rfl Tryz.func9 rfl rfl rfl (num8_calls 0 _) ?_)))))
 rintro _ _ ⟨rfl, n80, rfl⟩
 refine ⟨_, rfl, ?_⟩
 have hS := hS.dr n80
 refine Zu rfl (Zp rfl (Zp rfl (Zp rfl (Zu rfl (Zf 3 Tryz.underlying31 rfl el28 (Zu rfl (Zb 5 hS rfl (Zu rfl (Zp rfl (Zu rfl (Zp rfl (Zp rfl (Zp rfl (Zu rfl (Zf 3 Tryz.underlying31 rfl el28 (Zu rfl (Zb 5 hS rfl (Zu rfl ?_))))))))))))))))))
 obtain ⟨adx, hAx, hcx⟩ := RdS.at (⟨hS.rd (i := 4) rfl, fun _ => rfl⟩ : RdS _ All lyC 14 AL [⟨8, 0, 0, 0, 0, 0, 0, 0, 0, exA, W, B', (none, 0, 0), (none, 0, 0)⟩]) (i := 0) rfl
 refine gl_op rfl rfl rfl (op_indexAddr hT rfl rfl el48.cellsOf.1 el48.cellsOf.2 rfl rfl (by decide) (by decide) hAx) ?_
 refine Zu rfl (gl_op rfl rfl rfl (op_fieldAddr rfl Tryz.underlying48 rfl el44 (by decide) rfl) ?_)
 refine Zu rfl (gl_op rfl rfl rfl (op_load hT rfl rfl rfl rfl (hcx 9 _ rfl)) ?_)
 refine Zu rfl (gl_op rfl rfl rfl (op_fcmp rfl rfl rfl rfl) ?_)
 refine gl_spell 95 (v := .bool true) rfl (congrArg Value.bool exHalf) ?_
 refine Zp rfl (Zp rfl (Zu rfl (Zp rfl (Zu rfl (gl_callf rfl rfl rfl rfl Tryz.func9 rfl rfl rfl (num8_calls 80 _) ?_)))))
 rintro _ _ ⟨rfl, n99, rfl⟩
 refine ⟨_, rfl, ?_⟩
 have hS := hS.dr n99
 refine Zu rfl (Zp rfl (Zp rfl (Zp rfl (Zu rfl (Zp rfl (Zu rfl (Zp rfl (Zp rfl (Zp rfl (Zu rfl (Zp rfl (Zu rfl (gl_callf rfl rfl rfl rfl Tryz.func9 rfl rfl rfl (num8_calls 0 _) ?_)))))))))))))
 rintro _ _ ⟨rfl, n108, rfl⟩
 refine ⟨_, rfl, ?_⟩
 have hS := hS.dr n108
 refine Zu rfl (Zp rfl (Zp rfl (Zp rfl (Zu rfl (Zp rfl (Zu rfl (gl_callf rfl rfl rfl rfl Tryz.func9 rfl rfl rfl (num8_calls 0 _) ?_)))))))
 rintro _ _ ⟨rfl, n113, rfl⟩
 refine ⟨_, rfl, ?_⟩
 have hS := hS.dr n113
 refine Zu rfl (Zp rfl (Zp rfl (Zp rfl (Zu rfl (Zf 0 Tryz.underlying53 rfl el45 (Zu rfl (Zb 11 hS rfl (Zu rfl (Zp rfl (gl_spell 119 (v := .int .i64 1) rfl (by rw [hCn]; rfl) ?_))))))))))
 refine Zu rfl (Zp rfl (Zp rfl (Zp rfl (Zu rfl (Zf 6 Tryz.underlying53 rfl el3 (Zu rfl (Zb 11 hS rfl (gl_spell 124 (v := .int .i64 1) rfl (by rw [← hpS]) ?_))))))))
 refine Zu rfl (Zp rfl (Zp rfl (Zp rfl (gl_nil (hK10 _ _ (gc_ret ?_))))))
 simp only [XR]
 refine gk_ret1 rfl rfl ?_
 exact ⟨rfl, hS.below⟩
end Go.Proofs.YtnomlloaahoceaaGreatDoor
