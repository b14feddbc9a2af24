/- Contracts of functions that CodeProps reaches, and words to say them. No condition. -/
import Derived.Test.YtnomlloaahoceaaDoorZ32
/- Contracts: started. No condition. -/
namespace Go.Proofs.YtnomlloaahoceaaDoor
open Go.RowKit
set_option linter.unusedVariables false
set_option linter.unusedSimpArgs false
set_option maxHeartbeats 40000000 in
set_option maxRecDepth 100000 in
theorem started8_calls (w : World) : Calls Tryd.prog 12 ⟨[]⟩ w fun e w' => e = .returned (.bool true) ∧ Below w.heap.size w w' := by
  obtain ⟨lq, hlq⟩ : ∃ l, l = exPv (crcV exPb) := ⟨_, rfl⟩
  refine gc_enter (N := 127) Tryd.func12 rfl rfl rfl [] rfl ?_
  have hS := St.start w
  refine gc_seq fun K1 hK1 => ?_
  refine gc_region ?_
  refine gl_op rfl rfl rfl (op_pure hT rfl) ?_
  refine gl_nil ?_
  refine hK1 _ _ ?_
  clear hK1; try clear K1
  refine gc_seq fun K2 hK2 => ?_
  refine gc_region ?_
  refine gl_op rfl rfl rfl (op_buildG rfl plan61 rfl rfl) ?_
  refine gl_op rfl rfl rfl (op_buildG rfl plan65 rfl rfl) ?_
  refine gl_litS hT hS el65 rfl rfl rfl rfl rfl rfl rfl (by decide) fun g21 w21 hS => ?_
  refine gl_op rfl rfl rfl (op_buildG rfl plan69 rfl rfl) ?_
  refine gl_alloc el69 hS rfl rfl rfl rfl fun g1 w1 hS => ?_
  refine gl_storeM 1 hS el69 rfl rfl rfl rfl rfl rfl rfl rfl rfl fun wlaw_go_124 hS => ?_
  refine gl_nil ?_
  refine hK2 _ _ ?_
  clear hK2; try clear K2
  refine gc_seq fun K3 hK3 => ?_
  refine gc_region ?_
  refine gl_lit hT hS el5 rfl rfl rfl rfl rfl rfl rfl rfl rfl fun g23 w23 hS => ?_
  refine gl_op rfl rfl rfl (op_pure hT rfl) ?_
  refine gl_nil ?_
  refine hK3 _ _ ?_
  clear hK3; try clear K3
  refine gc_seq fun K4 hK4 => ?_
  refine gc_region ?_
  refine gl_op rfl rfl rfl (op_loadG 1 Tryd.underlying69 rfl el69 hS rfl rfl rfl rfl rfl) ?_
  have hrd : RdS _ All lxC 14 (some ⟨g21, 0, none⟩) [exL] := ⟨hS.rd (i := 0) rfl, fun _ => rfl⟩
  refine gl_callf rfl rfl rfl rfl Tryd.func26 rfl rfl rfl (encodeNet1_calls _ 1 _ hrd) ?_
  rintro _ w26 ⟨A, c, rfl, h26⟩
  refine ⟨_, rfl, ?_⟩
  have hS := hS.more h26
  have hc := (hS.cap (i := 3) rfl).1
  refine gl_op rfl rfl rfl (op_pure hT rfl) ?_
  refine gl_op rfl rfl rfl (op_pure hT rfl) ?_
  refine gl_op rfl rfl rfl (op_pure hT rfl) ?_
  refine gl_op rfl rfl rfl (op_pure hT rfl) ?_
  refine gl_op rfl rfl rfl (op_pure hT rfl) ?_
  refine gl_op rfl rfl rfl (op_pure hT rfl) ?_
  refine gl_op rfl rfl rfl (op_pure hT rfl) ?_
  refine gl_nil ?_
  refine hK4 _ _ ?_
  clear hK4; try clear K4
  refine gc_seq fun K5 hK5 => ?_
  refine gc_region ?_
  refine gl_op rfl rfl rfl (op_pure hT rfl) ?_
  refine gl_callf rfl rfl rfl rfl Tryd.func27 rfl rfl rfl (decodeNetEx_calls A c _ (rdE_of (l := exB) (hS.rd (i := 3) rfl) rfl) hc) ?_
  rintro _ w32 ⟨AL, cL, W, B', rfl, h32⟩
  refine ⟨_, rfl, ?_⟩
  have hS := hS.more h32
  refine gl_op rfl rfl rfl (op_pure hT rfl) ?_
  refine gl_op rfl rfl rfl (op_pure hT rfl) ?_
  refine gl_op rfl rfl rfl (op_pure hT rfl) ?_
  refine gl_op rfl rfl rfl (op_pure hT rfl) ?_
  refine gl_alloc el69 hS rfl rfl rfl rfl fun g6 w6 hS => ?_
  refine gl_storeM 5 hS el69 rfl rfl rfl rfl rfl rfl rfl rfl rfl fun wlaw_go_127 hS => ?_
  refine gl_op rfl rfl rfl (op_pure hT rfl) ?_
  refine gl_op rfl rfl rfl (op_pure hT rfl) ?_
  refine gl_nil ?_
  refine hK5 _ _ ?_
  clear hK5; try clear K5
  refine gc_seq fun K6 hK6 => ?_
  refine gc_region ?_
  refine gl_callf rfl rfl rfl rfl Tryd.func27 rfl rfl rfl (decodeNet0_calls _) ?_
  rintro _ w37 ⟨rfl, hb37⟩
  refine ⟨_, rfl, ?_⟩
  have hS := hS.grown hb37
  refine gl_op rfl rfl rfl (op_pure hT rfl) ?_
  refine gl_op rfl rfl rfl (op_pure hT rfl) ?_
  refine gl_op rfl rfl rfl (op_pure hT rfl) ?_
  refine gl_op rfl rfl rfl (op_pure hT rfl) ?_
  refine gl_alloc el69 hS rfl rfl rfl rfl fun g9 w9 hS => ?_
  refine gl_storeM 6 hS el69 rfl rfl rfl rfl rfl rfl rfl rfl rfl fun wlaw_go_128 hS => ?_
  refine gl_op rfl rfl rfl (op_pure hT rfl) ?_
  refine gl_op rfl rfl rfl (op_pure hT rfl) ?_
  refine gl_nil ?_
  refine hK6 _ _ ?_
  clear hK6; try clear K6
  refine gc_seq fun K7 hK7 => ?_
  refine gc_region ?_
  refine gl_lit hT hS el62 rfl rfl rfl rfl rfl rfl rfl rfl rfl fun g41 w41 hS => ?_
  refine gl_op rfl rfl rfl (op_buildG rfl plan25 rfl rfl) ?_
  refine gl_alloc el25 hS rfl rfl rfl rfl fun g12 w12 hS => ?_
  refine gl_storeM 8 hS el25 rfl rfl rfl rfl rfl rfl rfl rfl rfl fun wlaw_go_129 hS => ?_
  refine gl_nil ?_
  refine hK7 _ _ ?_
  clear hK7; try clear K7
  refine gc_seq fun K8 hK8 => ?_
  refine gc_region ?_
  refine gl_op rfl rfl rfl (op_loadG 8 Tryd.underlying25 rfl el25 hS rfl rfl rfl rfl rfl) ?_
  have hPM : PrM _ All (some ⟨g41, 0, none⟩, 1, 1) (none, 0, 0) (none, 0, 0) [] [] exP :=
    ⟨rdE_of (l := [0]) (hS.rd (i := 7) rfl) rfl, rfl, by decide, by decide, ⟨nilRd, rfl, by simp⟩, rfl, by decide, ⟨nilRd, rfl, by simp⟩, rfl, by decide, i64_0, by decide, i64_0, by decide⟩
  refine gl_callf rfl rfl rfl rfl Tryd.func7 rfl rfl rfl (exEncodeProp lq hlq (some ⟨g41, 0, none⟩, 1, 1) (none, 0, 0) (none, 0, 0) [] [] _ hPM) ?_
  rintro _ w45 ⟨A2, c2, rfl, h45⟩
  refine ⟨_, rfl, ?_⟩
  have hS := hS.more h45
  have hc2 := (hS.cap (i := 9) rfl).1
  refine gl_op rfl rfl rfl (op_pure hT rfl) ?_
  refine gl_op rfl rfl rfl (op_pure hT rfl) ?_
  refine gl_op rfl rfl rfl (op_pure hT rfl) ?_
  refine gl_op rfl rfl rfl (op_pure hT rfl) ?_
  refine gl_op rfl rfl rfl (op_pure hT rfl) ?_
  refine gl_op rfl rfl rfl (op_pure hT rfl) ?_
  refine gl_op rfl rfl rfl (op_pure hT rfl) ?_
  refine gl_nil ?_
  refine hK8 _ _ ?_
  clear hK8; try clear K8
  refine gc_seq fun K9 hK9 => ?_
  refine gc_region ?_
  refine gl_op rfl rfl rfl (op_pure hT rfl) ?_
  refine gl_callf rfl rfl rfl rfl Tryd.func28 rfl rfl rfl (exDecodeProp lq hlq A2 c2 _ (rdE_of (hS.rd (i := 9) rfl) (exLen hlq)) hc2) ?_
  rintro _ w51 ⟨C, G, M, K, p, rfl, h51, hCn, hpS⟩
  refine ⟨_, rfl, ?_⟩
  have hS := hS.more h51
  refine gl_op rfl rfl rfl (op_pure hT rfl) ?_
  refine gl_op rfl rfl rfl (op_pure hT rfl) ?_
  refine gl_op rfl rfl rfl (op_pure hT rfl) ?_
  refine gl_op rfl rfl rfl (op_pure hT rfl) ?_
  refine gl_alloc el25 hS rfl rfl rfl rfl fun g16 w16 hS => ?_
  refine gl_storeM 11 hS el25 rfl rfl rfl rfl rfl rfl rfl rfl rfl fun wlaw_go_131 hS => ?_
  refine gl_op rfl rfl rfl (op_pure hT rfl) ?_
  refine gl_op rfl rfl rfl (op_pure hT rfl) ?_
  refine gl_nil ?_
  refine hK9 _ _ ?_
  clear hK9; try clear K9
  refine gc_seq fun K10 hK10 => ?_
  refine gc_region ?_
  refine gl_op rfl rfl rfl (op_pure hT rfl) ?_
  refine gl_callf rfl rfl rfl rfl Tryd.func9 rfl rfl rfl (num8_calls 0 _) ?_
  rintro _ _ ⟨rfl, n56, rfl⟩
  refine ⟨_, rfl, ?_⟩
  have hS := hS.dr n56
  refine gl_op rfl rfl rfl (op_pure hT rfl) ?_
  refine gl_op rfl rfl rfl (op_pure hT rfl) ?_
  refine gl_un rfl rfl rfl rfl ?_
  refine gl_op rfl rfl rfl (op_pure hT rfl) ?_
  refine gl_un rfl rfl rfl rfl ?_
  refine gl_op rfl rfl rfl (op_pure hT rfl) ?_
  refine gl_op rfl rfl rfl (op_pure hT rfl) ?_
  refine gl_op rfl rfl rfl (op_pure hT rfl) ?_
  refine gl_un rfl rfl rfl rfl ?_
  refine gl_op rfl rfl rfl (op_pure hT rfl) ?_
  refine gl_un rfl rfl rfl rfl ?_
  refine gl_op rfl rfl rfl (op_pure hT rfl) ?_
  refine gl_un rfl rfl rfl rfl ?_
  refine gl_op rfl rfl rfl (op_pure hT rfl) ?_
  refine gl_un rfl rfl rfl rfl ?_
  refine gl_op rfl rfl rfl (op_pure hT rfl) ?_
  refine gl_un rfl rfl rfl rfl ?_
  first | refine gl_fit hT rfl rfl rfl rfl (by omega) ?_ | refine gl_op rfl rfl rfl (op_pure hT rfl) ?_
  refine gl_un rfl rfl rfl rfl ?_
  refine gl_op rfl rfl rfl (op_pure hT rfl) ?_
  refine gl_op rfl rfl rfl (op_pure hT rfl) ?_
  refine gl_op rfl rfl rfl (op_pure hT rfl) ?_
  refine gl_un rfl rfl rfl rfl ?_
  refine gl_op rfl rfl rfl (op_pure hT rfl) ?_
  refine gl_un rfl rfl rfl rfl ?_
  refine gl_op rfl rfl rfl (op_pure hT rfl) ?_
  refine gl_un rfl rfl rfl rfl ?_
  refine gl_op rfl rfl rfl (op_pure hT rfl) ?_
  refine gl_un rfl rfl rfl rfl ?_
  refine gl_op rfl rfl rfl (op_slice_h hT el5 rfl rfl rfl rfl (by first | omega | (simp; omega)) (by first | omega | (simp; omega))) ?_
  refine gl_un rfl rfl rfl rfl ?_
  refine gl_op rfl rfl rfl (op_pure hT rfl) ?_
  refine gl_un rfl rfl rfl rfl ?_
  have h3 := hS.rd (i := 3) rfl
  rw [exBm] at h3
  have hA : RdE _ All uB A exW := rdE_of (Rd.pre (m := 19) h3 exW19 (by decide)) exW19'
  have hB : RdE _ All uB (some ⟨g23, 0, none⟩) exW := rdE_of (n := 19) (by rw [exWm]; exact hS.rd (i := 2) rfl) rfl
  refine gl_callf rfl rfl rfl rfl Tryd.func10 rfl rfl rfl (same8_calls A (some ⟨g23, 0, none⟩) 19 c 19 19 exW exW _ hA rfl hB rfl rfl) ?_
  rintro _ w76 ⟨rfl, hb76⟩
  refine ⟨_, rfl, ?_⟩
  have hS := hS.eqv hb76
  refine gl_op rfl rfl rfl (op_pure hT rfl) ?_
  refine gl_op rfl rfl rfl (op_pure hT rfl) ?_
  refine gl_un rfl rfl rfl rfl ?_
  refine gl_op rfl rfl rfl (op_pure hT rfl) ?_
  refine gl_un rfl rfl rfl rfl ?_
  refine gl_callf rfl rfl rfl rfl Tryd.func9 rfl rfl rfl (num8_calls 0 _) ?_
  rintro _ _ ⟨rfl, n80, rfl⟩
  refine ⟨_, rfl, ?_⟩
  have hS := hS.dr n80
  refine gl_un rfl rfl rfl rfl ?_
  refine gl_op rfl rfl rfl (op_pure hT rfl) ?_
  refine gl_op rfl rfl rfl (op_pure hT rfl) ?_
  refine gl_op rfl rfl rfl (op_pure hT rfl) ?_
  refine gl_un rfl rfl rfl rfl ?_
  refine gl_op rfl rfl rfl (op_fieldB 3 rfl Tryd.underlying69 rfl el66 rfl rfl) ?_
  refine gl_un rfl rfl rfl rfl ?_
  refine gl_op rfl rfl rfl (op_loadB 5 hT hS rfl rfl rfl rfl rfl rfl) ?_
  refine gl_un rfl rfl rfl rfl ?_
  refine gl_op rfl rfl rfl (op_pure hT rfl) ?_
  refine gl_un rfl rfl rfl rfl ?_
  refine gl_op rfl rfl rfl (op_pure hT rfl) ?_
  refine gl_op rfl rfl rfl (op_pure hT rfl) ?_
  refine gl_op rfl rfl rfl (op_pure hT rfl) ?_
  refine gl_un rfl rfl rfl rfl ?_
  refine gl_op rfl rfl rfl (op_fieldB 3 rfl Tryd.underlying69 rfl el66 rfl rfl) ?_
  refine gl_un rfl rfl rfl rfl ?_
  refine gl_op rfl rfl rfl (op_loadB 5 hT hS rfl rfl rfl rfl rfl rfl) ?_
  refine gl_un rfl rfl rfl rfl ?_
  obtain ⟨adx, hAx, hcx⟩ := RdS.at (⟨hS.rd (i := 4) rfl, fun _ => rfl⟩ : RdS _ All lyC 14 AL [⟨8, 0, 0, 0, 0, 0, 0, 0, 0, exA, W, B', (none, 0, 0), (none, 0, 0)⟩]) (i := 0) rfl
  refine gl_op rfl rfl rfl (op_indexAddr hT rfl rfl el65.cellsOf.1 el65.cellsOf.2 rfl rfl (by decide) (by decide) hAx) ?_
  refine gl_un rfl rfl rfl rfl ?_
  refine gl_op rfl rfl rfl (op_fieldAddr rfl Tryd.underlying65 rfl el62 (by decide) rfl) ?_
  refine gl_un rfl rfl rfl rfl ?_
  refine gl_op rfl rfl rfl (op_load hT rfl rfl rfl rfl (hcx 9 _ rfl)) ?_
  refine gl_un rfl rfl rfl rfl ?_
  refine gl_op rfl rfl rfl (op_fcmp rfl rfl rfl rfl) ?_
  refine gl_spell 95 (v := .bool true) rfl (congrArg Value.bool exHalf) ?_
  refine gl_op rfl rfl rfl (op_pure hT rfl) ?_
  refine gl_op rfl rfl rfl (op_pure hT rfl) ?_
  refine gl_un rfl rfl rfl rfl ?_
  refine gl_op rfl rfl rfl (op_pure hT rfl) ?_
  refine gl_un rfl rfl rfl rfl ?_
  refine gl_callf rfl rfl rfl rfl Tryd.func9 rfl rfl rfl (num8_calls 80 _) ?_
  rintro _ _ ⟨rfl, n99, rfl⟩
  refine ⟨_, rfl, ?_⟩
  have hS := hS.dr n99
  refine gl_un rfl rfl rfl rfl ?_
  refine gl_op rfl rfl rfl (op_pure hT rfl) ?_
  refine gl_op rfl rfl rfl (op_pure hT rfl) ?_
  refine gl_op rfl rfl rfl (op_pure hT rfl) ?_
  refine gl_un rfl rfl rfl rfl ?_
  refine gl_op rfl rfl rfl (op_pure hT rfl) ?_
  refine gl_un rfl rfl rfl rfl ?_
  refine gl_op rfl rfl rfl (op_pure hT rfl) ?_
  refine gl_op rfl rfl rfl (op_pure hT rfl) ?_
  refine gl_op rfl rfl rfl (op_pure hT rfl) ?_
  refine gl_un rfl rfl rfl rfl ?_
  refine gl_op rfl rfl rfl (op_pure hT rfl) ?_
  refine gl_un rfl rfl rfl rfl ?_
  refine gl_callf rfl rfl rfl rfl Tryd.func9 rfl rfl rfl (num8_calls 0 _) ?_
  rintro _ _ ⟨rfl, n108, rfl⟩
  refine ⟨_, rfl, ?_⟩
  have hS := hS.dr n108
  refine gl_un rfl rfl rfl rfl ?_
  refine gl_op rfl rfl rfl (op_pure hT rfl) ?_
  refine gl_op rfl rfl rfl (op_pure hT rfl) ?_
  refine gl_op rfl rfl rfl (op_pure hT rfl) ?_
  refine gl_un rfl rfl rfl rfl ?_
  refine gl_op rfl rfl rfl (op_pure hT rfl) ?_
  refine gl_un rfl rfl rfl rfl ?_
  refine gl_callf rfl rfl rfl rfl Tryd.func9 rfl rfl rfl (num8_calls 0 _) ?_
  rintro _ _ ⟨rfl, n113, rfl⟩
  refine ⟨_, rfl, ?_⟩
  have hS := hS.dr n113
  refine gl_un rfl rfl rfl rfl ?_
  refine gl_op rfl rfl rfl (op_pure hT rfl) ?_
  refine gl_op rfl rfl rfl (op_pure hT rfl) ?_
  refine gl_op rfl rfl rfl (op_pure hT rfl) ?_
  refine gl_un rfl rfl rfl rfl ?_
  refine gl_op rfl rfl rfl (op_fieldB 0 rfl Tryd.underlying25 rfl el22 rfl rfl) ?_
  refine gl_un rfl rfl rfl rfl ?_
  refine gl_op rfl rfl rfl (op_loadB 11 hT hS rfl rfl rfl rfl rfl rfl) ?_
  refine gl_un rfl rfl rfl rfl ?_
  refine gl_op rfl rfl rfl (op_pure hT rfl) ?_
  refine gl_spell 119 (v := .int .i64 1) rfl (by rw [hCn]; rfl) ?_
  refine gl_un rfl rfl rfl rfl ?_
  refine gl_op rfl rfl rfl (op_pure hT rfl) ?_
  refine gl_op rfl rfl rfl (op_pure hT rfl) ?_
  refine gl_op rfl rfl rfl (op_pure hT rfl) ?_
  refine gl_un rfl rfl rfl rfl ?_
  refine gl_op rfl rfl rfl (op_fieldB 6 rfl Tryd.underlying25 rfl el3 rfl rfl) ?_
  refine gl_un rfl rfl rfl rfl ?_
  refine gl_op rfl rfl rfl (op_loadB 11 hT hS rfl rfl rfl rfl rfl rfl) ?_
  refine gl_spell 124 (v := .int .i64 1) rfl (by rw [← hpS]) ?_
  refine gl_un rfl rfl rfl rfl ?_
  refine gl_op rfl rfl rfl (op_pure hT rfl) ?_
  refine gl_op rfl rfl rfl (op_pure hT rfl) ?_
  refine gl_op rfl rfl rfl (op_pure hT rfl) ?_
  refine gl_nil ?_
  refine hK10 _ _ ?_
  clear hK10; try clear K10
  refine gc_ret ?_
  try simp only [x_then_ret, x_block_ret]
  refine gk_ret1 rfl rfl ?_
  exact ⟨rfl, hS.below⟩
end Go.Proofs.YtnomlloaahoceaaDoor

