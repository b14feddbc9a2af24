/- Contracts of functions that CodePropBytes reaches, and words to say them. No condition. -/
import Derived.Test.YtnomlloaahoceaaDoorZ24
/- Contracts: asks. No condition. -/
namespace Go.Proofs.YtnomlloaahoceaaDoor
open Go.RowKit
set_option linter.unusedVariables false
set_option linter.unusedSimpArgs false
set_option maxHeartbeats 4000000 in
set_option maxRecDepth 100000 in
theorem asks_calls (A : Option Addr) (n c : Nat) (l : List UInt8) (w : World) {ok : Nat → Prop} (h1 : RdE w ok uB A l) (hn : n = l.length) (hc : n ≤ c) (hb : l.length ≤ 140737488351232) :
    Calls Tryd.prog 13 ⟨[.slice A n c]⟩ w fun e w' => e = .returned (.bool true) ∧ Below w.heap.size w w' := by
  subst hn
  obtain ⟨tp, htp⟩ : ∃ tp, tp = toldP l := ⟨_, rfl⟩
  refine gc_enter (N := 44) Tryd.func13 rfl rfl rfl [(0, _)] rfl ?_
  have hS := St.start w
  refine gc_seq fun K1 hK1 => ?_
  refine gc_region ?_
  refine gl_op rfl rfl rfl (op_pure hT rfl) ?_
  refine gl_nil ?_
  refine hK1 _ _ ?_
  clear hK1; try clear K1
  refine gc_seq fun K2 hK2 => ?_
  refine gc_region ?_
  refine gl_op rfl rfl rfl (op_pure hT rfl) ?_
  refine gl_callf rfl rfl rfl rfl Tryd.func29 rfl rfl rfl (wide_calls A _ c l _ (h1.old hS) rfl hb) ?_
  rintro _ w11 ⟨AW, cW, rfl, hcW, h11⟩
  refine ⟨_, rfl, ?_⟩
  have hS := hS.more h11
  refine gl_op rfl rfl rfl (op_pure hT rfl) ?_
  refine gl_nil ?_
  refine hK2 _ _ ?_
  clear hK2; try clear K2
  refine gc_seq fun K3 hK3 => ?_
  refine gc_region ?_
  refine gl_op rfl rfl rfl (op_pure hT rfl) ?_
  have hW : RdE w11 All uB AW l := rdE_of (Rd.pre (ds := mk5.map uB) (n := l.length + 5) (m := l.length) (by rw [← List.map_append]; exact hS.rd (i := 0) rfl) (by simp) (by omega)) rfl
  refine gl_callf rfl rfl rfl rfl Tryd.func28 rfl rfl rfl (decodeProp_calls AW _ cW l _ hW rfl (by omega) (by omega)) ?_
  rintro _ w14 hR
  obtain ⟨C, G, M, SG, SM, K, rfl, h14, hPM, hsm⟩ := dpR_one hR
  rw [← htp] at hPM hsm ⊢
  refine ⟨_, rfl, ?_⟩
  have hS := hS.more h14
  clear hR
  refine gl_op rfl rfl rfl (op_pure hT rfl) ?_
  refine gl_op rfl rfl rfl (op_pure hT rfl) ?_
  refine gl_op rfl rfl rfl (op_pure hT rfl) ?_
  refine gl_op rfl rfl rfl (op_pure hT rfl) ?_
  refine gl_alloc el25 hS rfl rfl rfl rfl fun g4 w4 hS => ?_
  refine gl_storeM 2 hS el25 rfl rfl rfl rfl rfl rfl rfl rfl rfl fun wlaw_go_58 hS => ?_
  refine gl_op rfl rfl rfl (op_pure hT rfl) ?_
  refine gl_op rfl rfl rfl (op_pure hT rfl) ?_
  refine gl_nil ?_
  refine hK3 _ _ ?_
  clear hK3; try clear K3
  refine gc_seq fun K4 hK4 => ?_
  refine gc_region ?_
  refine gl_op rfl rfl rfl (op_pure hT rfl) ?_
  refine gl_callf rfl rfl rfl rfl Tryd.func30 rfl rfl rfl (rDecodeProp_calls A _ c l _ (h1.old hS) rfl hc (by omega)) ?_
  rintro _ w20 hR
  obtain ⟨C2, G2, M2, SG2, SM2, K2, rfl, h20, hPU⟩ := drR_one hR
  rw [← htp] at hPU ⊢
  refine ⟨_, rfl, ?_⟩
  have hS := hS.more h20
  clear hR
  refine gl_op rfl rfl rfl (op_pure hT rfl) ?_
  refine gl_op rfl rfl rfl (op_pure hT rfl) ?_
  refine gl_op rfl rfl rfl (op_pure hT rfl) ?_
  refine gl_op rfl rfl rfl (op_pure hT rfl) ?_
  refine gl_alloc el29 hS rfl rfl rfl rfl fun g7 w7 hS => ?_
  refine gl_storeM 4 hS el29 rfl rfl rfl rfl rfl rfl rfl rfl rfl fun wlaw_go_59 hS => ?_
  refine gl_op rfl rfl rfl (op_pure hT rfl) ?_
  refine gl_op rfl rfl rfl (op_pure hT rfl) ?_
  refine gl_nil ?_
  refine hK4 _ _ ?_
  clear hK4; try clear K4
  refine gc_seq fun K5 hK5 => ?_
  refine gc_anyS hS (by kernel_rfl) rfl fun nq4 hK => ?_
  have hS := hS.dr nq4
  refine ga_take 0 rfl rfl rfl rfl (by kernel_rfl) (fun _ _ _ _ h => h) hK (fun w1 hS => op_pure hT rfl) ?_
  refine ga_take 2 rfl rfl rfl rfl (by kernel_rfl) (fun _ _ _ _ h => h) hK (fun w1 hS => op_pure hT rfl) ?_
  refine ga_one 1 (by kernel_rfl) rfl ?_
  refine gl_callf rfl rfl rfl rfl Tryd.func9 rfl rfl rfl (num8_calls _ _) ?_
  rintro _ _ ⟨rfl, n25, rfl⟩
  refine ⟨_, rfl, ?_⟩
  have hS := hS.dr n25
  refine gl_nil ?_
  refine ga_next (hS.pre 5) fun hK => ?_
  refine ga_take 3 rfl rfl rfl rfl (by kernel_rfl) (fun _ _ _ _ h => h) hK (fun w1 hS => op_pure hT rfl) ?_
  refine ga_spell 27 (v := .bool true) rfl (by simp) ?_
  refine ga_take 4 rfl rfl rfl rfl (by kernel_rfl) (fun _ _ _ _ h => h) hK (fun w1 hS => op_pure hT rfl) ?_
  refine ga_take_at 5 rfl rfl rfl rfl rfl rfl rfl (by kernel_rfl) (fun _ _ _ _ h => h) hK (fun w1 hS => op_pure hT rfl) ?_
  refine ga_take_at 6 rfl rfl rfl rfl rfl rfl rfl (by kernel_rfl) (fun _ _ _ _ h => h) hK (fun w1 hS => op_pure hT rfl) ?_
  refine ga_take_at 7 rfl rfl rfl rfl rfl rfl rfl (by kernel_rfl) (fun _ _ _ _ h => h) hK (fun w1 hS => op_pure hT rfl) ?_
  refine ga_spell 31 (v := .bool true) rfl (by simp) ?_
  refine ga_take 8 rfl rfl rfl rfl (by kernel_rfl) (fun _ _ _ _ h => h) hK (fun w1 hS => op_pure hT rfl) ?_
  refine ga_take 9 rfl rfl rfl rfl (by kernel_rfl) (fun _ _ _ _ h => h) hK (fun w1 hS => op_pure hT rfl) ?_
  refine ga_take_at 10 rfl rfl rfl rfl rfl rfl rfl (by kernel_rfl) (fun _ _ _ _ h => h) hK (fun w1 hS => op_loadG 2 Tryd.underlying25 rfl el25 hS rfl rfl rfl rfl rfl) ?_
  refine ga_take_at 12 rfl rfl rfl rfl rfl rfl rfl (by kernel_rfl) (fun _ _ _ _ h => h) hK (fun w1 hS => op_loadG 4 Tryd.underlying29 rfl el29 hS rfl rfl rfl rfl rfl) ?_
  refine ga_one 11 (by kernel_rfl) rfl ?_
  refine gl_un rfl rfl rfl rfl ?_
  refine gl_callf rfl rfl rfl rfl Tryd.func5 rfl rfl rfl (ofProp_calls C G M SG SM tp.1 _ (PrM.keepC hS (i := 1) rfl hPM) hsm) ?_
  rintro _ w35 ⟨C3, G3, M3, SG3, SM3, K3, rfl, h35, hU35⟩
  refine ⟨_, rfl, ?_⟩
  have hS := hS.more h35
  refine gl_nil ?_
  refine ga_next (hS.pre 5) fun hK => ?_
  refine ga_one 13 (by kernel_rfl) rfl ?_
  refine gl_un rfl rfl rfl rfl ?_
  refine gl_callf rfl rfl rfl rfl Tryd.func11 rfl rfl rfl (sameProp_calls C3 G3 M3 C2 G2 M2 SG3 SM3 SG2 SM2 tp.1 _ (PrU.keep hS (i := 5) rfl hU35) (PrU.keep hS (i := 3) rfl hPU) hsm) ?_
  rintro _ w37 ⟨rfl, hb37⟩
  refine ⟨_, rfl, ?_⟩
  have hS := hS.grown hb37
  refine gl_nil ?_
  refine ga_next (hS.pre 5) fun hK => ?_
  refine ga_take 14 rfl rfl rfl rfl (by kernel_rfl) (fun _ _ _ _ h => h) hK (fun w1 hS => op_pure hT rfl) ?_
  refine ga_take 15 rfl rfl rfl rfl (by kernel_rfl) (fun _ _ _ _ h => h) hK (fun w1 hS => op_pure hT rfl) ?_
  refine ga_take_at 16 rfl rfl rfl rfl rfl rfl rfl (by kernel_rfl) (fun _ _ _ _ h => h) hK (fun w1 hS => op_pure hT rfl) ?_
  refine ga_take_at 17 rfl rfl rfl rfl rfl rfl rfl (by kernel_rfl) (fun _ _ _ _ h => h) hK (fun w1 hS => op_pure hT rfl) ?_
  refine ga_one 18 (by kernel_rfl) rfl ?_
  refine gl_un rfl rfl rfl rfl ?_
  refine gl_callf rfl rfl rfl rfl Tryd.func31 rfl rfl rfl (kept_calls AW A _ cW _ c l _ (rdE_of (hS.rd (i := 0) rfl) (by simp [mk5])) rfl hcW (h1.old hS) rfl hb) ?_
  rintro _ w42 ⟨rfl, hb42⟩
  refine ⟨_, rfl, ?_⟩
  have hS := hS.grown hb42
  refine gl_nil ?_
  refine ga_next (hS.pre 5) fun hK => ?_
  refine ga_take 19 rfl rfl rfl rfl (by kernel_rfl) (fun _ _ _ _ h => h) hK (fun w1 hS => op_pure hT rfl) ?_
  refine ga_take 20 rfl rfl rfl rfl (by kernel_rfl) (fun _ _ _ _ h => h) hK (fun w1 hS => op_pure hT rfl) ?_
  refine ga_done (by kernel_rfl) ?_
  refine hK5 _ _ ?_
  clear hK5; try clear K5
  refine gc_ret ?_
  try simp only [x_then_ret, x_block_ret]
  refine gk_ret1 rfl rfl ?_
  exact ⟨rfl, hS.below⟩
end Go.Proofs.YtnomlloaahoceaaDoor

