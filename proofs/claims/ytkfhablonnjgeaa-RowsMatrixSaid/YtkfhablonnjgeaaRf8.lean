/- The document's layer of a layer without lists. No condition. -/
import Derived.Test.YtkfhablonnjgeaaRf7
namespace Go.Proofs.Ytkfhablonnjgeaa
open Go.RowKit
set_option linter.unusedVariables false
set_option linter.unusedSimpArgs false
theorem fBits0_calls (w : World) : Calls Try.prog 35 ⟨[.slice none 0 0]⟩ w fun e w' => e = .returned (.slice none 0 0) ∧ Below w.heap.size w w' := by
  refine gc_enter (N := 20) Try.func35 rfl rfl rfl [(0, _)] rfl ?_
  have hS := St.start w
  refine gc_seq fun K1 hK1 => ?_
  refine gc_region ?_
  refine gl_op rfl rfl rfl (op_pure hT rfl) ?_
  refine gl_nil ?_
  refine hK1 _ _ ?_
  clear hK1; try clear K1
  refine gc_seq fun K2 hK2 => ?_
  refine gc_region ?_
  refine gl_op rfl rfl rfl (op_pure hT rfl) ?_
  refine gl_nil ?_
  refine hK2 _ _ ?_
  clear hK2; try clear K2
  refine gc_seq fun K3 hK3 => ?_
  refine gc_seq fun K4 hK4 => ?_
  refine gc_region ?_
  refine gl_op rfl rfl rfl (op_pure hT rfl) ?_
  refine gl_nil ?_
  refine hK4 _ _ ?_
  clear hK4; try clear K4
  refine gc_block ?_
  refine gc_loop (fun k a w' => Fr 20 a [(0, .slice none 0 0), (3, .slice none 0 0), (4, .int .i64 0)] ∧ k = 1 ∧ Below w.heap.size w w') 1 ?_ ?_ ?_
  · intro a ha; exact ⟨ha.sub ⟨rfl, rfl, rfl, trivial⟩, rfl, hS.below⟩
  · rintro a w ⟨_, h2, _⟩; omega
  rintro k a w1 ⟨hF, hk, hS2⟩
  refine gc_of hF ?_
  refine gc_seq fun K5 hK5 => ?_
  refine gc_seq fun K6 hK6 => ?_
  refine gc_region ?_
  refine gl_op rfl rfl rfl (op_pure hT rfl) ?_
  refine gl_op rfl rfl rfl (op_pure hT rfl) ?_
  refine gl_op rfl rfl rfl (op_pure hT rfl) ?_
  refine gl_op rfl rfl rfl (op_pure hT rfl) ?_
  refine gl_nil ?_
  refine hK6 _ _ ?_
  clear hK6; try clear K6
  refine gc_cond_f rfl ?_
  refine gc_exit ?_
  refine hK3 _ _ ?_
  clear hK3; try clear K3
  refine gc_seq fun K7 hK7 => ?_
  refine gc_region ?_
  refine gl_op rfl rfl rfl (op_pure hT rfl) ?_
  refine gl_op rfl rfl rfl (op_pure hT rfl) ?_
  refine gl_nil ?_
  refine hK7 _ _ ?_
  clear hK7; try clear K7
  refine gc_ret ?_
  try simp only [x_then_ret, x_block_ret]
  refine gk_ret1 rfl rfl ?_
  exact ⟨rfl, hS2⟩
@[reducible] def nlL (L : Ly) : Ly := ⟨L.k, L.out, L.kh, L.kw, L.sh, L.sw, L.ph, L.pw, L.fr, L.a, (none, 0, 0), (none, 0, 0), (none, 0, 0), (none, 0, 0)⟩
set_option maxHeartbeats 4000000 in
set_option maxRecDepth 100000 in
theorem ofLayer0_calls (L : Ly) (w : World) : Calls Try.prog 22 ⟨[.agg ⟨lyC (nlL L)⟩]⟩ w fun e w' => e = .returned (.agg ⟨rlC (nlL L)⟩) ∧ Below w.heap.size w w' := by
  refine gc_enter (N := 87) Try.func22 rfl rfl rfl [(0, _)] rfl ?_
  have hS := St.start w
  refine gc_seq fun K1 hK1 => ?_
  refine gc_region ?_
  refine gl_box hS rfl rfl rfl rfl rfl fun g1 w1 hS => ?_
  refine gl_alloc el60 hS rfl rfl rfl rfl fun g2 w2 hS => ?_
  refine gl_nil ?_
  refine hK1 _ _ ?_
  clear hK1; try clear K1
  refine gc_cut (fun a w' => ∃ g3, Fr 87 a [(1, .pointer (some ⟨g1, 0, none⟩)), (2, .pointer (some ⟨g2, 0, none⟩)), (3, .pointer (some ⟨g3, 0, none⟩))] ∧ St w.heap.size w w' [.blk g1 32 (lyC (nlL L)), .blk g2 60 (rlC ⟨0, 0, 0, 0, 0, 0, 0, 0, 0, 0, (none, 0, 0), (none, 0, 0), (none, 0, 0), (none, 0, 0)⟩), .blk g3 60 (rlC (nlL L))]) ?_ ?_
  · skip
    refine gc_anyS hS (by kernel_rfl) rfl fun nq1 hK => ?_
    have hS := hS.dr nq1
    refine ga_take 0 rfl rfl rfl rfl (by kernel_rfl) (fun _ _ _ _ _ h => h) hK (fun w1 hS => op_fieldB 0 rfl Try.underlying32 rfl el3 rfl rfl) ?_
    refine ga_take 1 rfl rfl rfl rfl (by kernel_rfl) (fun _ _ _ _ _ h => h) hK (fun w1 hS => op_loadB 0 hT hS rfl rfl rfl rfl rfl rfl) ?_
    refine ga_take 2 rfl rfl rfl rfl (by kernel_rfl) (fun _ _ _ _ _ h => h) hK (fun w1 hS => op_fieldB 1 rfl Try.underlying32 rfl el3 rfl rfl) ?_
    refine ga_take 3 rfl rfl rfl rfl (by kernel_rfl) (fun _ _ _ _ _ h => h) hK (fun w1 hS => op_loadB 0 hT hS rfl rfl rfl rfl rfl rfl) ?_
    refine ga_take 4 rfl rfl rfl rfl (by kernel_rfl) (fun _ _ _ _ _ h => h) hK (fun w1 hS => op_fieldB 2 rfl Try.underlying32 rfl el3 rfl rfl) ?_
    refine ga_take 5 rfl rfl rfl rfl (by kernel_rfl) (fun _ _ _ _ _ h => h) hK (fun w1 hS => op_loadB 0 hT hS rfl rfl rfl rfl rfl rfl) ?_
    refine ga_take 6 rfl rfl rfl rfl (by kernel_rfl) (fun _ _ _ _ _ h => h) hK (fun w1 hS => op_fieldB 3 rfl Try.underlying32 rfl el3 rfl rfl) ?_
    refine ga_take 7 rfl rfl rfl rfl (by kernel_rfl) (fun _ _ _ _ _ h => h) hK (fun w1 hS => op_loadB 0 hT hS rfl rfl rfl rfl rfl rfl) ?_
    refine ga_take 8 rfl rfl rfl rfl (by kernel_rfl) (fun _ _ _ _ _ h => h) hK (fun w1 hS => op_fieldB 4 rfl Try.underlying32 rfl el3 rfl rfl) ?_
    refine ga_take 9 rfl rfl rfl rfl (by kernel_rfl) (fun _ _ _ _ _ h => h) hK (fun w1 hS => op_loadB 0 hT hS rfl rfl rfl rfl rfl rfl) ?_
    refine ga_take 10 rfl rfl rfl rfl (by kernel_rfl) (fun _ _ _ _ _ h => h) hK (fun w1 hS => op_fieldB 5 rfl Try.underlying32 rfl el3 rfl rfl) ?_
    refine ga_take 11 rfl rfl rfl rfl (by kernel_rfl) (fun _ _ _ _ _ h => h) hK (fun w1 hS => op_loadB 0 hT hS rfl rfl rfl rfl rfl rfl) ?_
    refine ga_take 12 rfl rfl rfl rfl (by kernel_rfl) (fun _ _ _ _ _ h => h) hK (fun w1 hS => op_fieldB 6 rfl Try.underlying32 rfl el3 rfl rfl) ?_
    refine ga_take 13 rfl rfl rfl rfl (by kernel_rfl) (fun _ _ _ _ _ h => h) hK (fun w1 hS => op_loadB 0 hT hS rfl rfl rfl rfl rfl rfl) ?_
    refine ga_take 14 rfl rfl rfl rfl (by kernel_rfl) (fun _ _ _ _ _ h => h) hK (fun w1 hS => op_fieldB 7 rfl Try.underlying32 rfl el3 rfl rfl) ?_
    refine ga_take 15 rfl rfl rfl rfl (by kernel_rfl) (fun _ _ _ _ _ h => h) hK (fun w1 hS => op_loadB 0 hT hS rfl rfl rfl rfl rfl rfl) ?_
    refine ga_take 16 rfl rfl rfl rfl (by kernel_rfl) (fun _ _ _ _ _ h => h) hK (fun w1 hS => op_fieldB 8 rfl Try.underlying32 rfl el3 rfl rfl) ?_
    refine ga_take 17 rfl rfl rfl rfl (by kernel_rfl) (fun _ _ _ _ _ h => h) hK (fun w1 hS => op_loadB 0 hT hS rfl rfl rfl rfl rfl rfl) ?_
    refine ga_take 18 rfl rfl rfl rfl (by kernel_rfl) (fun _ _ _ _ _ h => h) hK (fun w1 hS => op_fieldB 9 rfl Try.underlying32 rfl el28 rfl rfl) ?_
    refine ga_take 19 rfl rfl rfl rfl (by kernel_rfl) (fun _ _ _ _ _ h => h) hK (fun w1 hS => op_loadB 0 hT hS rfl rfl rfl rfl rfl rfl) ?_
    refine ga_take 21 rfl rfl rfl rfl (by kernel_rfl) (fun _ _ _ _ _ h => h) hK (fun w1 hS => op_fieldB 10 rfl Try.underlying32 rfl el29 rfl rfl) ?_
    refine ga_take 22 rfl rfl rfl rfl (by kernel_rfl) (fun _ _ _ _ _ h => h) hK (fun w1 hS => op_loadB 0 hT hS rfl rfl rfl rfl rfl rfl) ?_
    refine ga_take 24 rfl rfl rfl rfl (by kernel_rfl) (fun _ _ _ _ _ h => h) hK (fun w1 hS => op_fieldB 11 rfl Try.underlying32 rfl el29 rfl rfl) ?_
    refine ga_take 25 rfl rfl rfl rfl (by kernel_rfl) (fun _ _ _ _ _ h => h) hK (fun w1 hS => op_loadB 0 hT hS rfl rfl rfl rfl rfl rfl) ?_
    refine ga_two 20 28 (by kernel_rfl) rfl rfl ?_ ?_
    · skip
      refine gl_callf rfl rfl rfl rfl Try.func36 rfl rfl rfl (mBits_calls L.a _) ?_
      rintro _ _ ⟨rfl, n30, rfl⟩
      refine ⟨_, rfl, ?_⟩
      have hS := hS.dr n30
      refine gl_nil ?_
      refine ga_next (hS.pre 2) fun hK => ?_
      refine ga_two 23 28 (by kernel_rfl) rfl rfl ?_ ?_
      · skip
        refine gl_callf rfl rfl rfl rfl Try.func35 rfl rfl rfl (fBits0_calls _) ?_
        rintro _ w33 ⟨rfl, hb33⟩
        refine ⟨_, rfl, ?_⟩
        have hS := hS.grown hb33
        refine gl_nil ?_
        refine ga_next (hS.pre 2) fun hK => ?_
        refine ga_two 26 28 (by kernel_rfl) rfl rfl ?_ ?_
        · skip
          refine gl_callf rfl rfl rfl rfl Try.func35 rfl rfl rfl (fBits0_calls _) ?_
          rintro _ w36 ⟨rfl, hb36⟩
          refine ⟨_, rfl, ?_⟩
          have hS := hS.grown hb36
          refine gl_nil ?_
          refine ga_next (hS.pre 2) fun hK => ?_
          refine ga_take 27 rfl rfl rfl rfl (by kernel_rfl) (fun _ _ _ _ _ h => h) hK (fun w1 hS => op_buildG rfl plan60 rfl rfl) ?_
          refine ga_one 28 (by kernel_rfl) rfl ?_
          refine gl_alloc el60 hS rfl rfl rfl rfl fun g3 w3 hS => ?_
          refine gl_nil ?_
          refine ga_next (hS.pre 2) fun hK => ?_
          refine ga_one 29 (by kernel_rfl) rfl ?_
          refine gl_storeM 2 hS el60 rfl rfl rfl rfl rfl rfl rfl rfl rfl fun wways_go_45 hS => ?_
          refine gl_nil ?_
          refine ga_next (hS.pre 2) fun hK => ?_
          refine ga_done (by kernel_rfl) ?_
          intro a ha
          exact ⟨g3, ha.sub ⟨rfl, rfl, rfl, trivial⟩, hS⟩
        · skip
          refine gl_alloc el60 hS rfl rfl rfl rfl fun g3 w3 hS => ?_
          refine gl_nil ?_
          refine ga_next (hS.pre 2) fun hK => ?_
          refine ga_one 26 (by kernel_rfl) rfl ?_
          refine gl_callf rfl rfl rfl rfl Try.func35 rfl rfl rfl (fBits0_calls _) ?_
          rintro _ w36 ⟨rfl, hb36⟩
          refine ⟨_, rfl, ?_⟩
          have hS := hS.grown hb36
          refine gl_nil ?_
          refine ga_next (hS.pre 2) fun hK => ?_
          refine ga_take 27 rfl rfl rfl rfl (by kernel_rfl) (fun _ _ _ _ _ h => h) hK (fun w1 hS => op_buildG rfl plan60 rfl rfl) ?_
          refine ga_one 29 (by kernel_rfl) rfl ?_
          refine gl_storeM 2 hS el60 rfl rfl rfl rfl rfl rfl rfl rfl rfl fun wways_go_45 hS => ?_
          refine gl_nil ?_
          refine ga_next (hS.pre 2) fun hK => ?_
          refine ga_done (by kernel_rfl) ?_
          intro a ha
          exact ⟨g3, ha.sub ⟨rfl, rfl, rfl, trivial⟩, hS⟩
      · skip
        refine gl_alloc el60 hS rfl rfl rfl rfl fun g3 w3 hS => ?_
        refine gl_nil ?_
        refine ga_next (hS.pre 2) fun hK => ?_
        refine ga_one 23 (by kernel_rfl) rfl ?_
        refine gl_callf rfl rfl rfl rfl Try.func35 rfl rfl rfl (fBits0_calls _) ?_
        rintro _ w33 ⟨rfl, hb33⟩
        refine ⟨_, rfl, ?_⟩
        have hS := hS.grown hb33
        refine gl_nil ?_
        refine ga_next (hS.pre 2) fun hK => ?_
        refine ga_one 26 (by kernel_rfl) rfl ?_
        refine gl_callf rfl rfl rfl rfl Try.func35 rfl rfl rfl (fBits0_calls _) ?_
        rintro _ w36 ⟨rfl, hb36⟩
        refine ⟨_, rfl, ?_⟩
        have hS := hS.grown hb36
        refine gl_nil ?_
        refine ga_next (hS.pre 2) fun hK => ?_
        refine ga_take 27 rfl rfl rfl rfl (by kernel_rfl) (fun _ _ _ _ _ h => h) hK (fun w1 hS => op_buildG rfl plan60 rfl rfl) ?_
        refine ga_one 29 (by kernel_rfl) rfl ?_
        refine gl_storeM 2 hS el60 rfl rfl rfl rfl rfl rfl rfl rfl rfl fun wways_go_45 hS => ?_
        refine gl_nil ?_
        refine ga_next (hS.pre 2) fun hK => ?_
        refine ga_done (by kernel_rfl) ?_
        intro a ha
        exact ⟨g3, ha.sub ⟨rfl, rfl, rfl, trivial⟩, hS⟩
    · skip
      refine gl_alloc el60 hS rfl rfl rfl rfl fun g3 w3 hS => ?_
      refine gl_nil ?_
      refine ga_next (hS.pre 2) fun hK => ?_
      refine ga_one 20 (by kernel_rfl) rfl ?_
      refine gl_callf rfl rfl rfl rfl Try.func36 rfl rfl rfl (mBits_calls L.a _) ?_
      rintro _ _ ⟨rfl, n30, rfl⟩
      refine ⟨_, rfl, ?_⟩
      have hS := hS.dr n30
      refine gl_nil ?_
      refine ga_next (hS.pre 2) fun hK => ?_
      refine ga_one 23 (by kernel_rfl) rfl ?_
      refine gl_callf rfl rfl rfl rfl Try.func35 rfl rfl rfl (fBits0_calls _) ?_
      rintro _ w33 ⟨rfl, hb33⟩
      refine ⟨_, rfl, ?_⟩
      have hS := hS.grown hb33
      refine gl_nil ?_
      refine ga_next (hS.pre 2) fun hK => ?_
      refine ga_one 26 (by kernel_rfl) rfl ?_
      refine gl_callf rfl rfl rfl rfl Try.func35 rfl rfl rfl (fBits0_calls _) ?_
      rintro _ w36 ⟨rfl, hb36⟩
      refine ⟨_, rfl, ?_⟩
      have hS := hS.grown hb36
      refine gl_nil ?_
      refine ga_next (hS.pre 2) fun hK => ?_
      refine ga_take 27 rfl rfl rfl rfl (by kernel_rfl) (fun _ _ _ _ _ h => h) hK (fun w1 hS => op_buildG rfl plan60 rfl rfl) ?_
      refine ga_one 29 (by kernel_rfl) rfl ?_
      refine gl_storeM 2 hS el60 rfl rfl rfl rfl rfl rfl rfl rfl rfl fun wways_go_45 hS => ?_
      refine gl_nil ?_
      refine ga_next (hS.pre 2) fun hK => ?_
      refine ga_done (by kernel_rfl) ?_
      intro a ha
      exact ⟨g3, ha.sub ⟨rfl, rfl, rfl, trivial⟩, hS⟩
  rintro a w1 ⟨g3, hF, hS⟩
  refine gc_of hF ?_
  clear hF
  refine gc_seq fun K2 hK2 => ?_
  refine gc_seq fun K3 hK3 => ?_
  refine gc_region ?_
  refine gl_op rfl rfl rfl (op_pure hT rfl) ?_
  refine gl_nil ?_
  refine hK3 _ _ ?_
  clear hK3; try clear K3
  refine gc_block ?_
  refine gc_loop (fun k a w' => Fr 87 a [(1, .pointer (some ⟨g1, 0, none⟩)), (2, .pointer (some ⟨g2, 0, none⟩)), (3, .pointer (some ⟨g3, 0, none⟩)), (4, .int .i64 0)] ∧ k = 1 ∧ St w.heap.size w w' [.blk g1 32 (lyC (nlL L)), .blk g2 60 (rlC ⟨0, 0, 0, 0, 0, 0, 0, 0, 0, 0, (none, 0, 0), (none, 0, 0), (none, 0, 0), (none, 0, 0)⟩), .blk g3 60 (rlC (nlL L))]) 1 ?_ ?_ ?_
  · intro a ha; exact ⟨ha.sub ⟨rfl, rfl, rfl, rfl, trivial⟩, rfl, hS⟩
  · rintro a w ⟨_, h2, _⟩; omega
  rintro k a w1 ⟨hF, hk, hS⟩
  refine gc_of hF ?_
  clear hF
  refine gc_seq fun K4 hK4 => ?_
  refine gc_seq fun K5 hK5 => ?_
  refine gc_region ?_
  refine gl_op rfl rfl rfl (op_pure hT rfl) ?_
  refine gl_op rfl rfl rfl (op_fieldB 12 rfl Try.underlying32 rfl el30 rfl rfl) ?_
  refine gl_op rfl rfl rfl (op_loadB 0 hT hS rfl rfl rfl rfl rfl rfl) ?_
  refine gl_op rfl rfl rfl (op_pure hT rfl) ?_
  refine gl_op rfl rfl rfl (op_pure hT rfl) ?_
  refine gl_nil ?_
  refine hK5 _ _ ?_
  clear hK5; try clear K5
  refine gc_cond_f rfl ?_
  refine gc_exit ?_
  refine hK2 _ _ ?_
  clear hK2; try clear K2
  refine gc_seq fun K6 hK6 => ?_
  refine gc_seq fun K7 hK7 => ?_
  refine gc_region ?_
  refine gl_op rfl rfl rfl (op_pure hT rfl) ?_
  refine gl_nil ?_
  refine hK7 _ _ ?_
  clear hK7; try clear K7
  refine gc_block ?_
  refine gc_loop (fun k a w' => Fr 87 a [(1, .pointer (some ⟨g1, 0, none⟩)), (2, .pointer (some ⟨g2, 0, none⟩)), (3, .pointer (some ⟨g3, 0, none⟩)), (7, .int .i64 0)] ∧ k = 1 ∧ St w.heap.size w w' [.blk g1 32 (lyC (nlL L)), .blk g2 60 (rlC ⟨0, 0, 0, 0, 0, 0, 0, 0, 0, 0, (none, 0, 0), (none, 0, 0), (none, 0, 0), (none, 0, 0)⟩), .blk g3 60 (rlC (nlL L))]) 1 ?_ ?_ ?_
  · intro a ha; exact ⟨ha.sub ⟨rfl, rfl, rfl, rfl, trivial⟩, rfl, hS⟩
  · rintro a w ⟨_, h2, _⟩; omega
  rintro k a w1 ⟨hF, hk, hS⟩
  refine gc_of hF ?_
  clear hF
  refine gc_seq fun K8 hK8 => ?_
  refine gc_seq fun K9 hK9 => ?_
  refine gc_region ?_
  refine gl_op rfl rfl rfl (op_pure hT rfl) ?_
  refine gl_op rfl rfl rfl (op_fieldB 13 rfl Try.underlying32 rfl el30 rfl rfl) ?_
  refine gl_op rfl rfl rfl (op_loadB 0 hT hS rfl rfl rfl rfl rfl rfl) ?_
  refine gl_op rfl rfl rfl (op_pure hT rfl) ?_
  refine gl_op rfl rfl rfl (op_pure hT rfl) ?_
  refine gl_nil ?_
  refine hK9 _ _ ?_
  clear hK9; try clear K9
  refine gc_cond_f rfl ?_
  refine gc_exit ?_
  refine hK6 _ _ ?_
  clear hK6; try clear K6
  refine gc_seq fun K10 hK10 => ?_
  refine gc_region ?_
  refine gl_op rfl rfl rfl (op_loadG 2 Try.underlying60 rfl el60 hS rfl rfl rfl rfl rfl) ?_
  refine gl_storeM 1 hS el60 rfl rfl rfl rfl rfl rfl rfl rfl rfl fun wways_go_54 hS => ?_
  refine gl_nil ?_
  refine hK10 _ _ ?_
  clear hK10; try clear K10
  refine gc_ret ?_
  try simp only [x_then_ret, x_block_ret]
  refine gk_res1 rfl (⟨_, rfl, run_loadVarB 1 Try.underlying60 rfl el60 hS rfl rfl rfl⟩) ?_
  exact ⟨rfl, hS.below⟩
end Go.Proofs.Ytkfhablonnjgeaa
