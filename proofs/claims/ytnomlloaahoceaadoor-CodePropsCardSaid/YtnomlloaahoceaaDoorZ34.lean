/- Contracts of functions that CodeProps reaches, and words to say them. No condition. -/
import Derived.Test.YtnomlloaahoceaaDoorZ26
import Derived.Test.YtnomlloaahoceaaDoorZ33
/- Contracts: CodeProps. No condition. -/
namespace Go.Proofs.YtnomlloaahoceaaDoor
open Go.RowKit
set_option linter.unusedVariables false
set_option linter.unusedSimpArgs false
theorem PrM.big {w : World} {ok : Nat → Prop} {C G M : Sv} {SG SM : List Sv} {p : Px} (D : PrM w ok C G M SG SM p) (hG : p.G.length ≤ 5864062014805) (hM : p.M.length ≤ 5864062014805) : p.small := by
  have hf : ∀ {A : Option Addr} {S : List Sv} {ls : List (List Nat)}, LsM w ok A S ls → ∀ x ∈ ls, x.length ≤ 17592186044416 ∧ ∀ u ∈ x, u < 18446744073709551616 := by
    intro A S ls hm x hx
    obtain ⟨i, hi, rfl⟩ := List.mem_iff_getElem.1 hx
    have hl := hm.len
    exact (hm.rd i S[i] ls[i] (List.getElem?_eq_getElem (by omega)) (List.getElem?_eq_getElem hi)).2.2
  exact ⟨D.lC, D.fC, hG, hf D.rG, hM, hf D.rM, D.iT, D.iK, D.iD, D.iS⟩
set_option maxHeartbeats 4000000 in
set_option maxRecDepth 100000 in
theorem CodeProps_calls (C G M : Sv) (SG SM : List Sv) (p : Px) (w : World) {ok : Nat → Prop} (D : PrM w ok C G M SG SM p) (hG : p.G.length ≤ 5864062014805) (hM : p.M.length ≤ 5864062014805) :
    Calls Tryd.prog 3 ⟨[.agg ⟨propC C G M p⟩]⟩ w fun e w' => e = .returned (.bool true) ∧ Below w.heap.size w w' := by
  have hp := D.big hG hM
  obtain ⟨n, hn⟩ : ∃ n, n = (encPV p).length := ⟨_, rfl⟩
  refine gc_enter (N := 79) Tryd.func3 rfl rfl rfl [(0, _)] rfl ?_
  have hS := St.start w
  refine gc_seq fun K1 hK1 => ?_
  refine gc_region ?_
  refine gl_box hS rfl rfl rfl rfl rfl fun g1 w1 hS => ?_
  refine gl_op rfl rfl rfl (op_pure hT rfl) ?_
  refine gl_nil ?_
  refine hK1 _ _ ?_
  clear hK1; try clear K1
  refine gc_seq fun K2 hK2 => ?_
  refine gc_region ?_
  refine gl_op rfl rfl rfl (op_loadG 0 Tryd.underlying25 rfl el25 hS rfl rfl rfl rfl rfl) ?_
  refine gl_callf rfl rfl rfl rfl Tryd.func5 rfl rfl rfl (ofProp_calls C G M SG SM p _ (D.old hS) hp) ?_
  rintro _ w15 ⟨C2, G2, M2, SG2, SM2, K2, rfl, h15, hU⟩
  refine ⟨_, rfl, ?_⟩
  have hS := hS.more h15
  refine gl_alloc el29 hS rfl rfl rfl rfl fun g3 w3 hS => ?_
  refine gl_storeM 2 hS el29 rfl rfl rfl rfl rfl rfl rfl rfl rfl fun wlaw_go_68 hS => ?_
  refine gl_nil ?_
  refine hK2 _ _ ?_
  clear hK2; try clear K2
  refine gc_seq fun K3 hK3 => ?_
  refine gc_region ?_
  refine gl_op rfl rfl rfl (op_loadG 2 Tryd.underlying29 rfl el29 hS rfl rfl rfl rfl rfl) ?_
  refine gl_callf rfl rfl rfl rfl Tryd.func6 rfl rfl rfl (rEncodeProp_calls C2 G2 M2 SG2 SM2 p _ (PrU.keep hS (i := 1) rfl hU)) ?_
  rintro _ w18 ⟨A18, c18, rfl, h18⟩
  refine ⟨_, rfl, ?_⟩
  have hS := hS.more h18
  rw [← hn] at hS ⊢
  refine gl_op rfl rfl rfl (op_pure hT rfl) ?_
  refine gl_op rfl rfl rfl (op_pure hT rfl) ?_
  refine gl_op rfl rfl rfl (op_pure hT rfl) ?_
  refine gl_op rfl rfl rfl (op_pure hT rfl) ?_
  refine gl_op rfl rfl rfl (op_pure hT rfl) ?_
  refine gl_op rfl rfl rfl (op_pure hT rfl) ?_
  refine gl_op rfl rfl rfl (op_pure hT rfl) ?_
  refine gl_nil ?_
  refine hK3 _ _ ?_
  clear hK3; try clear K3
  refine gc_seq fun K4 hK4 => ?_
  refine gc_seq fun K5 hK5 => ?_
  refine gc_region ?_
  refine gl_op rfl rfl rfl (op_pure hT rfl) ?_
  refine gl_nil ?_
  refine hK5 _ _ ?_
  clear hK5; try clear K5
  refine gc_block ?_
  refine gc_loop (fun kk a' w' => ∃ k : Nat, Fr 79 a' [(1, .pointer (some ⟨g1, 0, none⟩)), (3, .pointer (some ⟨g3, 0, none⟩)), (4, .slice A18 n c18), (5, .int .i64 (formV p).1), (6, .int .i64 (formV p).2), (7, .int .i64 (k : Nat))] ∧ k ≤ 2 ∧ kk = 3 - k ∧
    St w.heap.size w w' [.blk g1 25 (propC C G M p), .keep K2 w15, .blk g3 29 (propC C2 G2 M2 p), .row A18 c18 5 1 n ((encPV p).map uB)]) 3 ?_ ?_ ?_
  · intro a' ha; exact ⟨0, ha.sub ⟨rfl, rfl, rfl, rfl, rfl, rfl, trivial⟩, by omega, by omega, hS⟩
  · rintro a' w' ⟨k, _, h1, h2, _⟩; omega
  clear hS
  rintro kk a' w1 ⟨k, hF, hk2, hkk, hS⟩
  refine gc_of hF ?_
  clear hF
  refine gc_seq fun K6 hK6 => ?_
  refine gc_seq fun K7 hK7 => ?_
  refine gc_region ?_
  refine gl_op rfl rfl rfl (op_pure hT rfl) ?_
  refine gl_op rfl rfl rfl (op_pure hT rfl) ?_
  refine gl_nil ?_
  refine hK7 _ _ ?_
  clear hK7; try clear K7
  refine gc_cond rfl rfl (fun c23 => ?_) (fun c23 => ?_)
  · try simp only [decide_eq_true_eq, decide_eq_false_iff_not, Bool.not_eq_true', Bool.not_eq_false', Int.not_lt, Int.not_le, Nat.not_lt, Nat.not_le, Bool.true_eq, Bool.false_eq, reduceCtorEq] at c23
    refine gc_skip ?_
    refine hK6 _ _ ?_
    clear hK6; try clear K6
    refine gc_seq fun K8 hK8 => ?_
    refine gc_block ?_
    refine gc_seq fun K9 hK9 => ?_
    refine gc_region ?_
    refine gl_op rfl rfl rfl (op_loadG 0 Tryd.underlying25 rfl el25 hS rfl rfl rfl rfl rfl) ?_
    refine gl_callf rfl rfl rfl rfl Tryd.func7 rfl rfl rfl (encodeProp_calls C G M SG SM p _ (D.old hS)) ?_
    rintro _ w28 ⟨A28, c28, rfl, h28⟩
    refine ⟨_, rfl, ?_⟩
    have hS := hS.more h28
    rw [← hn] at hS ⊢
    refine gl_op rfl rfl rfl (op_pure hT rfl) ?_
    refine gl_op rfl rfl rfl (op_pure hT rfl) ?_
    refine gl_op rfl rfl rfl (op_pure hT rfl) ?_
    refine gl_op rfl rfl rfl (op_pure hT rfl) ?_
    refine gl_op rfl rfl rfl (op_pure hT rfl) ?_
    refine gl_op rfl rfl rfl (op_pure hT rfl) ?_
    refine gl_op rfl rfl rfl (op_pure hT rfl) ?_
    refine gl_nil ?_
    refine hK9 _ _ ?_
    clear hK9; try clear K9
    refine gc_seq fun K10 hK10 => ?_
    refine gc_region ?_
    refine gl_op rfl rfl rfl (op_loadG 0 Tryd.underlying25 rfl el25 hS rfl rfl rfl rfl rfl) ?_
    refine gl_callf rfl rfl rfl rfl Tryd.func8 rfl rfl rfl (checkForm_calls C G M SG SM p _ (D.old hS)) ?_
    rintro _ w34 ⟨rfl, hb34⟩
    refine ⟨_, rfl, ?_⟩
    have hS := hS.grown hb34
    refine gl_op rfl rfl rfl (op_pure hT rfl) ?_
    refine gl_op rfl rfl rfl (op_pure hT rfl) ?_
    refine gl_op rfl rfl rfl (op_pure hT rfl) ?_
    refine gl_op rfl rfl rfl (op_pure hT rfl) ?_
    refine gl_op rfl rfl rfl (op_pure hT rfl) ?_
    refine gl_nil ?_
    refine hK10 _ _ ?_
    clear hK10; try clear K10
    refine gc_seq fun K11 hK11 => ?_
    refine gc_seq fun K12 hK12 => ?_
    refine gc_region ?_
    refine gl_op rfl rfl rfl (op_pure hT rfl) ?_
    refine gl_callf rfl rfl rfl rfl Tryd.func9 rfl rfl rfl (num8_calls _ _) ?_
    rintro _ _ ⟨rfl, n38, rfl⟩
    refine ⟨_, rfl, ?_⟩
    have hS := hS.dr n38
    refine gl_op rfl rfl rfl (op_pure hT rfl) ?_
    refine gl_op rfl rfl rfl (op_pure hT rfl) ?_
    refine gl_spell 40 (v := .bool false) rfl (by simp) ?_
    refine gl_op rfl rfl rfl (op_pure hT rfl) ?_
    refine gl_un rfl rfl rfl rfl ?_
    refine gl_op rfl rfl rfl (op_pure hT rfl) ?_
    refine gl_un rfl rfl rfl rfl ?_
    refine gl_op rfl rfl rfl (op_pure hT rfl) ?_
    refine gl_un rfl rfl rfl rfl ?_
    refine gl_op rfl rfl rfl (op_pure hT rfl) ?_
    refine gl_spell 44 (v := .bool false) rfl (by simp) ?_
    refine gl_op rfl rfl rfl (op_pure hT rfl) ?_
    refine gl_op rfl rfl rfl (op_pure hT rfl) ?_
    refine gl_un rfl rfl rfl rfl ?_
    refine gl_op rfl rfl rfl (op_pure hT rfl) ?_
    refine gl_un rfl rfl rfl rfl ?_
    refine gl_callf rfl rfl rfl rfl Tryd.func9 rfl rfl rfl (num8_calls _ _) ?_
    rintro _ _ ⟨rfl, n48, rfl⟩
    refine ⟨_, rfl, ?_⟩
    have hS := hS.dr n48
    refine gl_un rfl rfl rfl rfl ?_
    refine gl_op rfl rfl rfl (op_pure hT rfl) ?_
    refine gl_un rfl rfl rfl rfl ?_
    refine gl_op rfl rfl rfl (op_pure hT rfl) ?_
    refine gl_spell 50 (v := .bool false) rfl (by simp) ?_
    refine gl_op rfl rfl rfl (op_pure hT rfl) ?_
    refine gl_op rfl rfl rfl (op_pure hT rfl) ?_
    refine gl_un rfl rfl rfl rfl ?_
    refine gl_op rfl rfl rfl (op_pure hT rfl) ?_
    refine gl_un rfl rfl rfl rfl ?_
    refine gl_op rfl rfl rfl (op_pure hT rfl) ?_
    refine gl_un rfl rfl rfl rfl ?_
    refine gl_op rfl rfl rfl (op_pure hT rfl) ?_
    refine gl_spell 55 (v := .bool false) rfl (by simp) ?_
    refine gl_op rfl rfl rfl (op_pure hT rfl) ?_
    refine gl_op rfl rfl rfl (op_pure hT rfl) ?_
    refine gl_un rfl rfl rfl rfl ?_
    refine gl_op rfl rfl rfl (op_pure hT rfl) ?_
    refine gl_un rfl rfl rfl rfl ?_
    refine gl_op rfl rfl rfl (op_pure hT rfl) ?_
    refine gl_un rfl rfl rfl rfl ?_
    refine gl_callf rfl rfl rfl rfl Tryd.func10 rfl rfl rfl (same8_calls A28 A18 n c28 n c18 (encPV p) (encPV p) _ (rdE_of (hS.rd (i := 4) rfl) hn.symm) hn (rdE_of (hS.rd (i := 3) rfl) hn.symm) hn rfl) ?_
    rintro _ w60 ⟨rfl, hb60⟩
    refine ⟨_, rfl, ?_⟩
    have hS := hS.eqv hb60
    refine gl_un rfl rfl rfl rfl ?_
    refine gl_op rfl rfl rfl (op_pure hT rfl) ?_
    refine gl_op rfl rfl rfl (op_pure hT rfl) ?_
    refine gl_nil ?_
    refine hK12 _ _ ?_
    clear hK12; try clear K12
    refine gc_cond_f rfl ?_
    refine gc_skip ?_
    refine hK11 _ _ ?_
    clear hK11; try clear K11
    refine gc_seq fun K13 hK13 => ?_
    refine gc_region ?_
    refine gl_op rfl rfl rfl (op_pure hT rfl) ?_
    refine gl_nil ?_
    refine hK13 _ _ ?_
    clear hK13; try clear K13
    refine gc_block ?_
    refine gc_loop (fun kk a' w' => ∃ (i : Nat) (cs : List Value), Fr 79 a' [(1, .pointer (some ⟨g1, 0, none⟩)), (3, .pointer (some ⟨g3, 0, none⟩)), (4, .slice A18 n c18), (5, .int .i64 (formV p).1), (6, .int .i64 (formV p).2), (7, .int .i64 (k : Nat)), (8, .slice A28 n c28), (13, .int .i64 (i : Nat))] ∧ i ≤ n ∧ kk = n + 1 - i ∧
      St w.heap.size w w' [.blk g1 25 (propC C G M p), .keep K2 w15, .blk g3 29 (propC C2 G2 M2 p), .row A18 c18 5 1 n ((encPV p).map uB), .row A28 c28 5 1 n cs]) (n + 1) ?_ ?_ ?_
    · intro a' ha; exact ⟨0, _, ha.sub ⟨rfl, rfl, rfl, rfl, rfl, rfl, rfl, rfl, trivial⟩, by omega, by omega, hS⟩
    · rintro a' w' ⟨i, _, _, h1, h2, _⟩; omega
    clear hS
    rintro kk1 a' w1 ⟨i, cs, hF, hi, hki, hS⟩
    refine gc_of hF ?_
    clear hF
    have hcap := (hS.cap (i := 4) rfl)
    refine gc_seq fun K14 hK14 => ?_
    refine gc_seq fun K15 hK15 => ?_
    refine gc_region ?_
    refine gl_op rfl rfl rfl (op_pure hT rfl) ?_
    refine gl_op rfl rfl rfl (op_pure hT rfl) ?_
    refine gl_op rfl rfl rfl (op_pure hT rfl) ?_
    refine gl_op rfl rfl rfl (op_pure hT rfl) ?_
    refine gl_nil ?_
    refine hK15 _ _ ?_
    clear hK15; try clear K15
    refine gc_cond rfl rfl (fun c66 => ?_) (fun c66 => ?_)
    · try simp only [decide_eq_true_eq, decide_eq_false_iff_not, Bool.not_eq_true', Bool.not_eq_false', Int.not_lt, Int.not_le, Nat.not_lt, Nat.not_le, Bool.true_eq, Bool.false_eq, reduceCtorEq] at c66
      refine gc_skip ?_
      refine hK14 _ _ ?_
      clear hK14; try clear K14
      refine gc_seq fun K16 hK16 => ?_
      refine gc_block ?_
      refine gc_region ?_
      refine gl_op rfl rfl rfl (op_pure hT rfl) ?_
      refine gl_op rfl rfl rfl (op_pure hT rfl) ?_
      refine gl_ixR 4 hT hS rfl rfl rfl rfl rfl el5.cellsOf.1 el5.cellsOf.2 rfl rfl rfl (by omega) (by first | omega | (simp; omega)) (by first | exact Nat.le_refl _ | omega | (simp; omega)) fun g71 hg71 => ?_
      cases hg71
      refine gl_storeR 4 hS el5.cellsOf.1 el5.cellsOf.2 rfl rfl rfl rfl rfl rfl (by first | omega | (simp; omega)) rfl fun ws71 hS => ?_
      refine gl_nil ?_
      refine hK16 _ _ ?_
      clear hK16; try clear K16
      refine gc_region ?_
      refine gl_op rfl rfl rfl (op_pure hT rfl) ?_
      first | refine gl_fit hT rfl rfl rfl rfl (by omega) ?_ | refine gl_op rfl rfl rfl (op_pure hT rfl) ?_
      refine gl_op rfl rfl rfl (op_pure hT rfl) ?_
      refine gl_nil ?_
      intro a' ha
      exact ⟨i + 1, _, ha.sub ⟨rfl, rfl, rfl, rfl, rfl, rfl, rfl, rfl, trivial⟩, by omega, by omega, hS⟩
    · try simp only [decide_eq_true_eq, decide_eq_false_iff_not, Bool.not_eq_true', Bool.not_eq_false', Int.not_lt, Int.not_le, Nat.not_lt, Nat.not_le, Bool.true_eq, Bool.false_eq, reduceCtorEq] at c66
      refine gc_exit ?_
      refine hK8 _ _ ?_
      clear hK8; try clear K8
      refine gc_region ?_
      refine gl_op rfl rfl rfl (op_pure hT rfl) ?_
      first | refine gl_fit hT rfl rfl rfl rfl (by omega) ?_ | refine gl_op rfl rfl rfl (op_pure hT rfl) ?_
      refine gl_op rfl rfl rfl (op_pure hT rfl) ?_
      refine gl_nil ?_
      intro a' ha
      exact ⟨k + 1, ha.sub ⟨rfl, rfl, rfl, rfl, rfl, rfl, trivial⟩, by omega, by omega, hS.erase 4⟩
  · try simp only [decide_eq_true_eq, decide_eq_false_iff_not, Bool.not_eq_true', Bool.not_eq_false', Int.not_lt, Int.not_le, Nat.not_lt, Nat.not_le, Bool.true_eq, Bool.false_eq, reduceCtorEq] at c23
    refine gc_exit ?_
    refine hK4 _ _ ?_
    clear hK4; try clear K4
    refine gc_seq fun K17 hK17 => ?_
    refine gc_anyS hS (by kernel_rfl) rfl fun nq14 hK => ?_
    have hS := hS.dr nq14
    refine ga_take 0 rfl rfl rfl rfl (by kernel_rfl) (fun _ _ _ _ h => h) hK (fun w1 hS => op_loadG 0 Tryd.underlying25 rfl el25 hS rfl rfl rfl rfl rfl) ?_
    refine ga_take 2 rfl rfl rfl rfl (by kernel_rfl) (fun _ _ _ _ h => h) hK (fun w1 hS => op_loadG 2 Tryd.underlying29 rfl el29 hS rfl rfl rfl rfl rfl) ?_
    refine ga_one 1 (by kernel_rfl) rfl ?_
    refine gl_callf rfl rfl rfl rfl Tryd.func5 rfl rfl rfl (ofProp_calls C G M SG SM p _ (D.old hS) hp) ?_
    rintro _ w73 ⟨C3, G3, M3, SG3, SM3, K3, rfl, h73, hU73⟩
    refine ⟨_, rfl, ?_⟩
    have hS := hS.more h73
    refine gl_nil ?_
    refine ga_next (hS.pre 4) fun hK => ?_
    refine ga_one 3 (by kernel_rfl) rfl ?_
    refine gl_callf rfl rfl rfl rfl Tryd.func11 rfl rfl rfl (sameProp_calls C3 G3 M3 C2 G2 M2 SG3 SM3 SG2 SM2 p _ (PrU.keep hS (i := 4) rfl hU73) (PrU.keep hS (i := 1) rfl hU) hp) ?_
    rintro _ w75 ⟨rfl, hb75⟩
    refine ⟨_, rfl, ?_⟩
    have hS := hS.grown hb75
    refine gl_nil ?_
    refine ga_next (hS.pre 4) fun hK => ?_
    refine ga_take 4 rfl rfl rfl rfl (by kernel_rfl) (fun _ _ _ _ h => h) hK (fun w1 hS => op_pure hT rfl) ?_
    refine ga_one 5 (by kernel_rfl) rfl ?_
    refine gl_un rfl rfl rfl rfl ?_
    refine gl_callf rfl rfl rfl rfl Tryd.func12 rfl rfl rfl (started8_calls _) ?_
    rintro _ w77 ⟨rfl, hb77⟩
    refine ⟨_, rfl, ?_⟩
    have hS := hS.grown hb77
    refine gl_nil ?_
    refine ga_next (hS.pre 4) fun hK => ?_
    refine ga_take 6 rfl rfl rfl rfl (by kernel_rfl) (fun _ _ _ _ h => h) hK (fun w1 hS => op_pure hT rfl) ?_
    refine ga_take 7 rfl rfl rfl rfl (by kernel_rfl) (fun _ _ _ _ h => h) hK (fun w1 hS => op_pure hT rfl) ?_
    refine ga_done (by kernel_rfl) ?_
    refine hK17 _ _ ?_
    clear hK17; try clear K17
    refine gc_ret ?_
    try simp only [x_then_ret, x_block_ret]
    refine gk_ret1 rfl rfl ?_
    exact ⟨rfl, hS.below⟩
end Go.Proofs.YtnomlloaahoceaaDoor

