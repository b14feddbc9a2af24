/- The contract of the document's own Fields. No condition. -/
import Derived.Test.YtkfhablonnjgeaaRf4
namespace Go.Proofs.Ytkfhablonnjgeaa
open Go.RowKit
set_option linter.unusedVariables false
set_option linter.unusedSimpArgs false
theorem slope_fields {L : Ly} (h1 : ¬ (L.k < 1 ∨ 12 < L.k)) (h2 : fldOk L) (h8 : L.k = 8 → L.a = 0) : fieldsV L = slopeV L := by
  unfold fieldsV slopeV bndA
  rw [if_neg h1, if_neg (fun h => h h2)]
  by_cases hk : L.k = 4 ∨ L.k = 8
  · rw [decide_eq_true hk]
    simp only [hk, not_true_eq_false, if_false, Bool.true_eq_false, false_and, true_and]
    by_cases hn : nmB L.a = false
    · rw [if_pos hn, if_pos hn]
    · rw [if_neg hn, if_neg hn]
      rw [if_neg]
      rintro ⟨h, ho⟩
      rw [h8 h] at ho
      exact absurd ho (by decide)
  · rw [decide_eq_false hk]
    simp only [hk, not_false_eq_true, if_true, true_and, Bool.false_eq_true, false_and, if_false]
    by_cases ha : L.a ≠ 0
    · rw [if_pos ha, if_pos ha]
    · rw [if_neg ha, if_neg ha, if_neg (fun h => hk (.inr h.1))]
theorem fbnd_at (k kh kw : Int) (j : Nat) (h : j < 16) : (bndC k kh kw)[j]? = some (.int .i64 ((bndI k kh kw).getD j 0)) := bnd_at k kh kw j h
set_option maxHeartbeats 2000000 in
set_option maxRecDepth 100000 in
theorem fFields_calls (L : Ly) (w : World) (hL : L.ok) (h8 : L.k = 8 → L.a = 0) : Calls Try.prog 46 ⟨[.agg ⟨rlC L⟩]⟩ w fun e w' => e = .returned (.int .i64 (fieldsV L)) ∧ Below w.heap.size w w' := by
  have hfits := fits_iff L
  refine gc_enter (N := 48) Try.func46 rfl rfl rfl [(0, _)] rfl ?_
  have hS := St.start w
  refine gc_seq fun K1 hK1 => ?_
  refine gc_region ?_
  refine gl_box hS rfl rfl rfl rfl rfl fun g1 w1 hS => ?_
  refine gl_op rfl rfl rfl (op_pure hT rfl) ?_
  refine gl_nil ?_
  refine hK1 _ _ ?_
  clear hK1; try clear K1
  refine gc_seq fun K2 hK2 => ?_
  refine gc_seq fun K3 hK3 => ?_
  refine gc_region ?_
  refine gl_op rfl rfl rfl (op_fieldB 0 rfl Try.underlying60 rfl el3 rfl rfl) ?_
  refine gl_op rfl rfl rfl (op_loadB 0 hT hS rfl rfl rfl rfl rfl rfl) ?_
  refine gl_callf rfl rfl rfl rfl Try.func50 rfl rfl rfl (fWithin_calls L.k 1 12 _) ?_
  rintro _ _ ⟨rfl, n8, rfl⟩
  refine ⟨_, rfl, ?_⟩
  have hS := hS.dr n8
  refine gl_op rfl rfl rfl (op_pure hT rfl) ?_
  refine gl_nil ?_
  refine hK3 _ _ ?_
  clear hK3; try clear K3
  refine gc_cond rfl rfl (fun c9 => ?_) (fun c9 => ?_)
  · try simp only [decide_eq_true_eq, decide_eq_false_iff_not, Bool.not_eq_true', Bool.not_eq_false', Int.not_lt, Int.not_le, Nat.not_lt, Nat.not_le, Bool.true_eq, Bool.false_eq, reduceCtorEq] at c9
    refine gc_seq fun K4 hK4 => ?_
    refine gc_region ?_
    refine gl_op rfl rfl rfl (op_pure hT rfl) ?_
    refine gl_nil ?_
    refine hK4 _ _ ?_
    clear hK4; try clear K4
    refine gc_ret ?_
    try simp only [x_then_ret, x_block_ret]
    refine gk_ret1 rfl rfl ?_
    exact ⟨by rw [fv_61 (by omega)], hS.below⟩
  · try simp only [decide_eq_true_eq, decide_eq_false_iff_not, Bool.not_eq_true', Bool.not_eq_false', Int.not_lt, Int.not_le, Nat.not_lt, Nat.not_le, Bool.true_eq, Bool.false_eq, reduceCtorEq] at c9
    refine gc_skip ?_
    refine hK2 _ _ ?_
    clear hK2; try clear K2
    refine gc_seq fun K5 hK5 => ?_
    refine gc_region ?_
    refine gl_op rfl rfl rfl (op_fieldB 1 rfl Try.underlying60 rfl el3 rfl rfl) ?_
    refine gl_op rfl rfl rfl (op_loadB 0 hT hS rfl rfl rfl rfl rfl rfl) ?_
    refine gl_op rfl rfl rfl (op_fieldB 2 rfl Try.underlying60 rfl el3 rfl rfl) ?_
    refine gl_op rfl rfl rfl (op_loadB 0 hT hS rfl rfl rfl rfl rfl rfl) ?_
    refine gl_op rfl rfl rfl (op_fieldB 3 rfl Try.underlying60 rfl el3 rfl rfl) ?_
    refine gl_op rfl rfl rfl (op_loadB 0 hT hS rfl rfl rfl rfl rfl rfl) ?_
    refine gl_op rfl rfl rfl (op_fieldB 4 rfl Try.underlying60 rfl el3 rfl rfl) ?_
    refine gl_op rfl rfl rfl (op_loadB 0 hT hS rfl rfl rfl rfl rfl rfl) ?_
    refine gl_op rfl rfl rfl (op_fieldB 5 rfl Try.underlying60 rfl el3 rfl rfl) ?_
    refine gl_op rfl rfl rfl (op_loadB 0 hT hS rfl rfl rfl rfl rfl rfl) ?_
    refine gl_op rfl rfl rfl (op_fieldB 6 rfl Try.underlying60 rfl el3 rfl rfl) ?_
    refine gl_op rfl rfl rfl (op_loadB 0 hT hS rfl rfl rfl rfl rfl rfl) ?_
    refine gl_op rfl rfl rfl (op_fieldB 7 rfl Try.underlying60 rfl el3 rfl rfl) ?_
    refine gl_op rfl rfl rfl (op_loadB 0 hT hS rfl rfl rfl rfl rfl rfl) ?_
    refine gl_op rfl rfl rfl (op_fieldB 8 rfl Try.underlying60 rfl el3 rfl rfl) ?_
    refine gl_op rfl rfl rfl (op_loadB 0 hT hS rfl rfl rfl rfl rfl rfl) ?_
    refine gl_op rfl rfl rfl (op_buildG rfl plan99 rfl rfl) ?_
    refine gl_alloc el99 hS rfl rfl rfl rfl fun g3 w3 hS => ?_
    refine gl_storeM 1 hS el99 rfl rfl rfl rfl rfl rfl rfl rfl rfl fun wambitref6_go_132 hS => ?_
    refine gl_nil ?_
    refine hK5 _ _ ?_
    clear hK5; try clear K5
    refine gc_seq fun K6 hK6 => ?_
    refine gc_region ?_
    refine gl_op rfl rfl rfl (op_loadG 0 Try.underlying60 rfl el60 hS rfl rfl rfl rfl rfl) ?_
    refine gl_callf rfl rfl rfl rfl Try.func51 rfl rfl rfl (fBounds_calls L _ hL.kh hL.kw) ?_
    rintro _ w28 ⟨rfl, hb28⟩
    refine ⟨_, rfl, ?_⟩
    have hS := hS.grown hb28
    refine gl_alloc el103 hS rfl rfl rfl rfl fun g4 w4 hS => ?_
    refine gl_storeM 2 hS el103 rfl rfl rfl rfl rfl rfl (bndC_len L.k L.kh L.kw) rfl (bndC_one L.k L.kh L.kw) fun wambitref6_go_133 hS => ?_
    refine gl_nil ?_
    refine hK6 _ _ ?_
    clear hK6; try clear K6
    refine gc_seq fun K7 hK7 => ?_
    refine gc_seq fun K8 hK8 => ?_
    refine gc_region ?_
    refine gl_op rfl rfl rfl (op_pure hT rfl) ?_
    refine gl_nil ?_
    refine hK8 _ _ ?_
    clear hK8; try clear K8
    refine gc_block ?_
    have hS : St w.heap.size w _ [.blk g1 60 (rlC L), .blk g3 99 ((fldI L).map (Value.int .i64)), .blk g4 103 (spliceL [.int .i64 0, .int .i64 0, .int .i64 0, .int .i64 0, .int .i64 0, .int .i64 0, .int .i64 0, .int .i64 0, .int .i64 0, .int .i64 0, .int .i64 0, .int .i64 0, .int .i64 0, .int .i64 0, .int .i64 0, .int .i64 0] 0 (bndC L.k L.kh L.kw))] := hS
    have e1 : spliceL [.int .i64 0, .int .i64 0, .int .i64 0, .int .i64 0, .int .i64 0, .int .i64 0, .int .i64 0, .int .i64 0, .int .i64 0, .int .i64 0, .int .i64 0, .int .i64 0, .int .i64 0, .int .i64 0, .int .i64 0, .int .i64 0] 0 (bndC L.k L.kh L.kw) = bndC L.k L.kh L.kw := by unfold spliceL; rw [bndC_len, List.drop_eq_nil_of_le (by decide)]; simp
    rw [e1] at hS
    refine gc_loop (fun n a' w' => ∃ i : Nat, Fr 48 a' [(1, .pointer (some ⟨g1, 0, none⟩)), (3, .pointer (some ⟨g3, 0, none⟩)), (4, .pointer (some ⟨g4, 0, none⟩)), (5, .int .i64 (i : Nat))] ∧ i ≤ 8 ∧ n = 9 - i ∧ (∀ j, j < i → fitAt L j) ∧
      St w.heap.size w w' [.blk g1 60 (rlC L), .blk g3 99 ((fldI L).map (Value.int .i64)), .blk g4 103 (bndC L.k L.kh L.kw)]) 9 ?_ ?_ ?_
    · intro a' ha
      exact ⟨0, ha.sub ⟨rfl, rfl, rfl, rfl, trivial⟩, by omega, by omega, fun j hj => by omega, hS⟩
    · rintro a' w' ⟨i, _, h1, h2, _⟩; omega
    rintro n a' w' ⟨i, hF, hi, hn, hfit, hS⟩
    refine gc_of hF ?_
    clear hF
    refine gc_seq fun K9 hK9 => ?_
    refine gc_seq fun K10 hK10 => ?_
    refine gc_region ?_
    refine gl_op rfl rfl rfl (op_pure hT rfl) ?_
    refine gl_op rfl rfl rfl (op_pure hT rfl) ?_
    refine gl_nil ?_
    refine hK10 _ _ ?_
    clear hK10; try clear K10
    refine gc_cond rfl rfl (fun c30 => ?_) (fun c30 => ?_)
    · try simp only [decide_eq_true_eq, decide_eq_false_iff_not, Bool.not_eq_true', Bool.not_eq_false', Int.not_lt, Int.not_le, Nat.not_lt, Nat.not_le, Bool.true_eq, Bool.false_eq, reduceCtorEq] at c30
      refine gc_skip ?_
      refine hK9 _ _ ?_
      clear hK9; try clear K9
      refine gc_seq fun K11 hK11 => ?_
      refine gc_block ?_
      refine gc_seq fun K12 hK12 => ?_
      refine gc_anyS hS (by kernel_rfl) rfl fun nq8 hK => ?_
      have hS := hS.dr nq8
      refine ga_take 0 rfl rfl rfl rfl (by kernel_rfl) (fun _ _ _ _ _ h => h) hK (fun w1 hS => op_pure hT rfl) ?_
      refine ga_take 1 rfl rfl rfl rfl (by kernel_rfl) (fun _ _ _ _ _ h => h) hK (fun w1 hS => op_ixA (j := i) rfl Try.underlying99 el3 rfl rfl (by omega) (by omega) (by rw [Int.toNat_natCast]; omega)) ?_
      refine ga_take 2 rfl rfl rfl rfl (by kernel_rfl) (fun _ _ _ _ _ h => h) hK (fun w1 hS => op_loadB 1 hT hS rfl rfl rfl rfl rfl (int_at (fldI L) i (by show i < 8; omega))) ?_
      refine ga_take 3 rfl rfl rfl rfl (by kernel_rfl) (fun _ _ _ _ _ h => h) hK (fun w1 hS => op_pure hT rfl) ?_
      refine ga_take 4 rfl rfl rfl rfl (by kernel_rfl) (fun _ _ _ _ _ h => h) hK (fun w1 hS => op_ixA (j := i * 2) rfl Try.underlying103 el102 rfl rfl (by omega) (by omega) (by rw [Int.toNat_natCast]; omega)) ?_
      refine ga_take 5 rfl rfl rfl rfl (by kernel_rfl) (fun _ _ _ _ _ h => h) hK (fun w1 hS => op_ixA (j := i * 2) rfl Try.underlying102 el3 rfl rfl (by decide) (by decide) (by omega)) ?_
      refine ga_take 6 rfl rfl rfl rfl (by kernel_rfl) (fun _ _ _ _ _ h => h) hK (fun w1 hS => op_loadB 2 hT hS rfl rfl rfl rfl rfl (fbnd_at L.k L.kh L.kw (i * 2) (by omega))) ?_
      refine ga_take 7 rfl rfl rfl rfl (by kernel_rfl) (fun _ _ _ _ _ h => h) hK (fun w1 hS => op_pure hT rfl) ?_
      refine ga_take 8 rfl rfl rfl rfl (by kernel_rfl) (fun _ _ _ _ _ h => h) hK (fun w1 hS => op_ixA (j := i * 2) rfl Try.underlying103 el102 rfl rfl (by omega) (by omega) (by rw [Int.toNat_natCast]; omega)) ?_
      refine ga_take 9 rfl rfl rfl rfl (by kernel_rfl) (fun _ _ _ _ _ h => h) hK (fun w1 hS => op_ixA (j := i * 2 + 1) rfl Try.underlying102 el3 rfl rfl (by decide) (by decide) (by omega)) ?_
      refine ga_take 10 rfl rfl rfl rfl (by kernel_rfl) (fun _ _ _ _ _ h => h) hK (fun w1 hS => op_loadB 2 hT hS rfl rfl rfl rfl rfl (fbnd_at L.k L.kh L.kw (i * 2 + 1) (by omega))) ?_
      refine ga_one 11 (by kernel_rfl) rfl ?_
      refine gl_callf rfl rfl rfl rfl Try.func50 rfl rfl rfl (fWithin_calls _ _ _ _) ?_
      rintro _ _ ⟨rfl, n44, rfl⟩
      refine ⟨_, rfl, ?_⟩
      have hS := hS.dr n44
      refine gl_nil ?_
      refine ga_next (hS.pre 3) fun hK => ?_
      refine ga_take 12 rfl rfl rfl rfl (by kernel_rfl) (fun _ _ _ _ _ h => h) hK (fun w1 hS => op_pure hT rfl) ?_
      refine ga_done (by kernel_rfl) ?_
      refine hK12 _ _ ?_
      clear hK12; try clear K12
      refine gc_cond rfl rfl (fun c45 => ?_) (fun c45 => ?_)
      · try simp only [decide_eq_true_eq, decide_eq_false_iff_not, Bool.not_eq_true', Bool.not_eq_false', Int.not_lt, Int.not_le, Nat.not_lt, Nat.not_le, Bool.true_eq, Bool.false_eq, reduceCtorEq] at c45
        refine gc_seq fun K13 hK13 => ?_
        refine gc_region ?_
        refine gl_op rfl rfl rfl (op_pure hT rfl) ?_
        refine gl_nil ?_
        refine hK13 _ _ ?_
        clear hK13; try clear K13
        refine gc_ret ?_
        try simp only [x_then_ret, x_block_ret]
        refine gk_ret1 rfl rfl ?_
        refine ⟨?_, hS.below⟩
        rw [fv_62 (by omega)]
        intro hok
        have hx := hfits.2 hok i (by omega)
        unfold fitAt at hx
        rw [Nat.mul_comm 2 i] at hx
        omega
      · try simp only [decide_eq_true_eq, decide_eq_false_iff_not, Bool.not_eq_true', Bool.not_eq_false', Int.not_lt, Int.not_le, Nat.not_lt, Nat.not_le, Bool.true_eq, Bool.false_eq, reduceCtorEq] at c45
        refine gc_skip ?_
        refine hK11 _ _ ?_
        clear hK11; try clear K11
        refine gc_region ?_
        refine gl_op rfl rfl rfl (op_pure hT rfl) ?_
        first | refine gl_fit hT rfl rfl rfl rfl (by omega) ?_ | refine gl_op rfl rfl rfl (op_pure hT rfl) ?_
        refine gl_op rfl rfl rfl (op_pure hT rfl) ?_
        refine gl_nil ?_
        intro a' ha
        refine ⟨i + 1, ha.sub ⟨rfl, rfl, rfl, rfl, trivial⟩, by omega, by omega, fun j hj => ?_, hS⟩
        rcases Nat.lt_or_ge j i with h | h
        · exact hfit j h
        · have hj2 : j = i := by omega
          subst hj2
          unfold fitAt
          rw [Nat.mul_comm 2 j]
          omega
    · try simp only [decide_eq_true_eq, decide_eq_false_iff_not, Bool.not_eq_true', Bool.not_eq_false', Int.not_lt, Int.not_le, Nat.not_lt, Nat.not_le, Bool.true_eq, Bool.false_eq, reduceCtorEq] at c30
      have hok : fldOk L := hfits.1 fun j hj => hfit j (by omega)
      refine gc_exit ?_
      refine hK7 _ _ ?_
      clear hK7; try clear K7
      refine gc_seq fun K14 hK14 => ?_
      refine gc_region ?_
      refine gl_op rfl rfl rfl (op_loadG 0 Try.underlying60 rfl el60 hS rfl rfl rfl rfl rfl) ?_
      refine gl_callf rfl rfl rfl rfl Try.func52 rfl rfl rfl (slope_calls L _ hL.a h8) ?_
      rintro _ w47 ⟨rfl, hb47⟩
      refine ⟨_, rfl, ?_⟩
      have hS := hS.grown hb47
      refine gl_op rfl rfl rfl (op_pure hT rfl) ?_
      refine gl_nil ?_
      refine hK14 _ _ ?_
      clear hK14; try clear K14
      refine gc_ret ?_
      try simp only [x_then_ret, x_block_ret]
      refine gk_ret1 rfl rfl ?_
      exact ⟨by rw [slope_fields (by omega) hok h8], hS.below⟩
end Go.Proofs.Ytkfhablonnjgeaa
