/- The contract of ambitlaw7.RowsAlike. No condition. -/
import Derived.Test.YtkfhablonnjgeaaAk1
import Derived.Test.YtkfhablonnjgeaaAlL
namespace Go.Proofs.Ytkfhablonnjgeaa
open Go.RowKit
set_option linter.unusedVariables false
set_option linter.unusedSimpArgs false
/-- A third of a small whole number. -/
def q3 (n : Int) : Option Nat := FloatKind.f64.format.div (fI n) 4613937818241073152
def q3ok (n : Int) : Bool := match q3 n with | some r => nmB r && decide (r < 18446744073709551616) | none => false
theorem q3_tab : smalls.all q3ok = true := by kernel_rfl
theorem q3_all {n : Int} (h : -9 ≤ n ∧ n ≤ 9) : ∃ r, FloatKind.f64.format.div (fI n) 4613937818241073152 = some r ∧ nmB r = true ∧ r < 18446744073709551616 := by
  have h2 : n ∈ smalls := by unfold smalls; simp only [List.mem_cons, List.not_mem_nil, or_false]; omega
  have h3 := List.all_eq_true.1 q3_tab n h2
  unfold q3ok q3 at h3
  cases hq : FloatKind.f64.format.div (fI n) 4613937818241073152 with
  | none => rw [hq] at h3; cases h3
  | some r => rw [hq] at h3; simp only [Bool.and_eq_true, decide_eq_true_eq] at h3; exact ⟨r, rfl, h3⟩
theorem conv_md {w : World} {K : Nat → Prop} {O C seed : Int} {W B Z Y : Sv} (ho : 1 ≤ O ∧ O ≤ 30) (hc : 1 ≤ C ∧ C ≤ 30) (h : MdOut w K (mdL 2 O 1 1 1 1 0 0 0 W B Z Y) ⟨C, 1, 1⟩ seed) : LyD w K (mdL 2 O 1 1 1 1 0 0 0 W B Z Y) (mdW seed (O * C).toNat) (mdB seed O.toNat) [] [] := by
  have h2 := h.rd
  have hl : lensV (mdL 2 O 1 1 1 1 0 0 0 W B Z Y) ⟨C, 1, 1⟩ = (O * C * 1 * 1, O, 0, 0) := rfl
  rw [hl] at h2
  simp only [Int.mul_one] at h2
  exact h2
theorem dense_md {w : World} {K : Nat → Prop} {O C seed : Int} {W B Z Y : Sv} (ho : 1 ≤ O ∧ O ≤ 30) (hc : 1 ≤ C ∧ C ≤ 30) (h : MdOut w K (mdL 1 O 0 0 0 0 0 0 0 W B Z Y) ⟨C, 1, 1⟩ seed) : LyD w K (mdL 1 O 0 0 0 0 0 0 0 W B Z Y) (mdW seed (O * C).toNat) (mdB seed O.toNat) [] [] := by
  have h2 := h.rd
  have hl : lensV (mdL 1 O 0 0 0 0 0 0 0 W B Z Y) ⟨C, 1, 1⟩ = (O * (C * 1 * 1), O, 0, 0) := rfl
  rw [hl] at h2
  simp only [Int.mul_one] at h2
  exact h2
theorem alike_rows {O C seed i : Int} {W B Z Y W2 B2 Z2 Y2 : Sv} (ho : 1 ≤ O ∧ O ≤ 30) (hc : 1 ≤ C ∧ C ≤ 30) (hi : 0 ≤ i ∧ i < O) :
    ∃ cols ws b, (⟨cols, ws, b, 0⟩ : Rw) = rowV (mdL 2 O 1 1 1 1 0 0 0 W B Z Y) (mdW seed (O * C).toNat) (mdB seed O.toNat) [] [] ⟨C, 1, 1⟩ i ∧ (⟨cols, ws, b, 0⟩ : Rw) = rowV (mdL 1 O 0 0 0 0 0 0 0 W2 B2 Z2 Y2) (mdW seed (O * C).toNat) (mdB seed O.toNat) [] [] ⟨C, 1, 1⟩ i ∧ cols.length ≤ 1048576 ∧ ws.length ≤ 1048576 := by
  have e0 : 0 ≤ O * C := Int.mul_nonneg (by omega) (by omega)
  have h1 : ((mdW seed (O * C).toNat).length : Int) = O * C := by rw [mdW_len]; omega
  have h2 : ((mdB seed O.toNat).length : Int) = O := by rw [mdB_len]; omega
  refine ⟨_, _, _, (conv1_row _ _ ⟨rfl, rfl, rfl, rfl, rfl, rfl, rfl, rfl, rfl, rfl⟩ ho hc hi h1 h2).symm, (dense1_row _ _ ⟨rfl, rfl, rfl, rfl, rfl, rfl, rfl, rfl, rfl, rfl⟩ ho hc hi h1 h2).symm, ?_, ?_⟩
  · rw [rangeI_len]; omega
  · simp; omega
theorem i64_small {x : Int} (h : -1000 ≤ x ∧ x ≤ 1000) : i64 x := ⟨by omega, by omega⟩
set_option maxHeartbeats 4000000 in
set_option maxRecDepth 100000 in
theorem RowsAlike_calls (o c seed : Int) (s : Sh) (w : World) (hs : s.ok) (hse : i64 seed) :
    Calls Try.prog 5 ⟨[.int .i64 o, .int .i64 c, .agg ⟨shC s⟩, .int .i64 seed]⟩ w fun e w' => e = .returned (.bool true) ∧ Below w.heap.size w w' := by
  refine gc_enter (N := 116) Try.func5 rfl rfl rfl [(0, _), (1, _), (2, _), (3, _)] rfl ?_
  have hS := St.start w
  refine gc_seq fun K1 hK1 => ?_
  refine gc_region ?_
  refine gl_box hS rfl rfl rfl rfl rfl fun g6 w6 hS => ?_
  refine gl_op rfl rfl rfl (op_pure hT rfl) ?_
  refine gl_nil ?_
  refine hK1 _ _ ?_
  clear hK1; try clear K1
  refine gc_cut (fun a w' => ∃ (O C : Int), Fr 116 a [(0, .int .i64 O), (1, .int .i64 C), (3, .int .i64 seed), (6, .pointer (some ⟨g6, 0, none⟩))] ∧ ((1 ≤ O ∧ O ≤ 30) ∧ (1 ≤ C ∧ C ≤ 30)) ∧ St w.heap.size w w' [.blk g6 27 (shC s)]) ?_ ?_
  · skip
    refine gc_seq fun K2 hK2 => ?_
    refine gc_region ?_
    refine gl_op rfl rfl rfl (op_pure hT rfl) ?_
    refine gl_op rfl rfl rfl (op_pure hT rfl) ?_
    refine gl_op rfl rfl rfl (op_pure hT rfl) ?_
    refine gl_split (t := 23) rfl (fun c23 => ?_) (fun c23 => ?_)
    · try simp only [decide_eq_true_eq, decide_eq_false_iff_not, Bool.not_eq_true', Bool.not_eq_false', Int.not_lt, Int.not_le, Nat.not_lt, Nat.not_le, Bool.true_eq, Bool.false_eq, reduceCtorEq] at c23
      refine gl_pass rfl rfl rfl rfl rfl rfl ?_
      refine gl_pass rfl rfl rfl rfl rfl rfl ?_
      refine gl_op rfl rfl rfl (op_pure hT rfl) ?_
      refine gl_op rfl rfl rfl (op_pure hT rfl) ?_
      refine gl_pass rfl rfl rfl rfl rfl rfl ?_
      refine gl_pass rfl rfl rfl rfl rfl rfl ?_
      refine gl_op rfl rfl rfl (op_pure hT rfl) ?_
      refine gl_op rfl rfl rfl (op_pure hT rfl) ?_
      refine gl_pass rfl rfl rfl rfl rfl rfl ?_
      refine gl_pass rfl rfl rfl rfl rfl rfl ?_
      refine gl_op rfl rfl rfl (op_pure hT rfl) ?_
      refine gl_nil ?_
      refine hK2 _ _ ?_
      clear hK2; try clear K2
      refine gc_cond_t rfl ?_
      refine gc_region ?_
      refine gl_op rfl rfl rfl (op_pure hT rfl) ?_
      refine gl_op rfl rfl rfl (op_pure hT rfl) ?_
      refine gl_nil ?_
      intro a ha
      first
        | exact ⟨2, 3, ha.sub ⟨rfl, rfl, rfl, rfl, trivial⟩, ⟨⟨by decide, by decide⟩, ⟨by decide, by decide⟩⟩, hS⟩
        | exact ⟨o, c, ha.sub ⟨rfl, rfl, rfl, rfl, trivial⟩, ⟨⟨by omega, by omega⟩, ⟨by omega, by omega⟩⟩, hS⟩
    · try simp only [decide_eq_true_eq, decide_eq_false_iff_not, Bool.not_eq_true', Bool.not_eq_false', Int.not_lt, Int.not_le, Nat.not_lt, Nat.not_le, Bool.true_eq, Bool.false_eq, reduceCtorEq] at c23
      refine gl_un rfl rfl rfl rfl ?_
      refine gl_op rfl rfl rfl (op_pure hT rfl) ?_
      refine gl_un rfl rfl rfl rfl ?_
      refine gl_op rfl rfl rfl (op_pure hT rfl) ?_
      refine gl_op rfl rfl rfl (op_pure hT rfl) ?_
      refine gl_op rfl rfl rfl (op_pure hT rfl) ?_
      refine gl_split (t := 27) rfl (fun c27 => ?_) (fun c27 => ?_)
      · try simp only [decide_eq_true_eq, decide_eq_false_iff_not, Bool.not_eq_true', Bool.not_eq_false', Int.not_lt, Int.not_le, Nat.not_lt, Nat.not_le, Bool.true_eq, Bool.false_eq, reduceCtorEq] at c27
        refine gl_pass rfl rfl rfl rfl rfl rfl ?_
        refine gl_pass rfl rfl rfl rfl rfl rfl ?_
        refine gl_op rfl rfl rfl (op_pure hT rfl) ?_
        refine gl_op rfl rfl rfl (op_pure hT rfl) ?_
        refine gl_pass rfl rfl rfl rfl rfl rfl ?_
        refine gl_pass rfl rfl rfl rfl rfl rfl ?_
        refine gl_op rfl rfl rfl (op_pure hT rfl) ?_
        refine gl_nil ?_
        refine hK2 _ _ ?_
        clear hK2; try clear K2
        refine gc_cond_t rfl ?_
        refine gc_region ?_
        refine gl_op rfl rfl rfl (op_pure hT rfl) ?_
        refine gl_op rfl rfl rfl (op_pure hT rfl) ?_
        refine gl_nil ?_
        intro a ha
        first
          | exact ⟨2, 3, ha.sub ⟨rfl, rfl, rfl, rfl, trivial⟩, ⟨⟨by decide, by decide⟩, ⟨by decide, by decide⟩⟩, hS⟩
          | exact ⟨o, c, ha.sub ⟨rfl, rfl, rfl, rfl, trivial⟩, ⟨⟨by omega, by omega⟩, ⟨by omega, by omega⟩⟩, hS⟩
      · try simp only [decide_eq_true_eq, decide_eq_false_iff_not, Bool.not_eq_true', Bool.not_eq_false', Int.not_lt, Int.not_le, Nat.not_lt, Nat.not_le, Bool.true_eq, Bool.false_eq, reduceCtorEq] at c27
        refine gl_un rfl rfl rfl rfl ?_
        refine gl_op rfl rfl rfl (op_pure hT rfl) ?_
        refine gl_un rfl rfl rfl rfl ?_
        refine gl_op rfl rfl rfl (op_pure hT rfl) ?_
        refine gl_op rfl rfl rfl (op_pure hT rfl) ?_
        refine gl_op rfl rfl rfl (op_pure hT rfl) ?_
        refine gl_split (t := 31) rfl (fun c31 => ?_) (fun c31 => ?_)
        · try simp only [decide_eq_true_eq, decide_eq_false_iff_not, Bool.not_eq_true', Bool.not_eq_false', Int.not_lt, Int.not_le, Nat.not_lt, Nat.not_le, Bool.true_eq, Bool.false_eq, reduceCtorEq] at c31
          refine gl_pass rfl rfl rfl rfl rfl rfl ?_
          refine gl_pass rfl rfl rfl rfl rfl rfl ?_
          refine gl_op rfl rfl rfl (op_pure hT rfl) ?_
          refine gl_nil ?_
          refine hK2 _ _ ?_
          clear hK2; try clear K2
          refine gc_cond_t rfl ?_
          refine gc_region ?_
          refine gl_op rfl rfl rfl (op_pure hT rfl) ?_
          refine gl_op rfl rfl rfl (op_pure hT rfl) ?_
          refine gl_nil ?_
          intro a ha
          first
            | exact ⟨2, 3, ha.sub ⟨rfl, rfl, rfl, rfl, trivial⟩, ⟨⟨by decide, by decide⟩, ⟨by decide, by decide⟩⟩, hS⟩
            | exact ⟨o, c, ha.sub ⟨rfl, rfl, rfl, rfl, trivial⟩, ⟨⟨by omega, by omega⟩, ⟨by omega, by omega⟩⟩, hS⟩
        · try simp only [decide_eq_true_eq, decide_eq_false_iff_not, Bool.not_eq_true', Bool.not_eq_false', Int.not_lt, Int.not_le, Nat.not_lt, Nat.not_le, Bool.true_eq, Bool.false_eq, reduceCtorEq] at c31
          refine gl_un rfl rfl rfl rfl ?_
          refine gl_op rfl rfl rfl (op_pure hT rfl) ?_
          refine gl_un rfl rfl rfl rfl ?_
          refine gl_op rfl rfl rfl (op_pure hT rfl) ?_
          refine gl_op rfl rfl rfl (op_pure hT rfl) ?_
          refine gl_nil ?_
          refine hK2 _ _ ?_
          clear hK2; try clear K2
          refine gc_cond rfl rfl (fun c34 => ?_) (fun c34 => ?_)
          · try simp only [decide_eq_true_eq, decide_eq_false_iff_not, Bool.not_eq_true', Bool.not_eq_false', Int.not_lt, Int.not_le, Nat.not_lt, Nat.not_le, Bool.true_eq, Bool.false_eq, reduceCtorEq] at c34
            refine gc_region ?_
            refine gl_op rfl rfl rfl (op_pure hT rfl) ?_
            refine gl_op rfl rfl rfl (op_pure hT rfl) ?_
            refine gl_nil ?_
            intro a ha
            first
              | exact ⟨2, 3, ha.sub ⟨rfl, rfl, rfl, rfl, trivial⟩, ⟨⟨by decide, by decide⟩, ⟨by decide, by decide⟩⟩, hS⟩
              | exact ⟨o, c, ha.sub ⟨rfl, rfl, rfl, rfl, trivial⟩, ⟨⟨by omega, by omega⟩, ⟨by omega, by omega⟩⟩, hS⟩
          · try simp only [decide_eq_true_eq, decide_eq_false_iff_not, Bool.not_eq_true', Bool.not_eq_false', Int.not_lt, Int.not_le, Nat.not_lt, Nat.not_le, Bool.true_eq, Bool.false_eq, reduceCtorEq] at c34
            refine gc_skip ?_
            intro a ha
            first
              | exact ⟨2, 3, ha.sub ⟨rfl, rfl, rfl, rfl, trivial⟩, ⟨⟨by decide, by decide⟩, ⟨by decide, by decide⟩⟩, hS⟩
              | exact ⟨o, c, ha.sub ⟨rfl, rfl, rfl, rfl, trivial⟩, ⟨⟨by omega, by omega⟩, ⟨by omega, by omega⟩⟩, hS⟩
  rintro a w1 ⟨O, C, hF, ⟨hO, hC⟩, hS⟩
  refine gc_of hF ?_
  clear hF
  have iO : i64 O := i64_small (by omega)
  have hsC : (⟨C, 1, 1⟩ : Sh).ok := ⟨i64_small (by simp only; omega), show i64 1 by decide, show i64 1 by decide⟩
  have hmul := mul_bd (a := O) (b := C) (A := 30) (B := 30) (by omega) (by omega) (by omega) (by omega)
  refine gc_seq fun K3 hK3 => ?_
  refine gc_region ?_
  refine gl_op rfl rfl rfl (op_pure hT rfl) ?_
  refine gl_op rfl rfl rfl (op_buildG rfl plan27 rfl rfl) ?_
  refine gl_alloc el27 hS rfl rfl rfl rfl fun g9 w9 hS => ?_
  refine gl_storeM 1 hS el27 rfl rfl rfl rfl rfl rfl rfl rfl rfl fun wlaw_go_342 hS => ?_
  refine gl_nil ?_
  refine hK3 _ _ ?_
  clear hK3; try clear K3
  refine gc_seq fun K4 hK4 => ?_
  refine gc_region ?_
  refine gl_op rfl rfl rfl (op_pure hT rfl) ?_
  refine gl_op rfl rfl rfl (op_pure hT rfl) ?_
  refine gl_op rfl rfl rfl (op_buildG rfl plan25 rfl rfl) ?_
  refine gl_op rfl rfl rfl (op_loadG 1 Try.underlying27 rfl el27 hS rfl rfl rfl rfl rfl) ?_
  refine gl_callf rfl rfl rfl rfl Try.func10 rfl rfl rfl (made_calls 2 O 1 1 1 1 0 0 seed ⟨C, 1, 1⟩ _ ⟨by decide, iO, by decide, by decide, by decide, by decide, by decide, by decide⟩ hsC 0 (by unfold mdA; exact (if_neg (by decide)).symm)) ?_
  rintro _ w42 ⟨W1, B1, Z1, Y1, b1, K1, rfl, h42, hm1, hm2⟩
  refine ⟨_, rfl, ?_⟩
  obtain rfl : b1 = true := hm2 (by rw [(conv1_out ⟨rfl, rfl, rfl, rfl, rfl, rfl, rfl, rfl, rfl, rfl⟩ hO hC).1]) (by show O * C * 1 * 1 ≤ 70000; omega) (show (0 : Int) ≤ 70000 by decide)
  have hD1 := conv_md hO hC (hm1 rfl)
  have hS := hS.more h42
  refine gl_op rfl rfl rfl (op_pure hT rfl) ?_
  refine gl_op rfl rfl rfl (op_pure hT rfl) ?_
  refine gl_op rfl rfl rfl (op_pure hT rfl) ?_
  refine gl_alloc el32 hS rfl rfl rfl rfl fun g10 w10 hS => ?_
  refine gl_storeM 3 hS el32 rfl rfl rfl rfl rfl rfl rfl rfl rfl fun wlaw_go_343 hS => ?_
  refine gl_op rfl rfl rfl (op_pure hT rfl) ?_
  refine gl_nil ?_
  refine hK4 _ _ ?_
  clear hK4; try clear K4
  refine gc_seq fun K5 hK5 => ?_
  refine gc_region ?_
  refine gl_op rfl rfl rfl (op_pure hT rfl) ?_
  refine gl_op rfl rfl rfl (op_pure hT rfl) ?_
  refine gl_op rfl rfl rfl (op_buildG rfl plan25 rfl rfl) ?_
  refine gl_op rfl rfl rfl (op_loadG 1 Try.underlying27 rfl el27 hS rfl rfl rfl rfl rfl) ?_
  refine gl_callf rfl rfl rfl rfl Try.func10 rfl rfl rfl (made_calls 1 O 0 0 0 0 0 0 seed ⟨C, 1, 1⟩ _ ⟨by decide, iO, by decide, by decide, by decide, by decide, by decide, by decide⟩ hsC 0 (by unfold mdA; exact (if_neg (by decide)).symm)) ?_
  rintro _ w50 ⟨W2, B2, Z2, Y2, b2, K2, rfl, h50, hm3, hm4⟩
  refine ⟨_, rfl, ?_⟩
  obtain rfl : b2 = true := hm4 (by rw [(dense1_out ⟨rfl, rfl, rfl, rfl, rfl, rfl, rfl, rfl, rfl, rfl⟩ hO hC).1]) (by show O * (C * 1 * 1) ≤ 70000; rw [Int.mul_one, Int.mul_one]; omega) (show (0 : Int) ≤ 70000 by decide)
  have hD2 := dense_md hO hC (hm3 rfl)
  have hS := hS.more h50
  refine gl_op rfl rfl rfl (op_pure hT rfl) ?_
  refine gl_op rfl rfl rfl (op_pure hT rfl) ?_
  refine gl_op rfl rfl rfl (op_pure hT rfl) ?_
  refine gl_alloc el32 hS rfl rfl rfl rfl fun g12 w12 hS => ?_
  refine gl_storeM 5 hS el32 rfl rfl rfl rfl rfl rfl rfl rfl rfl fun wlaw_go_344 hS => ?_
  refine gl_op rfl rfl rfl (op_pure hT rfl) ?_
  refine gl_nil ?_
  refine hK5 _ _ ?_
  clear hK5; try clear K5
  refine gc_seq fun K6 hK6 => ?_
  refine gc_seq fun K7 hK7 => ?_
  refine gc_region ?_
  refine gl_op rfl rfl rfl (op_pure hT rfl) ?_
  refine gl_op rfl rfl rfl (op_pure hT rfl) ?_
  refine gl_op rfl rfl rfl (op_pure hT rfl) ?_
  refine gl_un rfl rfl rfl rfl ?_
  refine gl_op rfl rfl rfl (op_pure hT rfl) ?_
  refine gl_un rfl rfl rfl rfl ?_
  refine gl_op rfl rfl rfl (op_pure hT rfl) ?_
  refine gl_op rfl rfl rfl (op_pure hT rfl) ?_
  refine gl_op rfl rfl rfl (op_pure hT rfl) ?_
  refine gl_un rfl rfl rfl rfl ?_
  refine gl_callf rfl rfl rfl rfl Try.func7 rfl rfl rfl (told_calls _) ?_
  rintro _ w60 ⟨rfl, hb60⟩
  refine ⟨_, rfl, ?_⟩
  have hS := hS.grown hb60
  refine gl_un rfl rfl rfl rfl ?_
  refine gl_op rfl rfl rfl (op_pure hT rfl) ?_
  refine gl_op rfl rfl rfl (op_pure hT rfl) ?_
  refine gl_nil ?_
  refine hK7 _ _ ?_
  clear hK7; try clear K7
  refine gc_cond_f rfl ?_
  refine gc_skip ?_
  refine hK6 _ _ ?_
  clear hK6; try clear K6
  refine gc_seq fun K8 hK8 => ?_
  refine gc_seq fun K9 hK9 => ?_
  refine gc_region ?_
  refine gl_op rfl rfl rfl (op_pure hT rfl) ?_
  refine gl_nil ?_
  refine hK9 _ _ ?_
  clear hK9; try clear K9
  refine gc_block ?_
  have hS : St w.heap.size w _ [.blk g6 27 (shC s), .blk g9 27 (shC ⟨C, 1, 1⟩), .keep K1 w42, .blk g10 32 (lyC (mdL 2 O 1 1 1 1 0 0 0 W1 B1 Z1 Y1)), .keep K2 w50, .blk g12 32 (lyC (mdL 1 O 0 0 0 0 0 0 0 W2 B2 Z2 Y2))] := hS
  obtain ⟨N, hN⟩ : ∃ N : Nat, O = (N : Int) := ⟨O.toNat, by omega⟩
  refine gc_loop (fun kk a' w' => ∃ (j : Nat), Fr 116 a' [(0, .int .i64 O), (3, .int .i64 seed), (6, .pointer (some ⟨g6, 0, none⟩)), (9, .pointer (some ⟨g9, 0, none⟩)), (10, .pointer (some ⟨g10, 0, none⟩)), (12, .pointer (some ⟨g12, 0, none⟩)), (14, .int .i64 (j : Nat))] ∧ j ≤ N ∧ kk = N + 1 - j ∧
    St w.heap.size w w' [.blk g6 27 (shC s), .blk g9 27 (shC ⟨C, 1, 1⟩), .keep K1 w42, .blk g10 32 (lyC (mdL 2 O 1 1 1 1 0 0 0 W1 B1 Z1 Y1)), .keep K2 w50, .blk g12 32 (lyC (mdL 1 O 0 0 0 0 0 0 0 W2 B2 Z2 Y2))]) (N + 1) ?_ ?_ ?_
  · intro a' ha; exact ⟨0, ha.sub ⟨rfl, rfl, rfl, rfl, rfl, rfl, rfl, trivial⟩, by omega, by omega, hS⟩
  · rintro a' w' ⟨j, _, h1, h2, _⟩; omega
  rintro kk a' w1 ⟨j, hF, hj, hk, hS⟩
  refine gc_of hF ?_
  clear hF
  refine gc_seq fun K10 hK10 => ?_
  refine gc_seq fun K11 hK11 => ?_
  refine gc_region ?_
  refine gl_op rfl rfl rfl (op_pure hT rfl) ?_
  refine gl_op rfl rfl rfl (op_pure hT rfl) ?_
  refine gl_op rfl rfl rfl (op_pure hT rfl) ?_
  refine gl_nil ?_
  refine hK11 _ _ ?_
  clear hK11; try clear K11
  refine gc_cond rfl rfl (fun c65 => ?_) (fun c65 => ?_)
  · try simp only [decide_eq_true_eq, decide_eq_false_iff_not, Bool.not_eq_true', Bool.not_eq_false', Int.not_lt, Int.not_le, Nat.not_lt, Nat.not_le, Bool.true_eq, Bool.false_eq, reduceCtorEq] at c65
    refine gc_skip ?_
    refine hK10 _ _ ?_
    clear hK10; try clear K10
    refine gc_seq fun K12 hK12 => ?_
    refine gc_block ?_
    refine gc_seq fun K13 hK13 => ?_
    refine gc_region ?_
    refine gl_op rfl rfl rfl (op_loadG 3 Try.underlying32 rfl el32 hS rfl rfl rfl rfl rfl) ?_
    refine gl_op rfl rfl rfl (op_loadG 5 Try.underlying32 rfl el32 hS rfl rfl rfl rfl rfl) ?_
    refine gl_op rfl rfl rfl (op_loadG 1 Try.underlying27 rfl el27 hS rfl rfl rfl rfl rfl) ?_
    refine gl_op rfl rfl rfl (op_pure hT rfl) ?_
    obtain ⟨cols, ws, b, hRa, hRb, hcl, hwl⟩ := alike_rows (i := (j : Int)) (seed := seed) (W := W1) (B := B1) (Z := Z1) (Y := Y1) (W2 := W2) (B2 := B2) (Z2 := Z2) (Y2 := Y2) hO hC ⟨by omega, by omega⟩
    refine gl_callf rfl rfl rfl rfl Try.func16 rfl rfl rfl (alike_calls (mdL 2 O 1 1 1 1 0 0 0 W1 B1 Z1 Y1) (mdL 1 O 0 0 0 0 0 0 0 W2 B2 Z2 Y2) _ _ _ _ _ _ _ _ ⟨C, 1, 1⟩ j _ (mdL_ok ⟨by decide, iO, by decide, by decide, by decide, by decide, by decide, by decide⟩ (by decide)) (mdL_ok ⟨by decide, iO, by decide, by decide, by decide, by decide, by decide, by decide⟩ (by decide)) hsC (hD1.keep hS (i := 2) rfl) (hD2.keep hS (i := 4) rfl) (i64_small (by omega)) cols ws b hRa hRb hcl hwl) ?_
    rintro _ w72 ⟨rfl, hb72⟩
    refine ⟨_, rfl, ?_⟩
    have hS := hS.grown hb72
    refine gl_op rfl rfl rfl (op_pure hT rfl) ?_
    refine gl_nil ?_
    refine hK13 _ _ ?_
    clear hK13; try clear K13
    refine gc_cond_f rfl ?_
    refine gc_skip ?_
    refine hK12 _ _ ?_
    clear hK12; try clear K12
    refine gc_region ?_
    refine gl_op rfl rfl rfl (op_pure hT rfl) ?_
    first | refine gl_fit hT rfl rfl rfl rfl (by omega) ?_ | refine gl_op rfl rfl rfl (op_pure hT rfl) ?_
    refine gl_op rfl rfl rfl (op_pure hT rfl) ?_
    refine gl_nil ?_
    intro a' ha
    exact ⟨j + 1, ha.sub ⟨rfl, rfl, rfl, rfl, rfl, rfl, rfl, trivial⟩, by omega, by omega, hS⟩
  · try simp only [decide_eq_true_eq, decide_eq_false_iff_not, Bool.not_eq_true', Bool.not_eq_false', Int.not_lt, Int.not_le, Nat.not_lt, Nat.not_le, Bool.true_eq, Bool.false_eq, reduceCtorEq] at c65
    refine gc_exit ?_
    refine hK8 _ _ ?_
    clear hK8; try clear K8
    refine gc_seq fun K14 hK14 => ?_
    refine gc_region ?_
    refine gl_op rfl rfl rfl (op_loadG 0 Try.underlying27 rfl el27 hS rfl rfl rfl rfl rfl) ?_
    refine gl_callf rfl rfl rfl rfl Try.func17 rfl rfl rfl (fSize_calls s _ hs) ?_
    rintro _ w76 ⟨rfl, hb76⟩
    refine ⟨_, rfl, ?_⟩
    have hS := hS.grown hb76
    refine gl_op rfl rfl rfl (op_pure hT rfl) ?_
    refine gl_op rfl rfl rfl (op_pure hT rfl) ?_
    refine gl_op rfl rfl rfl (op_pure hT rfl) ?_
    refine gl_op rfl rfl rfl (op_pure hT rfl) ?_
    refine gl_op rfl rfl rfl (op_pure hT rfl) ?_
    refine gl_nil ?_
    refine hK14 _ _ ?_
    clear hK14; try clear K14
    refine gc_seq fun K15 hK15 => ?_
    refine gc_seq fun K16 hK16 => ?_
    refine gc_region ?_
    refine gl_op rfl rfl rfl (op_pure hT rfl) ?_
    refine gl_op rfl rfl rfl (op_pure hT rfl) ?_
    refine gl_nil ?_
    refine hK16 _ _ ?_
    clear hK16; try clear K16
    refine gc_cond rfl rfl (fun c80 => ?_) (fun c80 => ?_)
    · try simp only [decide_eq_true_eq, decide_eq_false_iff_not, Bool.not_eq_true', Bool.not_eq_false', Int.not_lt, Int.not_le, Nat.not_lt, Nat.not_le, Bool.true_eq, Bool.false_eq, reduceCtorEq] at c80
      refine gc_seq fun K17 hK17 => ?_
      refine gc_region ?_
      refine gl_op rfl rfl rfl (op_pure hT rfl) ?_
      refine gl_nil ?_
      refine hK17 _ _ ?_
      clear hK17; try clear K17
      refine gc_ret ?_
      try simp only [x_then_ret, x_block_ret]
      refine gk_ret1 rfl rfl ?_
      exact ⟨rfl, hS.below⟩
    · try simp only [decide_eq_true_eq, decide_eq_false_iff_not, Bool.not_eq_true', Bool.not_eq_false', Int.not_lt, Int.not_le, Nat.not_lt, Nat.not_le, Bool.true_eq, Bool.false_eq, reduceCtorEq] at c80
      obtain ⟨hsz, hsz2⟩ := sizeV_ok c80
      have hgs := sz_good hsz
      obtain ⟨M, hM⟩ : ∃ M : Nat, s.c = (M : Int) := ⟨s.c.toNat, by omega⟩
      obtain ⟨G, hG⟩ : ∃ G : Nat, (sizeV s).1 = (G : Int) := ⟨(sizeV s).1.toNat, by omega⟩
      obtain ⟨r, hr, hrn, hr64⟩ := q3_all (smallV_bd seed 0)
      refine gc_skip ?_
      refine hK15 _ _ ?_
      clear hK15; try clear K15
      refine gc_seq fun K18 hK18 => ?_
      refine gc_region ?_
      refine gl_op rfl rfl rfl (op_pure hT rfl) ?_
      refine gl_callf rfl rfl rfl rfl Try.func18 rfl rfl rfl (small_calls seed 0 _) ?_
      rintro _ _ ⟨rfl, n82, rfl⟩
      refine ⟨_, rfl, ?_⟩
      have hS := hS.dr n82
      refine gl_op rfl rfl rfl (op_i2f hT rfl rfl rfl rfl) ?_
      refine gl_op rfl rfl rfl (op_farith rfl rfl rfl hr) ?_
      refine gl_op rfl rfl rfl (op_buildG rfl plan32 rfl rfl) ?_
      refine gl_alloc el32 hS rfl rfl rfl rfl fun g17 w17 hS => ?_
      refine gl_storeM 6 hS el32 rfl rfl rfl rfl rfl rfl rfl rfl rfl fun wlaw_go_357 hS => ?_
      refine gl_nil ?_
      refine hK18 _ _ ?_
      clear hK18; try clear K18
      refine gc_seq fun K19 hK19 => ?_
      refine gc_region ?_
      refine gl_op rfl rfl rfl (op_buildG rfl plan32 rfl rfl) ?_
      refine gl_alloc el32 hS rfl rfl rfl rfl fun g18 w18 hS => ?_
      refine gl_storeM 7 hS el32 rfl rfl rfl rfl rfl rfl rfl rfl rfl fun wlaw_go_358 hS => ?_
      refine gl_nil ?_
      refine hK19 _ _ ?_
      clear hK19; try clear K19
      refine gc_seq fun K20 hK20 => ?_
      refine gc_seq fun K21 hK21 => ?_
      refine gc_region ?_
      refine gl_op rfl rfl rfl (op_pure hT rfl) ?_
      refine gl_nil ?_
      refine hK21 _ _ ?_
      clear hK21; try clear K21
      refine gc_block ?_
      have hS := ((hS.nil 28 1).nil 28 1)
      refine gc_loop (fun kk a' w' => ∃ (j : Nat) (A : Option Addr) (cA : Nat) (A' : Option Addr) (cB : Nat), Fr 116 a' [(6, .pointer (some ⟨g6, 0, none⟩)), (15, .int .i64 (sizeV s).1), (17, .pointer (some ⟨g17, 0, none⟩)), (18, .pointer (some ⟨g18, 0, none⟩)), (19, .int .i64 (j : Nat))] ∧ j ≤ M ∧ kk = M + 1 - j ∧
        St w.heap.size w w' [.blk g6 27 (shC s), .blk g9 27 (shC ⟨C, 1, 1⟩), .keep K1 w42, .blk g10 32 (lyC (mdL 2 O 1 1 1 1 0 0 0 W1 B1 Z1 Y1)), .keep K2 w50, .blk g12 32 (lyC (mdL 1 O 0 0 0 0 0 0 0 W2 B2 Z2 Y2)),
          .blk g17 32 (lyC (mdL 4 0 1 1 1 1 0 0 r z4 z4 z4 z4)), .blk g18 32 (lyC (mdL 3 0 0 0 0 0 0 0 0 (A, j, cA) (A', j, cB) z4 z4)), .row A cA 28 1 j ((List.replicate j r).map fV), .row A' cB 28 1 j ((List.replicate j 0).map fV)]) (M + 1) ?_ ?_ ?_
      · intro a' ha; exact ⟨0, none, 0, none, 0, ha.sub ⟨rfl, rfl, rfl, rfl, rfl, trivial⟩, by omega, by omega, hS⟩
      · rintro a' w' ⟨j, _, _, _, _, _, h1, h2, _⟩; omega
      rintro kk a' w1 ⟨j, A, cA, A', cB, hF, hj, hk, hS⟩
      refine gc_of hF ?_
      clear hF
      refine gc_seq fun K22 hK22 => ?_
      refine gc_seq fun K23 hK23 => ?_
      refine gc_region ?_
      refine gl_op rfl rfl rfl (op_pure hT rfl) ?_
      refine gl_op rfl rfl rfl (op_fieldB 0 rfl Try.underlying27 rfl el3 rfl rfl) ?_
      refine gl_op rfl rfl rfl (op_loadB 0 hT hS rfl rfl rfl rfl rfl rfl) ?_
      refine gl_op rfl rfl rfl (op_pure hT rfl) ?_
      refine gl_nil ?_
      refine hK23 _ _ ?_
      clear hK23; try clear K23
      refine gc_cond rfl rfl (fun c90 => ?_) (fun c90 => ?_)
      · try simp only [decide_eq_true_eq, decide_eq_false_iff_not, Bool.not_eq_true', Bool.not_eq_false', Int.not_lt, Int.not_le, Nat.not_lt, Nat.not_le, Bool.true_eq, Bool.false_eq, reduceCtorEq] at c90
        refine gc_skip ?_
        refine hK22 _ _ ?_
        clear hK22; try clear K22
        refine gc_seq fun K24 hK24 => ?_
        refine gc_block ?_
        refine gc_seq fun K25 hK25 => ?_
        refine gc_region ?_
        refine gl_op rfl rfl rfl (op_fieldB 10 rfl Try.underlying32 rfl el29 rfl rfl) ?_
        refine gl_op rfl rfl rfl (op_loadB 7 hT hS rfl rfl rfl rfl rfl rfl) ?_
        refine gl_op rfl rfl rfl (op_fieldB 9 rfl Try.underlying32 rfl el28 rfl rfl) ?_
        refine gl_op rfl rfl rfl (op_loadB 6 hT hS rfl rfl rfl rfl rfl rfl) ?_
        refine gl_lit hT hS el28 rfl rfl rfl rfl rfl rfl rfl rfl rfl fun g97 w97 hS => ?_
        refine gl_append 8 hT hS el28 (hS.rd (i := 10) rfl) (rfl) rfl rfl rfl rfl rfl rfl rfl rfl (by first | omega | (simp; omega)) (by first | omega | (simp; omega)) fun A98 c98 w98 hS => ?_
        have hS := hS.erase 10
        refine gl_op rfl rfl rfl (op_fieldB 10 rfl Try.underlying32 rfl el29 rfl rfl) ?_
        refine gl_store 7 hS el29.cellsOf.1 el29.cellsOf.2 rfl rfl rfl rfl rfl rfl rfl rfl fun wlaw_go_360 hS => ?_
        refine gl_nil ?_
        refine hK25 _ _ ?_
        clear hK25; try clear K25
        refine gc_region ?_
        refine gl_op rfl rfl rfl (op_fieldB 11 rfl Try.underlying32 rfl el29 rfl rfl) ?_
        refine gl_op rfl rfl rfl (op_loadB 7 hT hS rfl rfl rfl rfl rfl rfl) ?_
        refine gl_lit hT hS el28 rfl rfl rfl rfl rfl rfl rfl rfl rfl fun g102 w102 hS => ?_
        refine gl_append 9 hT hS el28 (hS.rd (i := 10) rfl) (rfl) rfl rfl rfl rfl rfl rfl rfl rfl (by first | omega | (simp; omega)) (by first | omega | (simp; omega)) fun A103 c103 w103 hS => ?_
        have hS := hS.erase 10
        refine gl_op rfl rfl rfl (op_fieldB 11 rfl Try.underlying32 rfl el29 rfl rfl) ?_
        refine gl_store 7 hS el29.cellsOf.1 el29.cellsOf.2 rfl rfl rfl rfl rfl rfl rfl rfl fun wlaw_go_361 hS => ?_
        refine gl_nil ?_
        refine hK24 _ _ ?_
        clear hK24; try clear K24
        refine gc_region ?_
        refine gl_op rfl rfl rfl (op_pure hT rfl) ?_
        first | refine gl_fit hT rfl rfl rfl rfl (by omega) ?_ | refine gl_op rfl rfl rfl (op_pure hT rfl) ?_
        refine gl_op rfl rfl rfl (op_pure hT rfl) ?_
        refine gl_nil ?_
        intro a' ha
        refine ⟨j + 1, A98, c98, A103, c103, ha.sub ⟨rfl, rfl, rfl, rfl, rfl, trivial⟩, by omega, by omega, ?_⟩
        rw [List.replicate_succ', List.replicate_succ', List.map_append, List.map_append]
        exact hS
      · try simp only [decide_eq_true_eq, decide_eq_false_iff_not, Bool.not_eq_true', Bool.not_eq_false', Int.not_lt, Int.not_le, Nat.not_lt, Nat.not_le, Bool.true_eq, Bool.false_eq, reduceCtorEq] at c90
        have hjM : j = M := by omega
        subst hjM
        refine gc_exit ?_
        refine hK20 _ _ ?_
        clear hK20; try clear K20
        refine gc_seq fun K26 hK26 => ?_
        refine gc_seq fun K27 hK27 => ?_
        refine gc_region ?_
        refine gl_op rfl rfl rfl (op_pure hT rfl) ?_
        refine gl_nil ?_
        refine hK27 _ _ ?_
        clear hK27; try clear K27
        refine gc_block ?_
        refine gc_loop (fun kk a' w' => ∃ (i : Nat), Fr 116 a' [(6, .pointer (some ⟨g6, 0, none⟩)), (15, .int .i64 (sizeV s).1), (17, .pointer (some ⟨g17, 0, none⟩)), (18, .pointer (some ⟨g18, 0, none⟩)), (20, .int .i64 (i : Nat))] ∧ i ≤ G ∧ kk = G + 1 - i ∧
          St w.heap.size w w' [.blk g6 27 (shC s), .blk g9 27 (shC ⟨C, 1, 1⟩), .keep K1 w42, .blk g10 32 (lyC (mdL 2 O 1 1 1 1 0 0 0 W1 B1 Z1 Y1)), .keep K2 w50, .blk g12 32 (lyC (mdL 1 O 0 0 0 0 0 0 0 W2 B2 Z2 Y2)),
            .blk g17 32 (lyC (mdL 4 0 1 1 1 1 0 0 r z4 z4 z4 z4)), .blk g18 32 (lyC (mdL 3 0 0 0 0 0 0 0 0 (A, j, cA) (A', j, cB) z4 z4)), .row A cA 28 1 j ((List.replicate j r).map fV), .row A' cB 28 1 j ((List.replicate j 0).map fV)]) (G + 1) ?_ ?_ ?_
        · intro a' ha; exact ⟨0, ha.sub ⟨rfl, rfl, rfl, rfl, rfl, trivial⟩, by omega, by omega, hS⟩
        · rintro a' w' ⟨j, _, h1, h2, _⟩; omega
        rintro kk a' w1 ⟨i, hF, hi, hk, hS⟩
        refine gc_of hF ?_
        clear hF
        refine gc_seq fun K28 hK28 => ?_
        refine gc_seq fun K29 hK29 => ?_
        refine gc_region ?_
        refine gl_op rfl rfl rfl (op_pure hT rfl) ?_
        refine gl_op rfl rfl rfl (op_pure hT rfl) ?_
        refine gl_op rfl rfl rfl (op_pure hT rfl) ?_
        refine gl_nil ?_
        refine hK29 _ _ ?_
        clear hK29; try clear K29
        refine gc_cond rfl rfl (fun c107 => ?_) (fun c107 => ?_)
        · try simp only [decide_eq_true_eq, decide_eq_false_iff_not, Bool.not_eq_true', Bool.not_eq_false', Int.not_lt, Int.not_le, Nat.not_lt, Nat.not_le, Bool.true_eq, Bool.false_eq, reduceCtorEq] at c107
          refine gc_skip ?_
          refine hK28 _ _ ?_
          clear hK28; try clear K28
          refine gc_seq fun K30 hK30 => ?_
          refine gc_block ?_
          refine gc_seq fun K31 hK31 => ?_
          refine gc_region ?_
          refine gl_op rfl rfl rfl (op_loadG 6 Try.underlying32 rfl el32 hS rfl rfl rfl rfl rfl) ?_
          refine gl_op rfl rfl rfl (op_loadG 7 Try.underlying32 rfl el32 hS rfl rfl rfl rfl rfl) ?_
          refine gl_op rfl rfl rfl (op_loadG 0 Try.underlying27 rfl el27 hS rfl rfl rfl rfl rfl) ?_
          refine gl_op rfl rfl rfl (op_pure hT rfl) ?_
          have hii : 0 ≤ (i : Int) ∧ (i : Int) < s.c * s.h * s.w := ⟨by omega, by omega⟩
          have hlr : ∀ x : Nat, (List.replicate j x).length = j := fun x => List.length_replicate
          have hc1 := (hS.cap (i := 8) rfl).1
          have hc2 := (hS.cap (i := 9) rfl).1
          have hDm : LyD w1 All (mdL 4 0 1 1 1 1 0 0 r z4 z4 z4 z4) [] [] [] [] := ⟨RdE.nil _ _, rfl, Nat.le_refl _, RdE.nil _ _, rfl, Nat.le_refl _, RdE.nil _ _, rfl, Nat.le_refl _, RdE.nil _ _, rfl, Nat.le_refl _, (fun x hx => by cases hx), by decide, by decide, by decide, by decide⟩
          have hDs : LyD w1 All (mdL 3 0 0 0 0 0 0 0 0 (A, j, cA) (A', j, cB) z4 z4) (List.replicate j r) (List.replicate j 0) [] [] := ⟨rdE_len (hS.rd (i := 8) rfl) (hlr _), (hlr _).symm, by rw [hlr]; exact hc1, rdE_len (hS.rd (i := 9) rfl) (hlr _), (hlr _).symm, by rw [hlr]; exact hc2, RdE.nil _ _, rfl, Nat.le_refl _, RdE.nil _ _, rfl, Nat.le_refl _, (fun x hx => by cases hx), by rw [hlr]; omega, by rw [hlr]; omega, by decide, by decide⟩
          have hj2 : j = s.c.toNat := by omega
          have hRs := scale_row (L := mdL 3 0 0 0 0 0 0 0 0 (A, j, cA) (A', j, cB) z4 z4) (a := r) ⟨rfl, rfl, rfl, rfl, rfl, rfl, rfl, rfl, rfl, rfl⟩ hsz hii
          rw [← hj2] at hRs
          have hRm := mean1_row (L := mdL 4 0 1 1 1 1 0 0 r z4 z4 z4 z4) (a := r) ⟨rfl, rfl, rfl, rfl, rfl, rfl, rfl, rfl, rfl, rfl⟩ hrn hsz hii
          refine gl_callf rfl rfl rfl rfl Try.func16 rfl rfl rfl (alike_calls (mdL 4 0 1 1 1 1 0 0 r z4 z4 z4 z4) (mdL 3 0 0 0 0 0 0 0 0 (A, j, cA) (A', j, cB) z4 z4) _ _ _ _ _ _ _ _ s i _ (mdL_ok ⟨by decide, by decide, by decide, by decide, by decide, by decide, by decide, by decide⟩ hr64) (mdL_ok ⟨by decide, by decide, by decide, by decide, by decide, by decide, by decide, by decide⟩ (by decide)) hs hDm hDs (i64_small (by omega)) _ _ _ hRm.symm hRs.symm (show 1 ≤ 1048576 by decide) (show 1 ≤ 1048576 by decide)) ?_
          rintro _ w114 ⟨rfl, hb114⟩
          refine ⟨_, rfl, ?_⟩
          have hS := hS.grown hb114
          refine gl_op rfl rfl rfl (op_pure hT rfl) ?_
          refine gl_nil ?_
          refine hK31 _ _ ?_
          clear hK31; try clear K31
          refine gc_cond_f rfl ?_
          refine gc_skip ?_
          refine hK30 _ _ ?_
          clear hK30; try clear K30
          refine gc_region ?_
          refine gl_op rfl rfl rfl (op_pure hT rfl) ?_
          first | refine gl_fit hT rfl rfl rfl rfl (by omega) ?_ | refine gl_op rfl rfl rfl (op_pure hT rfl) ?_
          refine gl_op rfl rfl rfl (op_pure hT rfl) ?_
          refine gl_nil ?_
          intro a' ha
          exact ⟨i + 1, ha.sub ⟨rfl, rfl, rfl, rfl, rfl, trivial⟩, by omega, by omega, hS⟩
        · try simp only [decide_eq_true_eq, decide_eq_false_iff_not, Bool.not_eq_true', Bool.not_eq_false', Int.not_lt, Int.not_le, Nat.not_lt, Nat.not_le, Bool.true_eq, Bool.false_eq, reduceCtorEq] at c107
          refine gc_exit ?_
          refine hK26 _ _ ?_
          clear hK26; try clear K26
          refine gc_seq fun K32 hK32 => ?_
          refine gc_region ?_
          refine gl_op rfl rfl rfl (op_pure hT rfl) ?_
          refine gl_nil ?_
          refine hK32 _ _ ?_
          clear hK32; try clear K32
          refine gc_ret ?_
          try simp only [x_then_ret, x_block_ret]
          refine gk_ret1 rfl rfl ?_
          exact ⟨rfl, hS.below⟩
end Go.Proofs.Ytkfhablonnjgeaa
