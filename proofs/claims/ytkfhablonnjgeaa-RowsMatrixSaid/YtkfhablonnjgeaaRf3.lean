/- Contracts of the document's own sizes and slopes. No condition. -/
import Derived.Test.YtkfhablonnjgeaaRf2
namespace Go.Proofs.Ytkfhablonnjgeaa
open Go.RowKit
set_option linter.unusedVariables false
set_option linter.unusedSimpArgs false
theorem fWithin_calls (n lo hi : Int) (w : World) : Calls Try.prog 50 ⟨[.int .i64 n, .int .i64 lo, .int .i64 hi]⟩ w fun e w' => e = .returned (.bool (decide (lo ≤ n ∧ n ≤ hi))) ∧ Eqv w w' := by
  refine gc_enter (N := 15) Try.func50 rfl rfl rfl [(0, _), (1, _), (2, _)] rfl ?_
  refine gc_seq fun K1 hK1 => ?_
  refine gc_region ?_
  refine gl_op rfl rfl rfl (op_pure hT rfl) ?_
  refine gl_nil ?_
  refine hK1 _ _ ?_
  clear hK1; try clear K1
  refine gc_seq fun K2 hK2 => ?_
  refine gc_region ?_
  refine gl_op rfl rfl rfl (op_pure hT rfl) ?_
  refine gl_op rfl rfl rfl (op_pure hT rfl) ?_
  refine gl_op rfl rfl rfl (op_pure hT rfl) ?_
  refine gl_op rfl rfl rfl (op_pure hT rfl) ?_
  refine gl_split (t := 10) rfl (fun c10 => ?_) (fun c10 => ?_)
  · try simp only [decide_eq_true_eq, decide_eq_false_iff_not, Bool.not_eq_true', Bool.not_eq_false', Int.not_lt, Int.not_le, Nat.not_lt, Nat.not_le, Bool.true_eq, Bool.false_eq, reduceCtorEq] at c10
    refine gl_un rfl rfl rfl rfl ?_
    refine gl_op rfl rfl rfl (op_pure hT rfl) ?_
    refine gl_un rfl rfl rfl rfl ?_
    refine gl_op rfl rfl rfl (op_pure hT rfl) ?_
    refine gl_un rfl rfl rfl rfl ?_
    refine gl_op rfl rfl rfl (op_pure hT rfl) ?_
    refine gl_op rfl rfl rfl (op_pure hT rfl) ?_
    refine gl_op rfl rfl rfl (op_pure hT rfl) ?_
    refine gl_nil ?_
    refine hK2 _ _ ?_
    clear hK2; try clear K2
    refine gc_ret ?_
    try simp only [x_then_ret, x_block_ret]
    refine gk_ret1 rfl rfl ?_
    first
      | exact ⟨by rw [decide_eq_false (show ¬ (lo ≤ n ∧ n ≤ hi) by omega)], Eqv.refl _⟩
      | exact ⟨congrArg (fun b => Ending.returned (Value.bool b)) (decide_eq_decide.2 (by omega)), Eqv.refl _⟩
  · try simp only [decide_eq_true_eq, decide_eq_false_iff_not, Bool.not_eq_true', Bool.not_eq_false', Int.not_lt, Int.not_le, Nat.not_lt, Nat.not_le, Bool.true_eq, Bool.false_eq, reduceCtorEq] at c10
    refine gl_pass rfl rfl rfl rfl rfl rfl ?_
    refine gl_pass rfl rfl rfl rfl rfl rfl ?_
    refine gl_pass rfl rfl rfl rfl rfl rfl ?_
    refine gl_op rfl rfl rfl (op_pure hT rfl) ?_
    refine gl_op rfl rfl rfl (op_pure hT rfl) ?_
    refine gl_nil ?_
    refine hK2 _ _ ?_
    clear hK2; try clear K2
    refine gc_ret ?_
    try simp only [x_then_ret, x_block_ret]
    refine gk_ret1 rfl rfl ?_
    first
      | exact ⟨by rw [decide_eq_false (show ¬ (lo ≤ n ∧ n ≤ hi) by omega)], Eqv.refl _⟩
      | exact ⟨congrArg (fun b => Ending.returned (Value.bool b)) (decide_eq_decide.2 (by omega)), Eqv.refl _⟩
theorem fWindows_calls (k : Int) (w : World) : Calls Try.prog 53 ⟨[.int .i64 k]⟩ w fun e w' => e = .returned (.bool (decide (winV k))) ∧ Eqv w w' := by
  refine gc_enter (N := 13) Try.func53 rfl rfl rfl [(0, _)] rfl ?_
  refine gc_seq fun K1 hK1 => ?_
  refine gc_region ?_
  refine gl_op rfl rfl rfl (op_pure hT rfl) ?_
  refine gl_nil ?_
  refine hK1 _ _ ?_
  clear hK1; try clear K1
  refine gc_seq fun K2 hK2 => ?_
  refine gc_region ?_
  refine gl_op rfl rfl rfl (op_pure hT rfl) ?_
  refine gl_op rfl rfl rfl (op_pure hT rfl) ?_
  refine gl_op rfl rfl rfl (op_pure hT rfl) ?_
  refine gl_split (t := 5) rfl (fun c5 => ?_) (fun c5 => ?_)
  · try simp only [decide_eq_true_eq, decide_eq_false_iff_not, Bool.not_eq_true', Bool.not_eq_false', Int.not_lt, Int.not_le, Nat.not_lt, Nat.not_le, Bool.true_eq, Bool.false_eq, reduceCtorEq] at c5
    refine gl_pass rfl rfl rfl rfl rfl rfl ?_
    refine gl_pass rfl rfl rfl rfl rfl rfl ?_
    refine gl_op rfl rfl rfl (op_pure hT rfl) ?_
    refine gl_op rfl rfl rfl (op_pure hT rfl) ?_
    refine gl_pass rfl rfl rfl rfl rfl rfl ?_
    refine gl_pass rfl rfl rfl rfl rfl rfl ?_
    refine gl_op rfl rfl rfl (op_pure hT rfl) ?_
    refine gl_op rfl rfl rfl (op_pure hT rfl) ?_
    refine gl_nil ?_
    refine hK2 _ _ ?_
    clear hK2; try clear K2
    refine gc_ret ?_
    try simp only [x_then_ret, x_block_ret]
    refine gk_ret1 rfl rfl ?_
    first
      | exact ⟨by rw [decide_eq_true (show winV k by unfold winV; omega)], Eqv.refl _⟩
      | exact ⟨congrArg (fun b => Ending.returned (Value.bool b)) (decide_eq_decide.2 (by unfold winV; omega)), Eqv.refl _⟩
  · try simp only [decide_eq_true_eq, decide_eq_false_iff_not, Bool.not_eq_true', Bool.not_eq_false', Int.not_lt, Int.not_le, Nat.not_lt, Nat.not_le, Bool.true_eq, Bool.false_eq, reduceCtorEq] at c5
    refine gl_un rfl rfl rfl rfl ?_
    refine gl_op rfl rfl rfl (op_pure hT rfl) ?_
    refine gl_un rfl rfl rfl rfl ?_
    refine gl_op rfl rfl rfl (op_pure hT rfl) ?_
    refine gl_op rfl rfl rfl (op_pure hT rfl) ?_
    refine gl_op rfl rfl rfl (op_pure hT rfl) ?_
    refine gl_split (t := 9) rfl (fun c9 => ?_) (fun c9 => ?_)
    · try simp only [decide_eq_true_eq, decide_eq_false_iff_not, Bool.not_eq_true', Bool.not_eq_false', Int.not_lt, Int.not_le, Nat.not_lt, Nat.not_le, Bool.true_eq, Bool.false_eq, reduceCtorEq] at c9
      refine gl_pass rfl rfl rfl rfl rfl rfl ?_
      refine gl_pass rfl rfl rfl rfl rfl rfl ?_
      refine gl_op rfl rfl rfl (op_pure hT rfl) ?_
      refine gl_op rfl rfl rfl (op_pure hT rfl) ?_
      refine gl_nil ?_
      refine hK2 _ _ ?_
      clear hK2; try clear K2
      refine gc_ret ?_
      try simp only [x_then_ret, x_block_ret]
      refine gk_ret1 rfl rfl ?_
      first
        | exact ⟨by rw [decide_eq_true (show winV k by unfold winV; omega)], Eqv.refl _⟩
        | exact ⟨congrArg (fun b => Ending.returned (Value.bool b)) (decide_eq_decide.2 (by unfold winV; omega)), Eqv.refl _⟩
    · try simp only [decide_eq_true_eq, decide_eq_false_iff_not, Bool.not_eq_true', Bool.not_eq_false', Int.not_lt, Int.not_le, Nat.not_lt, Nat.not_le, Bool.true_eq, Bool.false_eq, reduceCtorEq] at c9
      refine gl_un rfl rfl rfl rfl ?_
      refine gl_op rfl rfl rfl (op_pure hT rfl) ?_
      refine gl_un rfl rfl rfl rfl ?_
      refine gl_op rfl rfl rfl (op_pure hT rfl) ?_
      refine gl_op rfl rfl rfl (op_pure hT rfl) ?_
      refine gl_op rfl rfl rfl (op_pure hT rfl) ?_
      refine gl_nil ?_
      refine hK2 _ _ ?_
      clear hK2; try clear K2
      refine gc_ret ?_
      try simp only [x_then_ret, x_block_ret]
      refine gk_ret1 rfl rfl ?_
      first
        | exact ⟨by rw [decide_eq_true (show winV k by unfold winV; omega)], Eqv.refl _⟩
        | exact ⟨congrArg (fun b => Ending.returned (Value.bool b)) (decide_eq_decide.2 (by unfold winV; omega)), Eqv.refl _⟩
theorem le_div {a b : Int} (hb : 0 < b) : a ≤ 256 / b ↔ a * b ≤ 256 := Int.le_ediv_iff_mul_le hb
theorem sz_bad1 {c h x : Int} (h1 : 1 ≤ c) (h2 : 1 ≤ h) (h3 : 1 ≤ x) (hq : 256 / c < h) : szBad ⟨c, h, x⟩ := by
  have hb : ¬ h * c ≤ 256 := fun hh => by have := (le_div (show 0 < c by omega)).2 hh; omega
  rw [Int.mul_comm] at hb
  have h4 : c * h * 1 ≤ c * h * x := Int.mul_le_mul_of_nonneg_left h3 (Int.mul_nonneg (by omega) (by omega))
  unfold szBad
  dsimp only
  omega
theorem sz_bad2 {c h x : Int} (h1 : 1 ≤ c * h) (hq : 256 / (c * h) < x) : szBad ⟨c, h, x⟩ := by
  have hb : ¬ x * (c * h) ≤ 256 := fun hh => by have := (le_div (show 0 < c * h by omega)).2 hh; omega
  rw [Int.mul_comm] at hb
  unfold szBad
  dsimp only
  omega
theorem sz_fine {c h x : Int} (h1 : 1 ≤ c) (hc : c ≤ 256) (h2 : 1 ≤ h) (h3 : 1 ≤ x) (h4 : 1 ≤ c * h) (hq : x ≤ 256 / (c * h)) : ¬ szBad ⟨c, h, x⟩ ∧ c * h * x ≤ 256 := by
  have hb := (le_div (show 0 < c * h by omega)).1 hq
  rw [Int.mul_comm] at hb
  have h5 : c * h * 1 ≤ c * h * x := Int.mul_le_mul_of_nonneg_left h3 (by omega)
  have h6 : 1 * h ≤ c * h := Int.mul_le_mul_of_nonneg_right h1 (by omega)
  have h7 : 1 * x ≤ c * h * x := Int.mul_le_mul_of_nonneg_right h4 (by omega)
  refine ⟨?_, hb⟩
  unfold szBad
  dsimp only
  omega
theorem fSize_calls (s : Sh) (w : World) (hs : s.ok) : Calls Try.prog 17 ⟨[.agg ⟨shC s⟩]⟩ w fun e w' => e = .returned (.tuple #[.int .i64 (sizeV s).1, .int .i64 (sizeV s).2]) ∧ Below w.heap.size w w' := by
  obtain ⟨c, h, x⟩ := s
  have hh := hs.h
  have hx := hs.w
  simp only at hh hx
  show Calls _ _ ⟨[Value.agg ⟨[.int .i64 c, .int .i64 h, .int .i64 x]⟩]⟩ w _
  refine gc_enter (N := 49) Try.func17 rfl rfl rfl [(0, _)] rfl ?_
  have hS := St.start w
  refine gc_seq fun K1 hK1 => ?_
  refine gc_region ?_
  refine gl_box hS rfl rfl rfl rfl rfl fun g1 w1 hS => ?_
  refine gl_op rfl rfl rfl (op_pure hT rfl) ?_
  refine gl_op rfl rfl rfl (op_pure hT rfl) ?_
  refine gl_nil ?_
  refine hK1 _ _ ?_
  clear hK1; try clear K1
  refine gc_seq fun K2 hK2 => ?_
  refine gc_seq fun K3 hK3 => ?_
  refine gc_anyS hS (by kernel_rfl) rfl fun nq1 hK => ?_
  have hS := hS.dr nq1
  refine ga_take 0 rfl rfl rfl rfl (by kernel_rfl) (fun _ _ _ _ _ h => h) hK (fun w1 hS => op_fieldB 0 rfl Try.underlying27 rfl el3 rfl rfl) ?_
  refine ga_take 1 rfl rfl rfl rfl (by kernel_rfl) (fun _ _ _ _ _ h => h) hK (fun w1 hS => op_loadB 0 hT hS rfl rfl rfl rfl rfl rfl) ?_
  refine ga_take 2 rfl rfl rfl rfl (by kernel_rfl) (fun _ _ _ _ _ h => h) hK (fun w1 hS => op_pure hT rfl) ?_
  refine ga_take 3 rfl rfl rfl rfl (by kernel_rfl) (fun _ _ _ _ _ h => h) hK (fun w1 hS => op_pure hT rfl) ?_
  refine ga_split (t := 7) rfl (fun c7 => ?_) (fun c7 => ?_)
  · try simp only [decide_eq_true_eq, decide_eq_false_iff_not, Bool.not_eq_true', Bool.not_eq_false', Int.not_lt, Int.not_le, Nat.not_lt, Nat.not_le, Bool.true_eq, Bool.false_eq, reduceCtorEq] at c7
    refine ga_pass 4 rfl rfl rfl rfl rfl rfl rfl (by kernel_rfl) (fun _ _ _ _ _ h => h) hK ?_
    refine ga_pass 5 rfl rfl rfl rfl rfl rfl rfl (by kernel_rfl) (fun _ _ _ _ _ h => h) hK ?_
    refine ga_pass 6 rfl rfl rfl rfl rfl rfl rfl (by kernel_rfl) (fun _ _ _ _ _ h => h) hK ?_
    refine ga_take 7 rfl rfl rfl rfl (by kernel_rfl) (fun _ _ _ _ _ h => h) hK (fun w1 hS => op_pure hT rfl) ?_
    refine ga_take 8 rfl rfl rfl rfl (by kernel_rfl) (fun _ _ _ _ _ h => h) hK (fun w1 hS => op_pure hT rfl) ?_
    refine ga_pass 9 rfl rfl rfl rfl rfl rfl rfl (by kernel_rfl) (fun _ _ _ _ _ h => h) hK ?_
    refine ga_pass 10 rfl rfl rfl rfl rfl rfl rfl (by kernel_rfl) (fun _ _ _ _ _ h => h) hK ?_
    refine ga_pass 11 rfl rfl rfl rfl rfl rfl rfl (by kernel_rfl) (fun _ _ _ _ _ h => h) hK ?_
    refine ga_take 12 rfl rfl rfl rfl (by kernel_rfl) (fun _ _ _ _ _ h => h) hK (fun w1 hS => op_pure hT rfl) ?_
    refine ga_take 13 rfl rfl rfl rfl (by kernel_rfl) (fun _ _ _ _ _ h => h) hK (fun w1 hS => op_pure hT rfl) ?_
    refine ga_pass 14 rfl rfl rfl rfl rfl rfl rfl (by kernel_rfl) (fun _ _ _ _ _ h => h) hK ?_
    refine ga_pass 15 rfl rfl rfl rfl rfl rfl rfl (by kernel_rfl) (fun _ _ _ _ _ h => h) hK ?_
    refine ga_pass 16 rfl rfl rfl rfl rfl rfl rfl (by kernel_rfl) (fun _ _ _ _ _ h => h) hK ?_
    refine ga_take 17 rfl rfl rfl rfl (by kernel_rfl) (fun _ _ _ _ _ h => h) hK (fun w1 hS => op_pure hT rfl) ?_
    refine ga_take 18 rfl rfl rfl rfl (by kernel_rfl) (fun _ _ _ _ _ h => h) hK (fun w1 hS => op_pure hT rfl) ?_
    refine ga_pass 19 rfl rfl rfl rfl rfl rfl rfl (by kernel_rfl) (fun _ _ _ _ _ h => h) hK ?_
    refine ga_pass 20 rfl rfl rfl rfl rfl rfl rfl (by kernel_rfl) (fun _ _ _ _ _ h => h) hK ?_
    refine ga_pass 21 rfl rfl rfl rfl rfl rfl rfl (by kernel_rfl) (fun _ _ _ _ _ h => h) hK ?_
    refine ga_pass 22 rfl rfl rfl rfl rfl rfl rfl (by kernel_rfl) (fun _ _ _ _ _ h => h) hK ?_
    refine ga_pass 23 rfl rfl rfl rfl rfl rfl rfl (by kernel_rfl) (fun _ _ _ _ _ h => h) hK ?_
    refine ga_pass 24 rfl rfl rfl rfl rfl rfl rfl (by kernel_rfl) (fun _ _ _ _ _ h => h) hK ?_
    refine ga_take 25 rfl rfl rfl rfl (by kernel_rfl) (fun _ _ _ _ _ h => h) hK (fun w1 hS => op_pure hT rfl) ?_
    refine ga_take 26 rfl rfl rfl rfl (by kernel_rfl) (fun _ _ _ _ _ h => h) hK (fun w1 hS => op_pure hT rfl) ?_
    refine ga_pass 27 rfl rfl rfl rfl rfl rfl rfl (by kernel_rfl) (fun _ _ _ _ _ h => h) hK ?_
    refine ga_pass 28 rfl rfl rfl rfl rfl rfl rfl (by kernel_rfl) (fun _ _ _ _ _ h => h) hK ?_
    refine ga_pass 29 rfl rfl rfl rfl rfl rfl rfl (by kernel_rfl) (fun _ _ _ _ _ h => h) hK ?_
    refine ga_pass 30 rfl rfl rfl rfl rfl rfl rfl (by kernel_rfl) (fun _ _ _ _ _ h => h) hK ?_
    refine ga_pass 31 rfl rfl rfl rfl rfl rfl rfl (by kernel_rfl) (fun _ _ _ _ _ h => h) hK ?_
    refine ga_pass 32 rfl rfl rfl rfl rfl rfl rfl (by kernel_rfl) (fun _ _ _ _ _ h => h) hK ?_
    refine ga_pass 33 rfl rfl rfl rfl rfl rfl rfl (by kernel_rfl) (fun _ _ _ _ _ h => h) hK ?_
    refine ga_pass 34 rfl rfl rfl rfl rfl rfl rfl (by kernel_rfl) (fun _ _ _ _ _ h => h) hK ?_
    refine ga_pass 35 rfl rfl rfl rfl rfl rfl rfl (by kernel_rfl) (fun _ _ _ _ _ h => h) hK ?_
    refine ga_take 36 rfl rfl rfl rfl (by kernel_rfl) (fun _ _ _ _ _ h => h) hK (fun w1 hS => op_pure hT rfl) ?_
    refine ga_done (by kernel_rfl) ?_
    refine hK3 _ _ ?_
    clear hK3; try clear K3
    refine gc_cond_t rfl ?_
    refine gc_seq fun K4 hK4 => ?_
    refine gc_region ?_
    refine gl_op rfl rfl rfl (op_pure hT rfl) ?_
    refine gl_op rfl rfl rfl (op_pure hT rfl) ?_
    refine gl_nil ?_
    refine hK4 _ _ ?_
    clear hK4; try clear K4
    refine gc_ret ?_
    try simp only [x_then_ret, x_block_ret]
    refine gk_ret2 rfl rfl rfl ?_
    refine ⟨?_, hS.below⟩
    unfold sizeV
    first
      | (rw [if_neg hfine.1]; done)
      | (rw [if_pos (show szBad ⟨c, h, x⟩ by unfold szBad; dsimp only; omega)]; done)
      | (rw [if_pos (sz_bad1 (by omega) (by omega) (by omega) c30)]; done)
      | (rw [if_pos (sz_bad2 hd2 (by omega))]; done)
      | trace_state
  · try simp only [decide_eq_true_eq, decide_eq_false_iff_not, Bool.not_eq_true', Bool.not_eq_false', Int.not_lt, Int.not_le, Nat.not_lt, Nat.not_le, Bool.true_eq, Bool.false_eq, reduceCtorEq] at c7
    refine ga_take_at 4 rfl rfl rfl rfl rfl rfl rfl (by kernel_rfl) (fun _ _ _ _ _ h => h) hK (fun w1 hS => op_fieldB 1 rfl Try.underlying27 rfl el3 rfl rfl) ?_
    refine ga_take_at 5 rfl rfl rfl rfl rfl rfl rfl (by kernel_rfl) (fun _ _ _ _ _ h => h) hK (fun w1 hS => op_loadB 0 hT hS rfl rfl rfl rfl rfl rfl) ?_
    refine ga_take_at 6 rfl rfl rfl rfl rfl rfl rfl (by kernel_rfl) (fun _ _ _ _ _ h => h) hK (fun w1 hS => op_pure hT rfl) ?_
    refine ga_take 7 rfl rfl rfl rfl (by kernel_rfl) (fun _ _ _ _ _ h => h) hK (fun w1 hS => op_pure hT rfl) ?_
    refine ga_take 8 rfl rfl rfl rfl (by kernel_rfl) (fun _ _ _ _ _ h => h) hK (fun w1 hS => op_pure hT rfl) ?_
    refine ga_split (t := 12) rfl (fun c12 => ?_) (fun c12 => ?_)
    · try simp only [decide_eq_true_eq, decide_eq_false_iff_not, Bool.not_eq_true', Bool.not_eq_false', Int.not_lt, Int.not_le, Nat.not_lt, Nat.not_le, Bool.true_eq, Bool.false_eq, reduceCtorEq] at c12
      refine ga_pass 9 rfl rfl rfl rfl rfl rfl rfl (by kernel_rfl) (fun _ _ _ _ _ h => h) hK ?_
      refine ga_pass 10 rfl rfl rfl rfl rfl rfl rfl (by kernel_rfl) (fun _ _ _ _ _ h => h) hK ?_
      refine ga_pass 11 rfl rfl rfl rfl rfl rfl rfl (by kernel_rfl) (fun _ _ _ _ _ h => h) hK ?_
      refine ga_take 12 rfl rfl rfl rfl (by kernel_rfl) (fun _ _ _ _ _ h => h) hK (fun w1 hS => op_pure hT rfl) ?_
      refine ga_take 13 rfl rfl rfl rfl (by kernel_rfl) (fun _ _ _ _ _ h => h) hK (fun w1 hS => op_pure hT rfl) ?_
      refine ga_pass 14 rfl rfl rfl rfl rfl rfl rfl (by kernel_rfl) (fun _ _ _ _ _ h => h) hK ?_
      refine ga_pass 15 rfl rfl rfl rfl rfl rfl rfl (by kernel_rfl) (fun _ _ _ _ _ h => h) hK ?_
      refine ga_pass 16 rfl rfl rfl rfl rfl rfl rfl (by kernel_rfl) (fun _ _ _ _ _ h => h) hK ?_
      refine ga_take 17 rfl rfl rfl rfl (by kernel_rfl) (fun _ _ _ _ _ h => h) hK (fun w1 hS => op_pure hT rfl) ?_
      refine ga_take 18 rfl rfl rfl rfl (by kernel_rfl) (fun _ _ _ _ _ h => h) hK (fun w1 hS => op_pure hT rfl) ?_
      refine ga_pass 19 rfl rfl rfl rfl rfl rfl rfl (by kernel_rfl) (fun _ _ _ _ _ h => h) hK ?_
      refine ga_pass 20 rfl rfl rfl rfl rfl rfl rfl (by kernel_rfl) (fun _ _ _ _ _ h => h) hK ?_
      refine ga_pass 21 rfl rfl rfl rfl rfl rfl rfl (by kernel_rfl) (fun _ _ _ _ _ h => h) hK ?_
      refine ga_pass 22 rfl rfl rfl rfl rfl rfl rfl (by kernel_rfl) (fun _ _ _ _ _ h => h) hK ?_
      refine ga_pass 23 rfl rfl rfl rfl rfl rfl rfl (by kernel_rfl) (fun _ _ _ _ _ h => h) hK ?_
      refine ga_pass 24 rfl rfl rfl rfl rfl rfl rfl (by kernel_rfl) (fun _ _ _ _ _ h => h) hK ?_
      refine ga_take 25 rfl rfl rfl rfl (by kernel_rfl) (fun _ _ _ _ _ h => h) hK (fun w1 hS => op_pure hT rfl) ?_
      refine ga_take 26 rfl rfl rfl rfl (by kernel_rfl) (fun _ _ _ _ _ h => h) hK (fun w1 hS => op_pure hT rfl) ?_
      refine ga_pass 27 rfl rfl rfl rfl rfl rfl rfl (by kernel_rfl) (fun _ _ _ _ _ h => h) hK ?_
      refine ga_pass 28 rfl rfl rfl rfl rfl rfl rfl (by kernel_rfl) (fun _ _ _ _ _ h => h) hK ?_
      refine ga_pass 29 rfl rfl rfl rfl rfl rfl rfl (by kernel_rfl) (fun _ _ _ _ _ h => h) hK ?_
      refine ga_pass 30 rfl rfl rfl rfl rfl rfl rfl (by kernel_rfl) (fun _ _ _ _ _ h => h) hK ?_
      refine ga_pass 31 rfl rfl rfl rfl rfl rfl rfl (by kernel_rfl) (fun _ _ _ _ _ h => h) hK ?_
      refine ga_pass 32 rfl rfl rfl rfl rfl rfl rfl (by kernel_rfl) (fun _ _ _ _ _ h => h) hK ?_
      refine ga_pass 33 rfl rfl rfl rfl rfl rfl rfl (by kernel_rfl) (fun _ _ _ _ _ h => h) hK ?_
      refine ga_pass 34 rfl rfl rfl rfl rfl rfl rfl (by kernel_rfl) (fun _ _ _ _ _ h => h) hK ?_
      refine ga_pass 35 rfl rfl rfl rfl rfl rfl rfl (by kernel_rfl) (fun _ _ _ _ _ h => h) hK ?_
      refine ga_take 36 rfl rfl rfl rfl (by kernel_rfl) (fun _ _ _ _ _ h => h) hK (fun w1 hS => op_pure hT rfl) ?_
      refine ga_done (by kernel_rfl) ?_
      refine hK3 _ _ ?_
      clear hK3; try clear K3
      refine gc_cond_t rfl ?_
      refine gc_seq fun K5 hK5 => ?_
      refine gc_region ?_
      refine gl_op rfl rfl rfl (op_pure hT rfl) ?_
      refine gl_op rfl rfl rfl (op_pure hT rfl) ?_
      refine gl_nil ?_
      refine hK5 _ _ ?_
      clear hK5; try clear K5
      refine gc_ret ?_
      try simp only [x_then_ret, x_block_ret]
      refine gk_ret2 rfl rfl rfl ?_
      refine ⟨?_, hS.below⟩
      unfold sizeV
      first
        | (rw [if_neg hfine.1]; done)
        | (rw [if_pos (show szBad ⟨c, h, x⟩ by unfold szBad; dsimp only; omega)]; done)
        | (rw [if_pos (sz_bad1 (by omega) (by omega) (by omega) c30)]; done)
        | (rw [if_pos (sz_bad2 hd2 (by omega))]; done)
        | trace_state
    · try simp only [decide_eq_true_eq, decide_eq_false_iff_not, Bool.not_eq_true', Bool.not_eq_false', Int.not_lt, Int.not_le, Nat.not_lt, Nat.not_le, Bool.true_eq, Bool.false_eq, reduceCtorEq] at c12
      refine ga_take_at 9 rfl rfl rfl rfl rfl rfl rfl (by kernel_rfl) (fun _ _ _ _ _ h => h) hK (fun w1 hS => op_fieldB 2 rfl Try.underlying27 rfl el3 rfl rfl) ?_
      refine ga_take_at 10 rfl rfl rfl rfl rfl rfl rfl (by kernel_rfl) (fun _ _ _ _ _ h => h) hK (fun w1 hS => op_loadB 0 hT hS rfl rfl rfl rfl rfl rfl) ?_
      refine ga_take_at 11 rfl rfl rfl rfl rfl rfl rfl (by kernel_rfl) (fun _ _ _ _ _ h => h) hK (fun w1 hS => op_pure hT rfl) ?_
      refine ga_take 12 rfl rfl rfl rfl (by kernel_rfl) (fun _ _ _ _ _ h => h) hK (fun w1 hS => op_pure hT rfl) ?_
      refine ga_take 13 rfl rfl rfl rfl (by kernel_rfl) (fun _ _ _ _ _ h => h) hK (fun w1 hS => op_pure hT rfl) ?_
      refine ga_split (t := 17) rfl (fun c17 => ?_) (fun c17 => ?_)
      · try simp only [decide_eq_true_eq, decide_eq_false_iff_not, Bool.not_eq_true', Bool.not_eq_false', Int.not_lt, Int.not_le, Nat.not_lt, Nat.not_le, Bool.true_eq, Bool.false_eq, reduceCtorEq] at c17
        refine ga_pass 14 rfl rfl rfl rfl rfl rfl rfl (by kernel_rfl) (fun _ _ _ _ _ h => h) hK ?_
        refine ga_pass 15 rfl rfl rfl rfl rfl rfl rfl (by kernel_rfl) (fun _ _ _ _ _ h => h) hK ?_
        refine ga_pass 16 rfl rfl rfl rfl rfl rfl rfl (by kernel_rfl) (fun _ _ _ _ _ h => h) hK ?_
        refine ga_take 17 rfl rfl rfl rfl (by kernel_rfl) (fun _ _ _ _ _ h => h) hK (fun w1 hS => op_pure hT rfl) ?_
        refine ga_take 18 rfl rfl rfl rfl (by kernel_rfl) (fun _ _ _ _ _ h => h) hK (fun w1 hS => op_pure hT rfl) ?_
        refine ga_pass 19 rfl rfl rfl rfl rfl rfl rfl (by kernel_rfl) (fun _ _ _ _ _ h => h) hK ?_
        refine ga_pass 20 rfl rfl rfl rfl rfl rfl rfl (by kernel_rfl) (fun _ _ _ _ _ h => h) hK ?_
        refine ga_pass 21 rfl rfl rfl rfl rfl rfl rfl (by kernel_rfl) (fun _ _ _ _ _ h => h) hK ?_
        refine ga_pass 22 rfl rfl rfl rfl rfl rfl rfl (by kernel_rfl) (fun _ _ _ _ _ h => h) hK ?_
        refine ga_pass 23 rfl rfl rfl rfl rfl rfl rfl (by kernel_rfl) (fun _ _ _ _ _ h => h) hK ?_
        refine ga_pass 24 rfl rfl rfl rfl rfl rfl rfl (by kernel_rfl) (fun _ _ _ _ _ h => h) hK ?_
        refine ga_take 25 rfl rfl rfl rfl (by kernel_rfl) (fun _ _ _ _ _ h => h) hK (fun w1 hS => op_pure hT rfl) ?_
        refine ga_take 26 rfl rfl rfl rfl (by kernel_rfl) (fun _ _ _ _ _ h => h) hK (fun w1 hS => op_pure hT rfl) ?_
        refine ga_pass 27 rfl rfl rfl rfl rfl rfl rfl (by kernel_rfl) (fun _ _ _ _ _ h => h) hK ?_
        refine ga_pass 28 rfl rfl rfl rfl rfl rfl rfl (by kernel_rfl) (fun _ _ _ _ _ h => h) hK ?_
        refine ga_pass 29 rfl rfl rfl rfl rfl rfl rfl (by kernel_rfl) (fun _ _ _ _ _ h => h) hK ?_
        refine ga_pass 30 rfl rfl rfl rfl rfl rfl rfl (by kernel_rfl) (fun _ _ _ _ _ h => h) hK ?_
        refine ga_pass 31 rfl rfl rfl rfl rfl rfl rfl (by kernel_rfl) (fun _ _ _ _ _ h => h) hK ?_
        refine ga_pass 32 rfl rfl rfl rfl rfl rfl rfl (by kernel_rfl) (fun _ _ _ _ _ h => h) hK ?_
        refine ga_pass 33 rfl rfl rfl rfl rfl rfl rfl (by kernel_rfl) (fun _ _ _ _ _ h => h) hK ?_
        refine ga_pass 34 rfl rfl rfl rfl rfl rfl rfl (by kernel_rfl) (fun _ _ _ _ _ h => h) hK ?_
        refine ga_pass 35 rfl rfl rfl rfl rfl rfl rfl (by kernel_rfl) (fun _ _ _ _ _ h => h) hK ?_
        refine ga_take 36 rfl rfl rfl rfl (by kernel_rfl) (fun _ _ _ _ _ h => h) hK (fun w1 hS => op_pure hT rfl) ?_
        refine ga_done (by kernel_rfl) ?_
        refine hK3 _ _ ?_
        clear hK3; try clear K3
        refine gc_cond_t rfl ?_
        refine gc_seq fun K6 hK6 => ?_
        refine gc_region ?_
        refine gl_op rfl rfl rfl (op_pure hT rfl) ?_
        refine gl_op rfl rfl rfl (op_pure hT rfl) ?_
        refine gl_nil ?_
        refine hK6 _ _ ?_
        clear hK6; try clear K6
        refine gc_ret ?_
        try simp only [x_then_ret, x_block_ret]
        refine gk_ret2 rfl rfl rfl ?_
        refine ⟨?_, hS.below⟩
        unfold sizeV
        first
          | (rw [if_neg hfine.1]; done)
          | (rw [if_pos (show szBad ⟨c, h, x⟩ by unfold szBad; dsimp only; omega)]; done)
          | (rw [if_pos (sz_bad1 (by omega) (by omega) (by omega) c30)]; done)
          | (rw [if_pos (sz_bad2 hd2 (by omega))]; done)
          | trace_state
      · try simp only [decide_eq_true_eq, decide_eq_false_iff_not, Bool.not_eq_true', Bool.not_eq_false', Int.not_lt, Int.not_le, Nat.not_lt, Nat.not_le, Bool.true_eq, Bool.false_eq, reduceCtorEq] at c17
        refine ga_take_at 14 rfl rfl rfl rfl rfl rfl rfl (by kernel_rfl) (fun _ _ _ _ _ h => h) hK (fun w1 hS => op_fieldB 0 rfl Try.underlying27 rfl el3 rfl rfl) ?_
        refine ga_take_at 15 rfl rfl rfl rfl rfl rfl rfl (by kernel_rfl) (fun _ _ _ _ _ h => h) hK (fun w1 hS => op_loadB 0 hT hS rfl rfl rfl rfl rfl rfl) ?_
        refine ga_take_at 16 rfl rfl rfl rfl rfl rfl rfl (by kernel_rfl) (fun _ _ _ _ _ h => h) hK (fun w1 hS => op_pure hT rfl) ?_
        refine ga_take 17 rfl rfl rfl rfl (by kernel_rfl) (fun _ _ _ _ _ h => h) hK (fun w1 hS => op_pure hT rfl) ?_
        refine ga_take 18 rfl rfl rfl rfl (by kernel_rfl) (fun _ _ _ _ _ h => h) hK (fun w1 hS => op_pure hT rfl) ?_
        refine ga_split (t := 22) rfl (fun c22 => ?_) (fun c22 => ?_)
        · try simp only [decide_eq_true_eq, decide_eq_false_iff_not, Bool.not_eq_true', Bool.not_eq_false', Int.not_lt, Int.not_le, Nat.not_lt, Nat.not_le, Bool.true_eq, Bool.false_eq, reduceCtorEq] at c22
          refine ga_pass 19 rfl rfl rfl rfl rfl rfl rfl (by kernel_rfl) (fun _ _ _ _ _ h => h) hK ?_
          refine ga_pass 20 rfl rfl rfl rfl rfl rfl rfl (by kernel_rfl) (fun _ _ _ _ _ h => h) hK ?_
          refine ga_pass 21 rfl rfl rfl rfl rfl rfl rfl (by kernel_rfl) (fun _ _ _ _ _ h => h) hK ?_
          refine ga_pass 22 rfl rfl rfl rfl rfl rfl rfl (by kernel_rfl) (fun _ _ _ _ _ h => h) hK ?_
          refine ga_pass 23 rfl rfl rfl rfl rfl rfl rfl (by kernel_rfl) (fun _ _ _ _ _ h => h) hK ?_
          refine ga_pass 24 rfl rfl rfl rfl rfl rfl rfl (by kernel_rfl) (fun _ _ _ _ _ h => h) hK ?_
          refine ga_take 25 rfl rfl rfl rfl (by kernel_rfl) (fun _ _ _ _ _ h => h) hK (fun w1 hS => op_pure hT rfl) ?_
          refine ga_take 26 rfl rfl rfl rfl (by kernel_rfl) (fun _ _ _ _ _ h => h) hK (fun w1 hS => op_pure hT rfl) ?_
          refine ga_pass 27 rfl rfl rfl rfl rfl rfl rfl (by kernel_rfl) (fun _ _ _ _ _ h => h) hK ?_
          refine ga_pass 28 rfl rfl rfl rfl rfl rfl rfl (by kernel_rfl) (fun _ _ _ _ _ h => h) hK ?_
          refine ga_pass 29 rfl rfl rfl rfl rfl rfl rfl (by kernel_rfl) (fun _ _ _ _ _ h => h) hK ?_
          refine ga_pass 30 rfl rfl rfl rfl rfl rfl rfl (by kernel_rfl) (fun _ _ _ _ _ h => h) hK ?_
          refine ga_pass 31 rfl rfl rfl rfl rfl rfl rfl (by kernel_rfl) (fun _ _ _ _ _ h => h) hK ?_
          refine ga_pass 32 rfl rfl rfl rfl rfl rfl rfl (by kernel_rfl) (fun _ _ _ _ _ h => h) hK ?_
          refine ga_pass 33 rfl rfl rfl rfl rfl rfl rfl (by kernel_rfl) (fun _ _ _ _ _ h => h) hK ?_
          refine ga_pass 34 rfl rfl rfl rfl rfl rfl rfl (by kernel_rfl) (fun _ _ _ _ _ h => h) hK ?_
          refine ga_pass 35 rfl rfl rfl rfl rfl rfl rfl (by kernel_rfl) (fun _ _ _ _ _ h => h) hK ?_
          refine ga_take 36 rfl rfl rfl rfl (by kernel_rfl) (fun _ _ _ _ _ h => h) hK (fun w1 hS => op_pure hT rfl) ?_
          refine ga_done (by kernel_rfl) ?_
          refine hK3 _ _ ?_
          clear hK3; try clear K3
          refine gc_cond_t rfl ?_
          refine gc_seq fun K7 hK7 => ?_
          refine gc_region ?_
          refine gl_op rfl rfl rfl (op_pure hT rfl) ?_
          refine gl_op rfl rfl rfl (op_pure hT rfl) ?_
          refine gl_nil ?_
          refine hK7 _ _ ?_
          clear hK7; try clear K7
          refine gc_ret ?_
          try simp only [x_then_ret, x_block_ret]
          refine gk_ret2 rfl rfl rfl ?_
          refine ⟨?_, hS.below⟩
          unfold sizeV
          first
            | (rw [if_neg hfine.1]; done)
            | (rw [if_pos (show szBad ⟨c, h, x⟩ by unfold szBad; dsimp only; omega)]; done)
            | (rw [if_pos (sz_bad1 (by omega) (by omega) (by omega) c30)]; done)
            | (rw [if_pos (sz_bad2 hd2 (by omega))]; done)
            | trace_state
        · try simp only [decide_eq_true_eq, decide_eq_false_iff_not, Bool.not_eq_true', Bool.not_eq_false', Int.not_lt, Int.not_le, Nat.not_lt, Nat.not_le, Bool.true_eq, Bool.false_eq, reduceCtorEq] at c22
          refine ga_take_at 19 rfl rfl rfl rfl rfl rfl rfl (by kernel_rfl) (fun _ _ _ _ _ h => h) hK (fun w1 hS => op_fieldB 1 rfl Try.underlying27 rfl el3 rfl rfl) ?_
          refine ga_take_at 20 rfl rfl rfl rfl rfl rfl rfl (by kernel_rfl) (fun _ _ _ _ _ h => h) hK (fun w1 hS => op_loadB 0 hT hS rfl rfl rfl rfl rfl rfl) ?_
          refine ga_take_at 21 rfl rfl rfl rfl rfl rfl rfl (by kernel_rfl) (fun _ _ _ _ _ h => h) hK (fun w1 hS => op_fieldB 0 rfl Try.underlying27 rfl el3 rfl rfl) ?_
          refine ga_take_at 22 rfl rfl rfl rfl rfl rfl rfl (by kernel_rfl) (fun _ _ _ _ _ h => h) hK (fun w1 hS => op_loadB 0 hT hS rfl rfl rfl rfl rfl rfl) ?_
          refine ga_take_at 23 rfl rfl rfl rfl rfl rfl rfl (by kernel_rfl) (fun _ _ _ _ _ h => h) hK (fun w1 hS => (by first | exact op_quo hT rfl (by omega) (by omega) | exact op_pure hT rfl | exact op_quoS rfl rfl rfl (by omega) (by omega))) ?_
          refine ga_take_at 24 rfl rfl rfl rfl rfl rfl rfl (by kernel_rfl) (fun _ _ _ _ _ h => h) hK (fun w1 hS => op_pure hT rfl) ?_
          refine ga_take 25 rfl rfl rfl rfl (by kernel_rfl) (fun _ _ _ _ _ h => h) hK (fun w1 hS => op_pure hT rfl) ?_
          refine ga_take 26 rfl rfl rfl rfl (by kernel_rfl) (fun _ _ _ _ _ h => h) hK (fun w1 hS => op_pure hT rfl) ?_
          refine ga_split (t := 30) rfl (fun c30 => ?_) (fun c30 => ?_)
          · try simp only [decide_eq_true_eq, decide_eq_false_iff_not, Bool.not_eq_true', Bool.not_eq_false', Int.not_lt, Int.not_le, Nat.not_lt, Nat.not_le, Bool.true_eq, Bool.false_eq, reduceCtorEq] at c30
            refine ga_pass 27 rfl rfl rfl rfl rfl rfl rfl (by kernel_rfl) (fun _ _ _ _ _ h => h) hK ?_
            refine ga_pass 28 rfl rfl rfl rfl rfl rfl rfl (by kernel_rfl) (fun _ _ _ _ _ h => h) hK ?_
            refine ga_pass 29 rfl rfl rfl rfl rfl rfl rfl (by kernel_rfl) (fun _ _ _ _ _ h => h) hK ?_
            refine ga_pass 30 rfl rfl rfl rfl rfl rfl rfl (by kernel_rfl) (fun _ _ _ _ _ h => h) hK ?_
            refine ga_pass 31 rfl rfl rfl rfl rfl rfl rfl (by kernel_rfl) (fun _ _ _ _ _ h => h) hK ?_
            refine ga_pass 32 rfl rfl rfl rfl rfl rfl rfl (by kernel_rfl) (fun _ _ _ _ _ h => h) hK ?_
            refine ga_pass 33 rfl rfl rfl rfl rfl rfl rfl (by kernel_rfl) (fun _ _ _ _ _ h => h) hK ?_
            refine ga_pass 34 rfl rfl rfl rfl rfl rfl rfl (by kernel_rfl) (fun _ _ _ _ _ h => h) hK ?_
            refine ga_pass 35 rfl rfl rfl rfl rfl rfl rfl (by kernel_rfl) (fun _ _ _ _ _ h => h) hK ?_
            refine ga_take 36 rfl rfl rfl rfl (by kernel_rfl) (fun _ _ _ _ _ h => h) hK (fun w1 hS => op_pure hT rfl) ?_
            refine ga_done (by kernel_rfl) ?_
            refine hK3 _ _ ?_
            clear hK3; try clear K3
            refine gc_cond_t rfl ?_
            refine gc_seq fun K8 hK8 => ?_
            refine gc_region ?_
            refine gl_op rfl rfl rfl (op_pure hT rfl) ?_
            refine gl_op rfl rfl rfl (op_pure hT rfl) ?_
            refine gl_nil ?_
            refine hK8 _ _ ?_
            clear hK8; try clear K8
            refine gc_ret ?_
            try simp only [x_then_ret, x_block_ret]
            refine gk_ret2 rfl rfl rfl ?_
            refine ⟨?_, hS.below⟩
            unfold sizeV
            first
              | (rw [if_neg hfine.1]; done)
              | (rw [if_pos (show szBad ⟨c, h, x⟩ by unfold szBad; dsimp only; omega)]; done)
              | (rw [if_pos (sz_bad1 (by omega) (by omega) (by omega) c30)]; done)
              | (rw [if_pos (sz_bad2 hd2 (by omega))]; done)
              | trace_state
          · try simp only [decide_eq_true_eq, decide_eq_false_iff_not, Bool.not_eq_true', Bool.not_eq_false', Int.not_lt, Int.not_le, Nat.not_lt, Nat.not_le, Bool.true_eq, Bool.false_eq, reduceCtorEq] at c30
            have hd1 : h * c ≤ 256 := (le_div (by omega)).1 (by omega)
            rw [Int.mul_comm] at hd1
            have hd2 : 1 ≤ c * h := (mul_bd (a := c) (b := h) (A := 256) (B := 256) (by omega) (by omega) (by omega) (by
              have h1 : 1 * h ≤ c * h := Int.mul_le_mul_of_nonneg_right (by omega) (by omega)
              omega)).1
            refine ga_take_at 27 rfl rfl rfl rfl rfl rfl rfl (by kernel_rfl) (fun _ _ _ _ _ h => h) hK (fun w1 hS => op_fieldB 2 rfl Try.underlying27 rfl el3 rfl rfl) ?_
            refine ga_take_at 28 rfl rfl rfl rfl rfl rfl rfl (by kernel_rfl) (fun _ _ _ _ _ h => h) hK (fun w1 hS => op_loadB 0 hT hS rfl rfl rfl rfl rfl rfl) ?_
            refine ga_take_at 29 rfl rfl rfl rfl rfl rfl rfl (by kernel_rfl) (fun _ _ _ _ _ h => h) hK (fun w1 hS => op_fieldB 0 rfl Try.underlying27 rfl el3 rfl rfl) ?_
            refine ga_take_at 30 rfl rfl rfl rfl rfl rfl rfl (by kernel_rfl) (fun _ _ _ _ _ h => h) hK (fun w1 hS => op_loadB 0 hT hS rfl rfl rfl rfl rfl rfl) ?_
            refine ga_take_at 31 rfl rfl rfl rfl rfl rfl rfl (by kernel_rfl) (fun _ _ _ _ _ h => h) hK (fun w1 hS => op_fieldB 1 rfl Try.underlying27 rfl el3 rfl rfl) ?_
            refine ga_take_at 32 rfl rfl rfl rfl rfl rfl rfl (by kernel_rfl) (fun _ _ _ _ _ h => h) hK (fun w1 hS => op_loadB 0 hT hS rfl rfl rfl rfl rfl rfl) ?_
            refine ga_take_at 33 rfl rfl rfl rfl rfl rfl rfl (by kernel_rfl) (fun _ _ _ _ _ h => h) hK (fun w1 hS => (by first | exact op_fit hT rfl (by omega) | exact op_pure hT rfl)) ?_
            refine ga_take_at 34 rfl rfl rfl rfl rfl rfl rfl (by kernel_rfl) (fun _ _ _ _ _ h => h) hK (fun w1 hS => (by first | exact op_quo hT rfl (by omega) (by omega) | exact op_pure hT rfl | exact op_quoS rfl rfl rfl (by omega) (by omega))) ?_
            refine ga_take_at 35 rfl rfl rfl rfl rfl rfl rfl (by kernel_rfl) (fun _ _ _ _ _ h => h) hK (fun w1 hS => op_pure hT rfl) ?_
            refine ga_take 36 rfl rfl rfl rfl (by kernel_rfl) (fun _ _ _ _ _ h => h) hK (fun w1 hS => op_pure hT rfl) ?_
            refine ga_done (by kernel_rfl) ?_
            refine hK3 _ _ ?_
            clear hK3; try clear K3
            refine gc_cond rfl rfl (fun c40 => ?_) (fun c40 => ?_)
            · try simp only [decide_eq_true_eq, decide_eq_false_iff_not, Bool.not_eq_true', Bool.not_eq_false', Int.not_lt, Int.not_le, Nat.not_lt, Nat.not_le, Bool.true_eq, Bool.false_eq, reduceCtorEq] at c40
              refine gc_seq fun K9 hK9 => ?_
              refine gc_region ?_
              refine gl_op rfl rfl rfl (op_pure hT rfl) ?_
              refine gl_op rfl rfl rfl (op_pure hT rfl) ?_
              refine gl_nil ?_
              refine hK9 _ _ ?_
              clear hK9; try clear K9
              refine gc_ret ?_
              try simp only [x_then_ret, x_block_ret]
              refine gk_ret2 rfl rfl rfl ?_
              refine ⟨?_, hS.below⟩
              unfold sizeV
              first
                | (rw [if_neg hfine.1]; done)
                | (rw [if_pos (show szBad ⟨c, h, x⟩ by unfold szBad; dsimp only; omega)]; done)
                | (rw [if_pos (sz_bad1 (by omega) (by omega) (by omega) c30)]; done)
                | (rw [if_pos (sz_bad2 hd2 (by omega))]; done)
                | trace_state
            · try simp only [decide_eq_true_eq, decide_eq_false_iff_not, Bool.not_eq_true', Bool.not_eq_false', Int.not_lt, Int.not_le, Nat.not_lt, Nat.not_le, Bool.true_eq, Bool.false_eq, reduceCtorEq] at c40
              have hfine := sz_fine (c := c) (h := h) (x := x) (by omega) (by omega) (by omega) (by omega) hd2 (by omega)
              have hfb : 1 ≤ c * h * x := by
                have h5 : c * h * 1 ≤ c * h * x := Int.mul_le_mul_of_nonneg_left (by omega) (by omega)
                omega
              refine gc_skip ?_
              refine hK2 _ _ ?_
              clear hK2; try clear K2
              refine gc_seq fun K10 hK10 => ?_
              refine gc_region ?_
              refine gl_op rfl rfl rfl (op_fieldB 0 rfl Try.underlying27 rfl el3 rfl rfl) ?_
              refine gl_op rfl rfl rfl (op_loadB 0 hT hS rfl rfl rfl rfl rfl rfl) ?_
              refine gl_op rfl rfl rfl (op_fieldB 1 rfl Try.underlying27 rfl el3 rfl rfl) ?_
              refine gl_op rfl rfl rfl (op_loadB 0 hT hS rfl rfl rfl rfl rfl rfl) ?_
              first | refine gl_fit hT rfl rfl rfl rfl (by omega) ?_ | refine gl_op rfl rfl rfl (op_pure hT rfl) ?_
              refine gl_op rfl rfl rfl (op_fieldB 2 rfl Try.underlying27 rfl el3 rfl rfl) ?_
              refine gl_op rfl rfl rfl (op_loadB 0 hT hS rfl rfl rfl rfl rfl rfl) ?_
              first | refine gl_fit hT rfl rfl rfl rfl (by omega) ?_ | refine gl_op rfl rfl rfl (op_pure hT rfl) ?_
              refine gl_op rfl rfl rfl (op_pure hT rfl) ?_
              refine gl_op rfl rfl rfl (op_pure hT rfl) ?_
              refine gl_nil ?_
              refine hK10 _ _ ?_
              clear hK10; try clear K10
              refine gc_ret ?_
              try simp only [x_then_ret, x_block_ret]
              refine gk_ret2 rfl rfl rfl ?_
              refine ⟨?_, hS.below⟩
              unfold sizeV
              first
                | (rw [if_neg hfine.1]; done)
                | (rw [if_pos (show szBad ⟨c, h, x⟩ by unfold szBad; dsimp only; omega)]; done)
                | (rw [if_pos (sz_bad1 (by omega) (by omega) (by omega) c30)]; done)
                | (rw [if_pos (sz_bad2 hd2 (by omega))]; done)
                | trace_state
@[reducible] def rlC (L : Ly) : List Value := [.int .i64 L.k, .int .i64 L.out, .int .i64 L.kh, .int .i64 L.kw, .int .i64 L.sh, .int .i64 L.sw, .int .i64 L.ph, .int .i64 L.pw, .int .i64 L.fr, .int .u64 (L.a : Nat), svV L.W, svV L.B, svV L.Z, svV L.ZB]
def slopeV (L : Ly) : Int := if ¬ (L.k = 4 ∨ L.k = 8) then (if L.a ≠ 0 then 62 else 0) else if nmB L.a = false then 64 else 0
theorem slope_calls (L : Ly) (w : World) (ha : L.a < 18446744073709551616) (h8 : L.k = 8 → L.a = 0) : Calls Try.prog 52 ⟨[.agg ⟨rlC L⟩]⟩ w fun e w' => e = .returned (.int .i64 (slopeV L)) ∧ Below w.heap.size w w' := by
  refine gc_enter (N := 46) Try.func52 rfl rfl rfl [(0, _)] rfl ?_
  have hS := St.start w
  refine gc_seq fun K1 hK1 => ?_
  refine gc_region ?_
  refine gl_box hS rfl rfl rfl rfl rfl fun g1 w1 hS => ?_
  refine gl_op rfl rfl rfl (op_pure hT rfl) ?_
  refine gl_nil ?_
  refine hK1 _ _ ?_
  clear hK1; try clear K1
  refine gc_seq fun K2 hK2 => ?_
  refine gc_seq fun K3 hK3 => ?_
  refine gc_region ?_
  refine gl_op rfl rfl rfl (op_fieldB 0 rfl Try.underlying60 rfl el3 rfl rfl) ?_
  refine gl_op rfl rfl rfl (op_loadB 0 hT hS rfl rfl rfl rfl rfl rfl) ?_
  refine gl_op rfl rfl rfl (op_pure hT rfl) ?_
  refine gl_op rfl rfl rfl (op_pure hT rfl) ?_
  refine gl_split (t := 10) rfl (fun c10 => ?_) (fun c10 => ?_)
  · try simp only [decide_eq_true_eq, decide_eq_false_iff_not, Bool.not_eq_true', Bool.not_eq_false', Int.not_lt, Int.not_le, Nat.not_lt, Nat.not_le, Bool.true_eq, Bool.false_eq, reduceCtorEq] at c10
    refine gl_un rfl rfl rfl rfl ?_
    refine gl_op rfl rfl rfl (op_fieldB 0 rfl Try.underlying60 rfl el3 rfl rfl) ?_
    refine gl_un rfl rfl rfl rfl ?_
    refine gl_op rfl rfl rfl (op_loadB 0 hT hS rfl rfl rfl rfl rfl rfl) ?_
    refine gl_un rfl rfl rfl rfl ?_
    refine gl_op rfl rfl rfl (op_pure hT rfl) ?_
    refine gl_op rfl rfl rfl (op_pure hT rfl) ?_
    refine gl_nil ?_
    refine hK3 _ _ ?_
    clear hK3; try clear K3
    refine gc_cond rfl rfl (fun c14 => ?_) (fun c14 => ?_)
    · try simp only [decide_eq_true_eq, decide_eq_false_iff_not, Bool.not_eq_true', Bool.not_eq_false', Int.not_lt, Int.not_le, Nat.not_lt, Nat.not_le, Bool.true_eq, Bool.false_eq, reduceCtorEq] at c14
      refine gc_seq fun K4 hK4 => ?_
      refine gc_seq fun K5 hK5 => ?_
      refine gc_region ?_
      refine gl_op rfl rfl rfl (op_fieldB 9 rfl Try.underlying60 rfl el56 rfl rfl) ?_
      refine gl_op rfl rfl rfl (op_loadB 0 hT hS rfl rfl rfl rfl rfl rfl) ?_
      refine gl_op rfl rfl rfl (op_pure hT rfl) ?_
      refine gl_nil ?_
      refine hK5 _ _ ?_
      clear hK5; try clear K5
      refine gc_cond rfl rfl (fun c17 => ?_) (fun c17 => ?_)
      · try simp only [decide_eq_true_eq, decide_eq_false_iff_not, Bool.not_eq_true', Bool.not_eq_false', Int.not_lt, Int.not_le, Nat.not_lt, Nat.not_le, Bool.true_eq, Bool.false_eq, reduceCtorEq] at c17
        refine gc_seq fun K6 hK6 => ?_
        refine gc_region ?_
        refine gl_op rfl rfl rfl (op_pure hT rfl) ?_
        refine gl_nil ?_
        refine hK6 _ _ ?_
        clear hK6; try clear K6
        refine gc_ret ?_
        try simp only [x_then_ret, x_block_ret]
        refine gk_ret1 rfl rfl ?_
        refine ⟨?_, hS.below⟩
        unfold slopeV
        first
          | (rw [if_pos (by omega), if_pos (by omega)]; done)
          | (rw [if_pos (by omega), if_neg (by omega)]; done)
          | (rw [if_neg (by omega), if_pos c21]; done)
          | (exfalso; have h1 := hy1 rfl; rw [if_neg h1.1, if_neg h1.1, h1.2] at c45; revert c45; decide)
          | (exfalso; rw [if_pos (hx0 (h8 c14))] at c39; revert c39; decide)
          | (rw [if_neg (by omega), if_neg (by rw [c21]; simp)]; done)
          | trace_state
      · try simp only [decide_eq_true_eq, decide_eq_false_iff_not, Bool.not_eq_true', Bool.not_eq_false', Int.not_lt, Int.not_le, Nat.not_lt, Nat.not_le, Bool.true_eq, Bool.false_eq, reduceCtorEq] at c17
        refine gc_skip ?_
        refine hK4 _ _ ?_
        clear hK4; try clear K4
        refine gc_seq fun K7 hK7 => ?_
        refine gc_region ?_
        refine gl_op rfl rfl rfl (op_pure hT rfl) ?_
        refine gl_nil ?_
        refine hK7 _ _ ?_
        clear hK7; try clear K7
        refine gc_ret ?_
        try simp only [x_then_ret, x_block_ret]
        refine gk_ret1 rfl rfl ?_
        refine ⟨?_, hS.below⟩
        unfold slopeV
        first
          | (rw [if_pos (by omega), if_pos (by omega)]; done)
          | (rw [if_pos (by omega), if_neg (by omega)]; done)
          | (rw [if_neg (by omega), if_pos c21]; done)
          | (exfalso; have h1 := hy1 rfl; rw [if_neg h1.1, if_neg h1.1, h1.2] at c45; revert c45; decide)
          | (exfalso; rw [if_pos (hx0 (h8 c14))] at c39; revert c39; decide)
          | (rw [if_neg (by omega), if_neg (by rw [c21]; simp)]; done)
          | trace_state
    · try simp only [decide_eq_true_eq, decide_eq_false_iff_not, Bool.not_eq_true', Bool.not_eq_false', Int.not_lt, Int.not_le, Nat.not_lt, Nat.not_le, Bool.true_eq, Bool.false_eq, reduceCtorEq] at c14
      refine gc_skip ?_
      refine hK2 _ _ ?_
      clear hK2; try clear K2
      refine gc_seq fun K8 hK8 => ?_
      refine gc_seq fun K9 hK9 => ?_
      refine gc_region ?_
      refine gl_op rfl rfl rfl (op_fieldB 9 rfl Try.underlying60 rfl el56 rfl rfl) ?_
      refine gl_op rfl rfl rfl (op_loadB 0 hT hS rfl rfl rfl rfl rfl rfl) ?_
      refine gl_callf rfl rfl rfl rfl Try.func54 rfl rfl rfl (fNumber_calls L.a ha _) ?_
      rintro _ _ ⟨rfl, n20, rfl⟩
      refine ⟨_, rfl, ?_⟩
      have hS := hS.dr n20
      refine gl_op rfl rfl rfl (op_pure hT rfl) ?_
      refine gl_nil ?_
      refine hK9 _ _ ?_
      clear hK9; try clear K9
      refine gc_cond rfl rfl (fun c21 => ?_) (fun c21 => ?_)
      · try simp only [decide_eq_true_eq, decide_eq_false_iff_not, Bool.not_eq_true', Bool.not_eq_false', Int.not_lt, Int.not_le, Nat.not_lt, Nat.not_le, Bool.true_eq, Bool.false_eq, reduceCtorEq] at c21
        refine gc_seq fun K10 hK10 => ?_
        refine gc_region ?_
        refine gl_op rfl rfl rfl (op_pure hT rfl) ?_
        refine gl_nil ?_
        refine hK10 _ _ ?_
        clear hK10; try clear K10
        refine gc_ret ?_
        try simp only [x_then_ret, x_block_ret]
        refine gk_ret1 rfl rfl ?_
        refine ⟨?_, hS.below⟩
        unfold slopeV
        first
          | (rw [if_pos (by omega), if_pos (by omega)]; done)
          | (rw [if_pos (by omega), if_neg (by omega)]; done)
          | (rw [if_neg (by omega), if_pos c21]; done)
          | (exfalso; have h1 := hy1 rfl; rw [if_neg h1.1, if_neg h1.1, h1.2] at c45; revert c45; decide)
          | (exfalso; rw [if_pos (hx0 (h8 c14))] at c39; revert c39; decide)
          | (rw [if_neg (by omega), if_neg (by rw [c21]; simp)]; done)
          | trace_state
      · try simp only [decide_eq_true_eq, decide_eq_false_iff_not, Bool.not_eq_true', Bool.not_eq_false', Int.not_lt, Int.not_le, Nat.not_lt, Nat.not_le, Bool.true_eq, Bool.false_eq, reduceCtorEq] at c21
        refine gc_skip ?_
        refine hK8 _ _ ?_
        clear hK8; try clear K8
        refine gc_seq fun K11 hK11 => ?_
        refine gc_region ?_
        refine gl_op rfl rfl rfl (op_fieldB 9 rfl Try.underlying60 rfl el56 rfl rfl) ?_
        refine gl_op rfl rfl rfl (op_loadB 0 hT hS rfl rfl rfl rfl rfl rfl) ?_
        refine gl_callf rfl rfl rfl rfl Try.func55 rfl rfl rfl (of_calls L.a ha c21 _) ?_
        rintro _ w25 ⟨x25, rfl, hb25, hx0, hx1⟩
        refine ⟨_, rfl, ?_⟩
        have hS := hS.grown hb25
        refine gl_op rfl rfl rfl (op_pure hT rfl) ?_
        refine gl_op rfl rfl rfl (op_pure hT rfl) ?_
        refine gl_op rfl rfl rfl (op_pure hT rfl) ?_
        refine gl_alloc el108 hS rfl rfl rfl rfl fun g3 w3 hS => ?_
        refine gl_storeM 1 hS el108 rfl rfl rfl rfl rfl rfl rfl rfl rfl fun wambitref6_go_119 hS => ?_
        refine gl_op rfl rfl rfl (op_pure hT rfl) ?_
        refine gl_nil ?_
        refine hK11 _ _ ?_
        clear hK11; try clear K11
        refine gc_seq fun K12 hK12 => ?_
        refine gc_region ?_
        refine gl_callf rfl rfl rfl rfl Try.func55 rfl rfl rfl (of_calls 4607182418800017408 (by decide) (by decide) _) ?_
        rintro _ w29 ⟨x29, rfl, hb29, hy0, hy1⟩
        refine ⟨_, rfl, ?_⟩
        have hS := hS.grown hb29
        refine gl_op rfl rfl rfl (op_pure hT rfl) ?_
        refine gl_op rfl rfl rfl (op_pure hT rfl) ?_
        refine gl_op rfl rfl rfl (op_pure hT rfl) ?_
        refine gl_alloc el108 hS rfl rfl rfl rfl fun g5 w5 hS => ?_
        refine gl_storeM 2 hS el108 rfl rfl rfl rfl rfl rfl rfl rfl rfl fun wambitref6_go_120 hS => ?_
        refine gl_op rfl rfl rfl (op_pure hT rfl) ?_
        refine gl_nil ?_
        refine hK12 _ _ ?_
        clear hK12; try clear K12
        refine gc_seq fun K13 hK13 => ?_
        refine gc_seq fun K14 hK14 => ?_
        refine gc_region ?_
        refine gl_op rfl rfl rfl (op_fieldB 0 rfl Try.underlying60 rfl el3 rfl rfl) ?_
        refine gl_op rfl rfl rfl (op_loadB 0 hT hS rfl rfl rfl rfl rfl rfl) ?_
        refine gl_op rfl rfl rfl (op_pure hT rfl) ?_
        refine gl_op rfl rfl rfl (op_pure hT rfl) ?_
        refine gl_split (t := 35) rfl (fun c35 => ?_) (fun c35 => ?_)
        · try simp only [decide_eq_true_eq, decide_eq_false_iff_not, Bool.not_eq_true', Bool.not_eq_false', Int.not_lt, Int.not_le, Nat.not_lt, Nat.not_le, Bool.true_eq, Bool.false_eq, reduceCtorEq] at c35
          refine gl_un rfl rfl rfl rfl ?_
          refine gl_op rfl rfl rfl (op_loadG 1 Try.underlying108 rfl el108 hS rfl rfl rfl rfl rfl) ?_
          refine gl_un rfl rfl rfl rfl ?_
          refine gl_callf rfl rfl rfl rfl Try.func56 rfl rfl rfl (sign_calls x25 _) ?_
          rintro _ w37 ⟨rfl, hb37⟩
          refine ⟨_, rfl, ?_⟩
          have hS := hS.grown hb37
          refine gl_un rfl rfl rfl rfl ?_
          refine gl_op rfl rfl rfl (op_pure hT rfl) ?_
          refine gl_un rfl rfl rfl rfl ?_
          refine gl_op rfl rfl rfl (op_pure hT rfl) ?_
          refine gl_split (t := 39) rfl (fun c39 => ?_) (fun c39 => ?_)
          · try simp only [decide_eq_true_eq, decide_eq_false_iff_not, Bool.not_eq_true', Bool.not_eq_false', Int.not_lt, Int.not_le, Nat.not_lt, Nat.not_le, Bool.true_eq, Bool.false_eq, reduceCtorEq] at c39
            refine gl_pass rfl rfl rfl rfl rfl rfl ?_
            refine gl_pass rfl rfl rfl rfl rfl rfl ?_
            refine gl_pass rfl rfl rfl rfl rfl rfl ?_
            refine gl_pass rfl rfl rfl rfl rfl rfl ?_
            refine gl_un rfl rfl rfl rfl ?_
            refine gl_op rfl rfl rfl (op_pure hT rfl) ?_
            refine gl_op rfl rfl rfl (op_pure hT rfl) ?_
            refine gl_nil ?_
            refine hK14 _ _ ?_
            clear hK14; try clear K14
            refine gc_cond_t rfl ?_
            refine gc_seq fun K15 hK15 => ?_
            refine gc_region ?_
            refine gl_op rfl rfl rfl (op_pure hT rfl) ?_
            refine gl_nil ?_
            refine hK15 _ _ ?_
            clear hK15; try clear K15
            refine gc_ret ?_
            try simp only [x_then_ret, x_block_ret]
            refine gk_ret1 rfl rfl ?_
            refine ⟨?_, hS.below⟩
            unfold slopeV
            first
              | (rw [if_pos (by omega), if_pos (by omega)]; done)
              | (rw [if_pos (by omega), if_neg (by omega)]; done)
              | (rw [if_neg (by omega), if_pos c21]; done)
              | (exfalso; have h1 := hy1 rfl; rw [if_neg h1.1, if_neg h1.1, h1.2] at c45; revert c45; decide)
              | (exfalso; rw [if_pos (hx0 (h8 c14))] at c39; revert c39; decide)
              | (rw [if_neg (by omega), if_neg (by rw [c21]; simp)]; done)
              | trace_state
          · try simp only [decide_eq_true_eq, decide_eq_false_iff_not, Bool.not_eq_true', Bool.not_eq_false', Int.not_lt, Int.not_le, Nat.not_lt, Nat.not_le, Bool.true_eq, Bool.false_eq, reduceCtorEq] at c39
            refine gl_un rfl rfl rfl rfl ?_
            refine gl_op rfl rfl rfl (op_loadG 1 Try.underlying108 rfl el108 hS rfl rfl rfl rfl rfl) ?_
            refine gl_un rfl rfl rfl rfl ?_
            refine gl_op rfl rfl rfl (op_loadG 2 Try.underlying108 rfl el108 hS rfl rfl rfl rfl rfl) ?_
            refine gl_un rfl rfl rfl rfl ?_
            refine gl_callf rfl rfl rfl rfl Try.func57 rfl rfl rfl (cmp0_calls x25 x29 _ (hx0 (h8 (by omega)))) ?_
            rintro _ w42 ⟨rfl, hb42⟩
            refine ⟨_, rfl, ?_⟩
            have hS := hS.grown hb42
            refine gl_un rfl rfl rfl rfl ?_
            refine gl_op rfl rfl rfl (op_pure hT rfl) ?_
            refine gl_un rfl rfl rfl rfl ?_
            refine gl_op rfl rfl rfl (op_pure hT rfl) ?_
            refine gl_op rfl rfl rfl (op_pure hT rfl) ?_
            refine gl_nil ?_
            refine hK14 _ _ ?_
            clear hK14; try clear K14
            refine gc_cond rfl rfl (fun c45 => ?_) (fun c45 => ?_)
            · try simp only [decide_eq_true_eq, decide_eq_false_iff_not, Bool.not_eq_true', Bool.not_eq_false', Int.not_lt, Int.not_le, Nat.not_lt, Nat.not_le, Bool.true_eq, Bool.false_eq, reduceCtorEq] at c45
              refine gc_seq fun K16 hK16 => ?_
              refine gc_region ?_
              refine gl_op rfl rfl rfl (op_pure hT rfl) ?_
              refine gl_nil ?_
              refine hK16 _ _ ?_
              clear hK16; try clear K16
              refine gc_ret ?_
              try simp only [x_then_ret, x_block_ret]
              refine gk_ret1 rfl rfl ?_
              refine ⟨?_, hS.below⟩
              unfold slopeV
              first
                | (rw [if_pos (by omega), if_pos (by omega)]; done)
                | (rw [if_pos (by omega), if_neg (by omega)]; done)
                | (rw [if_neg (by omega), if_pos c21]; done)
                | (exfalso; have h1 := hy1 rfl; rw [if_neg h1.1, if_neg h1.1, h1.2] at c45; revert c45; decide)
                | (exfalso; rw [if_pos (hx0 (h8 c14))] at c39; revert c39; decide)
                | (rw [if_neg (by omega), if_neg (by rw [c21]; simp)]; done)
                | trace_state
            · try simp only [decide_eq_true_eq, decide_eq_false_iff_not, Bool.not_eq_true', Bool.not_eq_false', Int.not_lt, Int.not_le, Nat.not_lt, Nat.not_le, Bool.true_eq, Bool.false_eq, reduceCtorEq] at c45
              refine gc_skip ?_
              refine hK13 _ _ ?_
              clear hK13; try clear K13
              refine gc_seq fun K17 hK17 => ?_
              refine gc_region ?_
              refine gl_op rfl rfl rfl (op_pure hT rfl) ?_
              refine gl_nil ?_
              refine hK17 _ _ ?_
              clear hK17; try clear K17
              refine gc_ret ?_
              try simp only [x_then_ret, x_block_ret]
              refine gk_ret1 rfl rfl ?_
              refine ⟨?_, hS.below⟩
              unfold slopeV
              first
                | (rw [if_pos (by omega), if_pos (by omega)]; done)
                | (rw [if_pos (by omega), if_neg (by omega)]; done)
                | (rw [if_neg (by omega), if_pos c21]; done)
                | (exfalso; have h1 := hy1 rfl; rw [if_neg h1.1, if_neg h1.1, h1.2] at c45; revert c45; decide)
                | (exfalso; rw [if_pos (hx0 (h8 c14))] at c39; revert c39; decide)
                | (rw [if_neg (by omega), if_neg (by rw [c21]; simp)]; done)
                | trace_state
        · try simp only [decide_eq_true_eq, decide_eq_false_iff_not, Bool.not_eq_true', Bool.not_eq_false', Int.not_lt, Int.not_le, Nat.not_lt, Nat.not_le, Bool.true_eq, Bool.false_eq, reduceCtorEq] at c35
          refine gl_pass rfl rfl rfl rfl rfl rfl ?_
          refine gl_pass rfl rfl rfl rfl rfl rfl ?_
          refine gl_pass rfl rfl rfl rfl rfl rfl ?_
          refine gl_pass rfl rfl rfl rfl rfl rfl ?_
          refine gl_none rfl rfl rfl rfl rfl ?_
          refine gl_none rfl rfl rfl rfl rfl ?_
          refine gl_none rfl rfl rfl rfl rfl ?_
          refine gl_none rfl rfl rfl rfl rfl ?_
          refine gl_pass rfl rfl rfl rfl rfl rfl ?_
          refine gl_op rfl rfl rfl (op_pure hT rfl) ?_
          refine gl_nil ?_
          refine hK14 _ _ ?_
          clear hK14; try clear K14
          refine gc_cond_f rfl ?_
          refine gc_skip ?_
          refine hK13 _ _ ?_
          clear hK13; try clear K13
          refine gc_seq fun K18 hK18 => ?_
          refine gc_region ?_
          refine gl_op rfl rfl rfl (op_pure hT rfl) ?_
          refine gl_nil ?_
          refine hK18 _ _ ?_
          clear hK18; try clear K18
          refine gc_ret ?_
          try simp only [x_then_ret, x_block_ret]
          refine gk_ret1 rfl rfl ?_
          refine ⟨?_, hS.below⟩
          unfold slopeV
          first
            | (rw [if_pos (by omega), if_pos (by omega)]; done)
            | (rw [if_pos (by omega), if_neg (by omega)]; done)
            | (rw [if_neg (by omega), if_pos c21]; done)
            | (exfalso; have h1 := hy1 rfl; rw [if_neg h1.1, if_neg h1.1, h1.2] at c45; revert c45; decide)
            | (exfalso; rw [if_pos (hx0 (h8 c14))] at c39; revert c39; decide)
            | (rw [if_neg (by omega), if_neg (by rw [c21]; simp)]; done)
            | trace_state
  · try simp only [decide_eq_true_eq, decide_eq_false_iff_not, Bool.not_eq_true', Bool.not_eq_false', Int.not_lt, Int.not_le, Nat.not_lt, Nat.not_le, Bool.true_eq, Bool.false_eq, reduceCtorEq] at c10
    refine gl_pass rfl rfl rfl rfl rfl rfl ?_
    refine gl_pass rfl rfl rfl rfl rfl rfl ?_
    refine gl_pass rfl rfl rfl rfl rfl rfl ?_
    refine gl_op rfl rfl rfl (op_pure hT rfl) ?_
    refine gl_nil ?_
    refine hK3 _ _ ?_
    clear hK3; try clear K3
    refine gc_cond_f rfl ?_
    refine gc_skip ?_
    refine hK2 _ _ ?_
    clear hK2; try clear K2
    refine gc_seq fun K19 hK19 => ?_
    refine gc_seq fun K20 hK20 => ?_
    refine gc_region ?_
    refine gl_op rfl rfl rfl (op_fieldB 9 rfl Try.underlying60 rfl el56 rfl rfl) ?_
    refine gl_op rfl rfl rfl (op_loadB 0 hT hS rfl rfl rfl rfl rfl rfl) ?_
    refine gl_callf rfl rfl rfl rfl Try.func54 rfl rfl rfl (fNumber_calls L.a ha _) ?_
    rintro _ _ ⟨rfl, n20, rfl⟩
    refine ⟨_, rfl, ?_⟩
    have hS := hS.dr n20
    refine gl_op rfl rfl rfl (op_pure hT rfl) ?_
    refine gl_nil ?_
    refine hK20 _ _ ?_
    clear hK20; try clear K20
    refine gc_cond rfl rfl (fun c21 => ?_) (fun c21 => ?_)
    · try simp only [decide_eq_true_eq, decide_eq_false_iff_not, Bool.not_eq_true', Bool.not_eq_false', Int.not_lt, Int.not_le, Nat.not_lt, Nat.not_le, Bool.true_eq, Bool.false_eq, reduceCtorEq] at c21
      refine gc_seq fun K21 hK21 => ?_
      refine gc_region ?_
      refine gl_op rfl rfl rfl (op_pure hT rfl) ?_
      refine gl_nil ?_
      refine hK21 _ _ ?_
      clear hK21; try clear K21
      refine gc_ret ?_
      try simp only [x_then_ret, x_block_ret]
      refine gk_ret1 rfl rfl ?_
      refine ⟨?_, hS.below⟩
      unfold slopeV
      first
        | (rw [if_pos (by omega), if_pos (by omega)]; done)
        | (rw [if_pos (by omega), if_neg (by omega)]; done)
        | (rw [if_neg (by omega), if_pos c21]; done)
        | (exfalso; have h1 := hy1 rfl; rw [if_neg h1.1, if_neg h1.1, h1.2] at c45; revert c45; decide)
        | (exfalso; rw [if_pos (hx0 (h8 c14))] at c39; revert c39; decide)
        | (rw [if_neg (by omega), if_neg (by rw [c21]; simp)]; done)
        | trace_state
    · try simp only [decide_eq_true_eq, decide_eq_false_iff_not, Bool.not_eq_true', Bool.not_eq_false', Int.not_lt, Int.not_le, Nat.not_lt, Nat.not_le, Bool.true_eq, Bool.false_eq, reduceCtorEq] at c21
      refine gc_skip ?_
      refine hK19 _ _ ?_
      clear hK19; try clear K19
      refine gc_seq fun K22 hK22 => ?_
      refine gc_region ?_
      refine gl_op rfl rfl rfl (op_fieldB 9 rfl Try.underlying60 rfl el56 rfl rfl) ?_
      refine gl_op rfl rfl rfl (op_loadB 0 hT hS rfl rfl rfl rfl rfl rfl) ?_
      refine gl_callf rfl rfl rfl rfl Try.func55 rfl rfl rfl (of_calls L.a ha c21 _) ?_
      rintro _ w25 ⟨x25, rfl, hb25, hx0, hx1⟩
      refine ⟨_, rfl, ?_⟩
      have hS := hS.grown hb25
      refine gl_op rfl rfl rfl (op_pure hT rfl) ?_
      refine gl_op rfl rfl rfl (op_pure hT rfl) ?_
      refine gl_op rfl rfl rfl (op_pure hT rfl) ?_
      refine gl_alloc el108 hS rfl rfl rfl rfl fun g3 w3 hS => ?_
      refine gl_storeM 1 hS el108 rfl rfl rfl rfl rfl rfl rfl rfl rfl fun wambitref6_go_119 hS => ?_
      refine gl_op rfl rfl rfl (op_pure hT rfl) ?_
      refine gl_nil ?_
      refine hK22 _ _ ?_
      clear hK22; try clear K22
      refine gc_seq fun K23 hK23 => ?_
      refine gc_region ?_
      refine gl_callf rfl rfl rfl rfl Try.func55 rfl rfl rfl (of_calls 4607182418800017408 (by decide) (by decide) _) ?_
      rintro _ w29 ⟨x29, rfl, hb29, hy0, hy1⟩
      refine ⟨_, rfl, ?_⟩
      have hS := hS.grown hb29
      refine gl_op rfl rfl rfl (op_pure hT rfl) ?_
      refine gl_op rfl rfl rfl (op_pure hT rfl) ?_
      refine gl_op rfl rfl rfl (op_pure hT rfl) ?_
      refine gl_alloc el108 hS rfl rfl rfl rfl fun g5 w5 hS => ?_
      refine gl_storeM 2 hS el108 rfl rfl rfl rfl rfl rfl rfl rfl rfl fun wambitref6_go_120 hS => ?_
      refine gl_op rfl rfl rfl (op_pure hT rfl) ?_
      refine gl_nil ?_
      refine hK23 _ _ ?_
      clear hK23; try clear K23
      refine gc_seq fun K24 hK24 => ?_
      refine gc_seq fun K25 hK25 => ?_
      refine gc_region ?_
      refine gl_op rfl rfl rfl (op_fieldB 0 rfl Try.underlying60 rfl el3 rfl rfl) ?_
      refine gl_op rfl rfl rfl (op_loadB 0 hT hS rfl rfl rfl rfl rfl rfl) ?_
      refine gl_op rfl rfl rfl (op_pure hT rfl) ?_
      refine gl_op rfl rfl rfl (op_pure hT rfl) ?_
      refine gl_split (t := 35) rfl (fun c35 => ?_) (fun c35 => ?_)
      · try simp only [decide_eq_true_eq, decide_eq_false_iff_not, Bool.not_eq_true', Bool.not_eq_false', Int.not_lt, Int.not_le, Nat.not_lt, Nat.not_le, Bool.true_eq, Bool.false_eq, reduceCtorEq] at c35
        refine gl_un rfl rfl rfl rfl ?_
        refine gl_op rfl rfl rfl (op_loadG 1 Try.underlying108 rfl el108 hS rfl rfl rfl rfl rfl) ?_
        refine gl_un rfl rfl rfl rfl ?_
        refine gl_callf rfl rfl rfl rfl Try.func56 rfl rfl rfl (sign_calls x25 _) ?_
        rintro _ w37 ⟨rfl, hb37⟩
        refine ⟨_, rfl, ?_⟩
        have hS := hS.grown hb37
        refine gl_un rfl rfl rfl rfl ?_
        refine gl_op rfl rfl rfl (op_pure hT rfl) ?_
        refine gl_un rfl rfl rfl rfl ?_
        refine gl_op rfl rfl rfl (op_pure hT rfl) ?_
        refine gl_split (t := 39) rfl (fun c39 => ?_) (fun c39 => ?_)
        · try simp only [decide_eq_true_eq, decide_eq_false_iff_not, Bool.not_eq_true', Bool.not_eq_false', Int.not_lt, Int.not_le, Nat.not_lt, Nat.not_le, Bool.true_eq, Bool.false_eq, reduceCtorEq] at c39
          refine gl_pass rfl rfl rfl rfl rfl rfl ?_
          refine gl_pass rfl rfl rfl rfl rfl rfl ?_
          refine gl_pass rfl rfl rfl rfl rfl rfl ?_
          refine gl_pass rfl rfl rfl rfl rfl rfl ?_
          refine gl_un rfl rfl rfl rfl ?_
          refine gl_op rfl rfl rfl (op_pure hT rfl) ?_
          refine gl_op rfl rfl rfl (op_pure hT rfl) ?_
          refine gl_nil ?_
          refine hK25 _ _ ?_
          clear hK25; try clear K25
          refine gc_cond_t rfl ?_
          refine gc_seq fun K26 hK26 => ?_
          refine gc_region ?_
          refine gl_op rfl rfl rfl (op_pure hT rfl) ?_
          refine gl_nil ?_
          refine hK26 _ _ ?_
          clear hK26; try clear K26
          refine gc_ret ?_
          try simp only [x_then_ret, x_block_ret]
          refine gk_ret1 rfl rfl ?_
          refine ⟨?_, hS.below⟩
          unfold slopeV
          first
            | (rw [if_pos (by omega), if_pos (by omega)]; done)
            | (rw [if_pos (by omega), if_neg (by omega)]; done)
            | (rw [if_neg (by omega), if_pos c21]; done)
            | (exfalso; have h1 := hy1 rfl; rw [if_neg h1.1, if_neg h1.1, h1.2] at c45; revert c45; decide)
            | (exfalso; rw [if_pos (hx0 (h8 c14))] at c39; revert c39; decide)
            | (rw [if_neg (by omega), if_neg (by rw [c21]; simp)]; done)
            | trace_state
        · try simp only [decide_eq_true_eq, decide_eq_false_iff_not, Bool.not_eq_true', Bool.not_eq_false', Int.not_lt, Int.not_le, Nat.not_lt, Nat.not_le, Bool.true_eq, Bool.false_eq, reduceCtorEq] at c39
          refine gl_un rfl rfl rfl rfl ?_
          refine gl_op rfl rfl rfl (op_loadG 1 Try.underlying108 rfl el108 hS rfl rfl rfl rfl rfl) ?_
          refine gl_un rfl rfl rfl rfl ?_
          refine gl_op rfl rfl rfl (op_loadG 2 Try.underlying108 rfl el108 hS rfl rfl rfl rfl rfl) ?_
          refine gl_un rfl rfl rfl rfl ?_
          refine gl_callf rfl rfl rfl rfl Try.func57 rfl rfl rfl (cmp0_calls x25 x29 _ (hx0 (h8 (by omega)))) ?_
          rintro _ w42 ⟨rfl, hb42⟩
          refine ⟨_, rfl, ?_⟩
          have hS := hS.grown hb42
          refine gl_un rfl rfl rfl rfl ?_
          refine gl_op rfl rfl rfl (op_pure hT rfl) ?_
          refine gl_un rfl rfl rfl rfl ?_
          refine gl_op rfl rfl rfl (op_pure hT rfl) ?_
          refine gl_op rfl rfl rfl (op_pure hT rfl) ?_
          refine gl_nil ?_
          refine hK25 _ _ ?_
          clear hK25; try clear K25
          refine gc_cond rfl rfl (fun c45 => ?_) (fun c45 => ?_)
          · try simp only [decide_eq_true_eq, decide_eq_false_iff_not, Bool.not_eq_true', Bool.not_eq_false', Int.not_lt, Int.not_le, Nat.not_lt, Nat.not_le, Bool.true_eq, Bool.false_eq, reduceCtorEq] at c45
            refine gc_seq fun K27 hK27 => ?_
            refine gc_region ?_
            refine gl_op rfl rfl rfl (op_pure hT rfl) ?_
            refine gl_nil ?_
            refine hK27 _ _ ?_
            clear hK27; try clear K27
            refine gc_ret ?_
            try simp only [x_then_ret, x_block_ret]
            refine gk_ret1 rfl rfl ?_
            refine ⟨?_, hS.below⟩
            unfold slopeV
            first
              | (rw [if_pos (by omega), if_pos (by omega)]; done)
              | (rw [if_pos (by omega), if_neg (by omega)]; done)
              | (rw [if_neg (by omega), if_pos c21]; done)
              | (exfalso; have h1 := hy1 rfl; rw [if_neg h1.1, if_neg h1.1, h1.2] at c45; revert c45; decide)
              | (exfalso; rw [if_pos (hx0 (h8 c14))] at c39; revert c39; decide)
              | (rw [if_neg (by omega), if_neg (by rw [c21]; simp)]; done)
              | trace_state
          · try simp only [decide_eq_true_eq, decide_eq_false_iff_not, Bool.not_eq_true', Bool.not_eq_false', Int.not_lt, Int.not_le, Nat.not_lt, Nat.not_le, Bool.true_eq, Bool.false_eq, reduceCtorEq] at c45
            refine gc_skip ?_
            refine hK24 _ _ ?_
            clear hK24; try clear K24
            refine gc_seq fun K28 hK28 => ?_
            refine gc_region ?_
            refine gl_op rfl rfl rfl (op_pure hT rfl) ?_
            refine gl_nil ?_
            refine hK28 _ _ ?_
            clear hK28; try clear K28
            refine gc_ret ?_
            try simp only [x_then_ret, x_block_ret]
            refine gk_ret1 rfl rfl ?_
            refine ⟨?_, hS.below⟩
            unfold slopeV
            first
              | (rw [if_pos (by omega), if_pos (by omega)]; done)
              | (rw [if_pos (by omega), if_neg (by omega)]; done)
              | (rw [if_neg (by omega), if_pos c21]; done)
              | (exfalso; have h1 := hy1 rfl; rw [if_neg h1.1, if_neg h1.1, h1.2] at c45; revert c45; decide)
              | (exfalso; rw [if_pos (hx0 (h8 c14))] at c39; revert c39; decide)
              | (rw [if_neg (by omega), if_neg (by rw [c21]; simp)]; done)
              | trace_state
      · try simp only [decide_eq_true_eq, decide_eq_false_iff_not, Bool.not_eq_true', Bool.not_eq_false', Int.not_lt, Int.not_le, Nat.not_lt, Nat.not_le, Bool.true_eq, Bool.false_eq, reduceCtorEq] at c35
        refine gl_pass rfl rfl rfl rfl rfl rfl ?_
        refine gl_pass rfl rfl rfl rfl rfl rfl ?_
        refine gl_pass rfl rfl rfl rfl rfl rfl ?_
        refine gl_pass rfl rfl rfl rfl rfl rfl ?_
        refine gl_none rfl rfl rfl rfl rfl ?_
        refine gl_none rfl rfl rfl rfl rfl ?_
        refine gl_none rfl rfl rfl rfl rfl ?_
        refine gl_none rfl rfl rfl rfl rfl ?_
        refine gl_pass rfl rfl rfl rfl rfl rfl ?_
        refine gl_op rfl rfl rfl (op_pure hT rfl) ?_
        refine gl_nil ?_
        refine hK25 _ _ ?_
        clear hK25; try clear K25
        refine gc_cond_f rfl ?_
        refine gc_skip ?_
        refine hK24 _ _ ?_
        clear hK24; try clear K24
        refine gc_seq fun K29 hK29 => ?_
        refine gc_region ?_
        refine gl_op rfl rfl rfl (op_pure hT rfl) ?_
        refine gl_nil ?_
        refine hK29 _ _ ?_
        clear hK29; try clear K29
        refine gc_ret ?_
        try simp only [x_then_ret, x_block_ret]
        refine gk_ret1 rfl rfl ?_
        refine ⟨?_, hS.below⟩
        unfold slopeV
        first
          | (rw [if_pos (by omega), if_pos (by omega)]; done)
          | (rw [if_pos (by omega), if_neg (by omega)]; done)
          | (rw [if_neg (by omega), if_pos c21]; done)
          | (exfalso; have h1 := hy1 rfl; rw [if_neg h1.1, if_neg h1.1, h1.2] at c45; revert c45; decide)
          | (exfalso; rw [if_pos (hx0 (h8 c14))] at c39; revert c39; decide)
          | (rw [if_neg (by omega), if_neg (by rw [c21]; simp)]; done)
          | trace_state
end Go.Proofs.Ytkfhablonnjgeaa
