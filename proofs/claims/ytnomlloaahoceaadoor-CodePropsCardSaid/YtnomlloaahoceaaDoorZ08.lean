/- Contracts of functions that CodeProps reaches, and words to say them. No condition. -/
import Derived.Test.YtnomlloaahoceaaDoorZ07
import Derived.Laws.Externs
/- Contracts of the shapes and fields of layers. No condition. -/
namespace Go.Proofs.YtnomlloaahoceaaDoor
open Go.RowKit
set_option linter.unusedVariables false
set_option linter.unusedSimpArgs false
theorem mBits_calls (b : Nat) (w : World) : Calls Tryd.prog 32 ⟨[.float .f64 b]⟩ w fun e w' => e = .returned (.int .u64 b) ∧ Eqv w w' := by
  refine gc_enter (N := 5) Tryd.func32 rfl rfl rfl [(0, _)] rfl ?_
  refine gc_seq fun K1 hK1 => ?_
  refine gc_region ?_
  refine gl_op rfl rfl rfl (op_pure hT rfl) ?_
  refine gl_nil ?_
  refine hK1 _ _ ?_
  clear hK1; try clear K1
  refine gc_seq fun K2 hK2 => ?_
  refine gc_region ?_
  refine gl_op rfl rfl rfl (op_pure hT rfl) ?_
  refine gl_op rfl rfl rfl (op_extern (ext := Extern.MathFloatBits.float64bits) rfl Tryd.func66 (by kernel_rfl) (by kernel_rfl) (by kernel_rfl) (by kernel_rfl) rfl (fun _ => rfl)) ?_
  refine gl_op rfl rfl rfl (op_pure hT rfl) ?_
  refine gl_nil ?_
  refine hK2 _ _ ?_
  clear hK2; try clear K2
  refine gc_ret ?_
  try simp only [x_then_ret, x_block_ret]
  refine gk_ret1 rfl rfl ?_
  exact ⟨rfl, Eqv.refl _⟩
theorem mofInt_u64 (a : Nat) (ha : a < 18446744073709551616) : (BitVec.ofInt 64 (a : Int)).toNat = a := by
  rw [BitVec.ofInt_natCast, BitVec.toNat_ofNat]; exact Nat.mod_eq_of_lt ha
theorem mu64_and2047 (a : Nat) (ha : a < 18446744073709551616) : Go.bits .and .u64 (a : Int) 2047 = ((a % 2048 : Nat) : Int) := by
  show Go.IntKind.u64.wrap ((BitVec.ofInt 64 (a : Int) &&& BitVec.ofInt 64 2047).toNat : Int) = _
  have h2 : (BitVec.ofInt 64 2047).toNat = 2 ^ 11 - 1 := by decide
  rw [BitVec.toNat_and, mofInt_u64 a ha, h2, Nat.and_two_pow_sub_one_eq_mod, IntKind.wrap_u64]
  omega
theorem mnumber_calls (u : Nat) (hu : u < 18446744073709551616) (w : World) :
    Calls Tryd.prog 85 ⟨[.float .f64 u]⟩ w fun e w' => e = .returned (.bool (nmB u)) ∧ Eqv w w' := by
  refine gc_enter (N := 8) Tryd.func85 rfl rfl rfl [(0, _)] rfl ?_
  have hS := St.start w
  refine gc_seq fun K1 hK1 => ?_
  refine gc_region ?_
  refine gl_op rfl rfl rfl (op_pure hT rfl) ?_
  refine gl_nil ?_
  refine hK1 _ _ ?_
  clear hK1; try clear K1
  refine gc_seq fun K2 hK2 => ?_
  refine gc_region ?_
  refine gl_op rfl rfl rfl (op_pure hT rfl) ?_
  refine gl_callf rfl rfl rfl rfl Tryd.func32 rfl rfl rfl (mBits_calls u _) ?_
  rintro _ _ ⟨rfl, n4, rfl⟩
  refine ⟨_, rfl, ?_⟩
  have hS := hS.dr n4
  refine gl_op rfl rfl rfl (op_pure hT rfl) ?_
  have e1 : (u : Int) / 2 ^ 52 = ((u / 4503599627370496 : Nat) : Int) := by omega
  refine gl_op rfl rfl rfl (op_pure hT rfl) ?_
  refine gl_spell 6 (v := .int .u64 ((u / 4503599627370496 % 2048 : Nat) : Int)) rfl ?_ ?_
  · show Value.int .u64 (bits .and .u64 ((u : Int) / 2 ^ 52) 2047) = _
    rw [e1, mu64_and2047 _ (by omega)]
  refine gl_op rfl rfl rfl (op_pure hT rfl) ?_
  refine gl_op rfl rfl rfl (op_pure hT rfl) ?_
  refine gl_nil ?_
  refine hK2 _ _ ?_
  clear hK2; try clear K2
  refine gc_ret ?_
  try simp only [x_then_ret, x_block_ret]
  refine gk_ret1 rfl rfl ?_
  exact ⟨by unfold nmB; congr 3; rw [Bool.eq_iff_iff]; simp; omega, ⟨_, rfl⟩⟩
theorem windowed_calls (k : Int) (w : World) : Calls Tryd.prog 92 ⟨[.int .i64 k]⟩ w fun e w' => e = .returned (.bool (decide (winV k))) ∧ Eqv w w' := by
  refine gc_enter (N := 13) Tryd.func92 rfl rfl rfl [(0, _)] rfl ?_
  refine gc_seq fun K1 hK1 => ?_
  refine gc_region ?_
  refine gl_op rfl rfl rfl (op_pure hT rfl) ?_
  refine gl_nil ?_
  refine hK1 _ _ ?_
  clear hK1; try clear K1
  refine gc_seq fun K2 hK2 => ?_
  refine gc_region ?_
  refine gl_op rfl rfl rfl (op_pure hT rfl) ?_
  refine gl_op rfl rfl rfl (op_pure hT rfl) ?_
  refine gl_op rfl rfl rfl (op_pure hT rfl) ?_
  refine gl_split (t := 5) rfl (fun c5 => ?_) (fun c5 => ?_)
  · try simp only [decide_eq_true_eq, decide_eq_false_iff_not, Bool.not_eq_true', Bool.not_eq_false', Int.not_lt, Int.not_le, Nat.not_lt, Nat.not_le, Bool.true_eq, Bool.false_eq, reduceCtorEq] at c5
    refine gl_pass rfl rfl rfl rfl rfl rfl ?_
    refine gl_pass rfl rfl rfl rfl rfl rfl ?_
    refine gl_op rfl rfl rfl (op_pure hT rfl) ?_
    refine gl_op rfl rfl rfl (op_pure hT rfl) ?_
    refine gl_pass rfl rfl rfl rfl rfl rfl ?_
    refine gl_pass rfl rfl rfl rfl rfl rfl ?_
    refine gl_op rfl rfl rfl (op_pure hT rfl) ?_
    refine gl_op rfl rfl rfl (op_pure hT rfl) ?_
    refine gl_nil ?_
    refine hK2 _ _ ?_
    clear hK2; try clear K2
    refine gc_ret ?_
    try simp only [x_then_ret, x_block_ret]
    refine gk_ret1 rfl rfl ?_
    first
      | exact ⟨by rw [decide_eq_true (show winV k by unfold winV; omega)], Eqv.refl _⟩
      | exact ⟨congrArg (fun b => Ending.returned (Value.bool b)) (decide_eq_decide.2 (by unfold winV; omega)), Eqv.refl _⟩
  · try simp only [decide_eq_true_eq, decide_eq_false_iff_not, Bool.not_eq_true', Bool.not_eq_false', Int.not_lt, Int.not_le, Nat.not_lt, Nat.not_le, Bool.true_eq, Bool.false_eq, reduceCtorEq] at c5
    refine gl_un rfl rfl rfl rfl ?_
    refine gl_op rfl rfl rfl (op_pure hT rfl) ?_
    refine gl_un rfl rfl rfl rfl ?_
    refine gl_op rfl rfl rfl (op_pure hT rfl) ?_
    refine gl_op rfl rfl rfl (op_pure hT rfl) ?_
    refine gl_op rfl rfl rfl (op_pure hT rfl) ?_
    refine gl_split (t := 9) rfl (fun c9 => ?_) (fun c9 => ?_)
    · try simp only [decide_eq_true_eq, decide_eq_false_iff_not, Bool.not_eq_true', Bool.not_eq_false', Int.not_lt, Int.not_le, Nat.not_lt, Nat.not_le, Bool.true_eq, Bool.false_eq, reduceCtorEq] at c9
      refine gl_pass rfl rfl rfl rfl rfl rfl ?_
      refine gl_pass rfl rfl rfl rfl rfl rfl ?_
      refine gl_op rfl rfl rfl (op_pure hT rfl) ?_
      refine gl_op rfl rfl rfl (op_pure hT rfl) ?_
      refine gl_nil ?_
      refine hK2 _ _ ?_
      clear hK2; try clear K2
      refine gc_ret ?_
      try simp only [x_then_ret, x_block_ret]
      refine gk_ret1 rfl rfl ?_
      first
        | exact ⟨by rw [decide_eq_true (show winV k by unfold winV; omega)], Eqv.refl _⟩
        | exact ⟨congrArg (fun b => Ending.returned (Value.bool b)) (decide_eq_decide.2 (by unfold winV; omega)), Eqv.refl _⟩
    · try simp only [decide_eq_true_eq, decide_eq_false_iff_not, Bool.not_eq_true', Bool.not_eq_false', Int.not_lt, Int.not_le, Nat.not_lt, Nat.not_le, Bool.true_eq, Bool.false_eq, reduceCtorEq] at c9
      refine gl_un rfl rfl rfl rfl ?_
      refine gl_op rfl rfl rfl (op_pure hT rfl) ?_
      refine gl_un rfl rfl rfl rfl ?_
      refine gl_op rfl rfl rfl (op_pure hT rfl) ?_
      refine gl_op rfl rfl rfl (op_pure hT rfl) ?_
      refine gl_op rfl rfl rfl (op_pure hT rfl) ?_
      refine gl_nil ?_
      refine hK2 _ _ ?_
      clear hK2; try clear K2
      refine gc_ret ?_
      try simp only [x_then_ret, x_block_ret]
      refine gk_ret1 rfl rfl ?_
      first
        | exact ⟨by rw [decide_eq_true (show winV k by unfold winV; omega)], Eqv.refl _⟩
        | exact ⟨congrArg (fun b => Ending.returned (Value.bool b)) (decide_eq_decide.2 (by unfold winV; omega)), Eqv.refl _⟩
theorem mSize_calls (s : Sh) (w : World) (hs : s.ok) : Calls Tryd.prog 52 ⟨[.agg ⟨shC s⟩]⟩ w fun e w' => e = .returned (.tuple #[.int .i64 (sizeV s).1, .int .i64 (sizeV s).2]) ∧ Below w.heap.size w w' := by
  obtain ⟨c, h, x⟩ := s
  show Calls _ _ ⟨[Value.agg ⟨[.int .i64 c, .int .i64 h, .int .i64 x]⟩]⟩ w _
  refine gc_enter (N := 41) Tryd.func52 rfl rfl rfl [(0, _)] rfl ?_
  have hS := St.start w
  refine gc_seq fun K1 hK1 => ?_
  refine gc_region ?_
  refine gl_box hS rfl rfl rfl rfl rfl fun g1 w1 hS => ?_
  refine gl_op rfl rfl rfl (op_pure hT rfl) ?_
  refine gl_op rfl rfl rfl (op_pure hT rfl) ?_
  refine gl_nil ?_
  refine hK1 _ _ ?_
  clear hK1; try clear K1
  refine gc_seq fun K2 hK2 => ?_
  refine gc_seq fun K3 hK3 => ?_
  refine gc_region ?_
  refine gl_op rfl rfl rfl (op_fieldB 0 rfl Tryd.underlying61 rfl el3 rfl rfl) ?_
  refine gl_op rfl rfl rfl (op_loadB 0 hT hS rfl rfl rfl rfl rfl rfl) ?_
  refine gl_op rfl rfl rfl (op_fieldB 1 rfl Tryd.underlying61 rfl el3 rfl rfl) ?_
  refine gl_op rfl rfl rfl (op_loadB 0 hT hS rfl rfl rfl rfl rfl rfl) ?_
  refine gl_op rfl rfl rfl (op_fieldB 2 rfl Tryd.underlying61 rfl el3 rfl rfl) ?_
  refine gl_op rfl rfl rfl (op_loadB 0 hT hS rfl rfl rfl rfl rfl rfl) ?_
  refine gl_op rfl rfl rfl (op_min3 rfl rfl rfl rfl) ?_
  obtain ⟨m, hm⟩ : ∃ m, (if x < (if h < c then h else c) then x else (if h < c then h else c)) = m := ⟨_, rfl⟩
  have hm1 : m < 1 ↔ (c < 1 ∨ h < 1 ∨ x < 1) := by rw [← hm]; split <;> split <;> omega
  rw [hm]
  refine gl_op rfl rfl rfl (op_pure hT rfl) ?_
  refine gl_op rfl rfl rfl (op_pure hT rfl) ?_
  refine gl_split (t := 12) rfl (fun c12 => ?_) (fun c12 => ?_)
  · try simp only [decide_eq_true_eq, decide_eq_false_iff_not, Bool.not_eq_true', Bool.not_eq_false', Int.not_lt, Int.not_le, Nat.not_lt, Nat.not_le, Bool.true_eq, Bool.false_eq, reduceCtorEq] at c12
    refine gl_pass rfl rfl rfl rfl rfl rfl ?_
    refine gl_pass rfl rfl rfl rfl rfl rfl ?_
    refine gl_pass rfl rfl rfl rfl rfl rfl ?_
    refine gl_pass rfl rfl rfl rfl rfl rfl ?_
    refine gl_pass rfl rfl rfl rfl rfl rfl ?_
    refine gl_pass rfl rfl rfl rfl rfl rfl ?_
    refine gl_pass rfl rfl rfl rfl rfl rfl ?_
    refine gl_pass rfl rfl rfl rfl rfl rfl ?_
    refine gl_op rfl rfl rfl (op_pure hT rfl) ?_
    refine gl_op rfl rfl rfl (op_pure hT rfl) ?_
    refine gl_pass rfl rfl rfl rfl rfl rfl ?_
    refine gl_pass rfl rfl rfl rfl rfl rfl ?_
    refine gl_pass rfl rfl rfl rfl rfl rfl ?_
    refine gl_pass rfl rfl rfl rfl rfl rfl ?_
    refine gl_pass rfl rfl rfl rfl rfl rfl ?_
    refine gl_pass rfl rfl rfl rfl rfl rfl ?_
    refine gl_pass rfl rfl rfl rfl rfl rfl ?_
    refine gl_pass rfl rfl rfl rfl rfl rfl ?_
    refine gl_pass rfl rfl rfl rfl rfl rfl ?_
    refine gl_op rfl rfl rfl (op_pure hT rfl) ?_
    refine gl_nil ?_
    refine hK3 _ _ ?_
    clear hK3; try clear K3
    refine gc_cond_t rfl ?_
    refine gc_seq fun K4 hK4 => ?_
    refine gc_region ?_
    refine gl_op rfl rfl rfl (op_pure hT rfl) ?_
    refine gl_op rfl rfl rfl (op_pure hT rfl) ?_
    refine gl_nil ?_
    refine hK4 _ _ ?_
    clear hK4; try clear K4
    refine gc_ret ?_
    try simp only [x_then_ret, x_block_ret]
    refine gk_ret2 rfl rfl rfl ?_
    exact ⟨by unfold sizeV; rw [if_pos (by show _ ∨ _; simp only; omega)], hS.below⟩
  · try simp only [decide_eq_true_eq, decide_eq_false_iff_not, Bool.not_eq_true', Bool.not_eq_false', Int.not_lt, Int.not_le, Nat.not_lt, Nat.not_le, Bool.true_eq, Bool.false_eq, reduceCtorEq] at c12
    refine gl_un rfl rfl rfl rfl ?_
    refine gl_op rfl rfl rfl (op_fieldB 0 rfl Tryd.underlying61 rfl el3 rfl rfl) ?_
    refine gl_un rfl rfl rfl rfl ?_
    refine gl_op rfl rfl rfl (op_loadB 0 hT hS rfl rfl rfl rfl rfl rfl) ?_
    refine gl_un rfl rfl rfl rfl ?_
    refine gl_op rfl rfl rfl (op_fieldB 1 rfl Tryd.underlying61 rfl el3 rfl rfl) ?_
    refine gl_un rfl rfl rfl rfl ?_
    refine gl_op rfl rfl rfl (op_loadB 0 hT hS rfl rfl rfl rfl rfl rfl) ?_
    refine gl_un rfl rfl rfl rfl ?_
    refine gl_op rfl rfl rfl (op_fieldB 2 rfl Tryd.underlying61 rfl el3 rfl rfl) ?_
    refine gl_un rfl rfl rfl rfl ?_
    refine gl_op rfl rfl rfl (op_loadB 0 hT hS rfl rfl rfl rfl rfl rfl) ?_
    refine gl_un rfl rfl rfl rfl ?_
    refine gl_op rfl rfl rfl (op_max3 rfl rfl rfl rfl) ?_
    obtain ⟨m2, hm2⟩ : ∃ m, (if (if c < h then h else c) < x then x else (if c < h then h else c)) = m := ⟨_, rfl⟩
    have hm3 : 256 < m2 ↔ (256 < c ∨ 256 < h ∨ 256 < x) := by rw [← hm2]; split <;> split <;> omega
    rw [hm2]
    refine gl_un rfl rfl rfl rfl ?_
    refine gl_op rfl rfl rfl (op_pure hT rfl) ?_
    refine gl_op rfl rfl rfl (op_pure hT rfl) ?_
    refine gl_op rfl rfl rfl (op_pure hT rfl) ?_
    refine gl_split (t := 22) rfl (fun c22 => ?_) (fun c22 => ?_)
    · try simp only [decide_eq_true_eq, decide_eq_false_iff_not, Bool.not_eq_true', Bool.not_eq_false', Int.not_lt, Int.not_le, Nat.not_lt, Nat.not_le, Bool.true_eq, Bool.false_eq, reduceCtorEq] at c22
      refine gl_pass rfl rfl rfl rfl rfl rfl ?_
      refine gl_pass rfl rfl rfl rfl rfl rfl ?_
      refine gl_pass rfl rfl rfl rfl rfl rfl ?_
      refine gl_pass rfl rfl rfl rfl rfl rfl ?_
      refine gl_pass rfl rfl rfl rfl rfl rfl ?_
      refine gl_pass rfl rfl rfl rfl rfl rfl ?_
      refine gl_pass rfl rfl rfl rfl rfl rfl ?_
      refine gl_pass rfl rfl rfl rfl rfl rfl ?_
      refine gl_pass rfl rfl rfl rfl rfl rfl ?_
      refine gl_op rfl rfl rfl (op_pure hT rfl) ?_
      refine gl_nil ?_
      refine hK3 _ _ ?_
      clear hK3; try clear K3
      refine gc_cond_t rfl ?_
      refine gc_seq fun K5 hK5 => ?_
      refine gc_region ?_
      refine gl_op rfl rfl rfl (op_pure hT rfl) ?_
      refine gl_op rfl rfl rfl (op_pure hT rfl) ?_
      refine gl_nil ?_
      refine hK5 _ _ ?_
      clear hK5; try clear K5
      refine gc_ret ?_
      try simp only [x_then_ret, x_block_ret]
      refine gk_ret2 rfl rfl rfl ?_
      exact ⟨by unfold sizeV; rw [if_pos (by show _ ∨ _; simp only; omega)], hS.below⟩
    · try simp only [decide_eq_true_eq, decide_eq_false_iff_not, Bool.not_eq_true', Bool.not_eq_false', Int.not_lt, Int.not_le, Nat.not_lt, Nat.not_le, Bool.true_eq, Bool.false_eq, reduceCtorEq] at c22
      have b1 := mul_bd (a := c) (b := h) (A := 256) (B := 256) (by omega) (by omega) (by omega) (by omega)
      have b2 := mul_bd (a := c * h) (b := x) (A := 65536) (B := 256) (by omega) (by omega) (by omega) (by omega)
      refine gl_un rfl rfl rfl rfl ?_
      refine gl_op rfl rfl rfl (op_fieldB 0 rfl Tryd.underlying61 rfl el3 rfl rfl) ?_
      refine gl_un rfl rfl rfl rfl ?_
      refine gl_op rfl rfl rfl (op_loadB 0 hT hS rfl rfl rfl rfl rfl rfl) ?_
      refine gl_un rfl rfl rfl rfl ?_
      refine gl_op rfl rfl rfl (op_fieldB 1 rfl Tryd.underlying61 rfl el3 rfl rfl) ?_
      refine gl_un rfl rfl rfl rfl ?_
      refine gl_op rfl rfl rfl (op_loadB 0 hT hS rfl rfl rfl rfl rfl rfl) ?_
      refine gl_un rfl rfl rfl rfl ?_
      refine gl_fit hT rfl rfl rfl rfl (by omega) ?_
      refine gl_un rfl rfl rfl rfl ?_
      refine gl_op rfl rfl rfl (op_fieldB 2 rfl Tryd.underlying61 rfl el3 rfl rfl) ?_
      refine gl_un rfl rfl rfl rfl ?_
      refine gl_op rfl rfl rfl (op_loadB 0 hT hS rfl rfl rfl rfl rfl rfl) ?_
      refine gl_un rfl rfl rfl rfl ?_
      refine gl_fit hT rfl rfl rfl rfl (by omega) ?_
      refine gl_un rfl rfl rfl rfl ?_
      refine gl_op rfl rfl rfl (op_pure hT rfl) ?_
      refine gl_op rfl rfl rfl (op_pure hT rfl) ?_
      refine gl_nil ?_
      refine hK3 _ _ ?_
      clear hK3; try clear K3
      refine gc_cond rfl rfl (fun c32 => ?_) (fun c32 => ?_)
      · try simp only [decide_eq_true_eq, decide_eq_false_iff_not, Bool.not_eq_true', Bool.not_eq_false', Int.not_lt, Int.not_le, Nat.not_lt, Nat.not_le, Bool.true_eq, Bool.false_eq, reduceCtorEq] at c32
        refine gc_seq fun K6 hK6 => ?_
        refine gc_region ?_
        refine gl_op rfl rfl rfl (op_pure hT rfl) ?_
        refine gl_op rfl rfl rfl (op_pure hT rfl) ?_
        refine gl_nil ?_
        refine hK6 _ _ ?_
        clear hK6; try clear K6
        refine gc_ret ?_
        try simp only [x_then_ret, x_block_ret]
        refine gk_ret2 rfl rfl rfl ?_
        exact ⟨by unfold sizeV; rw [if_pos (by show _ ∨ _; simp only; omega)], hS.below⟩
      · try simp only [decide_eq_true_eq, decide_eq_false_iff_not, Bool.not_eq_true', Bool.not_eq_false', Int.not_lt, Int.not_le, Nat.not_lt, Nat.not_le, Bool.true_eq, Bool.false_eq, reduceCtorEq] at c32
        have b1 := mul_bd (a := c) (b := h) (A := 256) (B := 256) (by omega) (by omega) (by omega) (by omega)
        have b2 := mul_bd (a := c * h) (b := x) (A := 65536) (B := 256) (by omega) (by omega) (by omega) (by omega)
        refine gc_skip ?_
        refine hK2 _ _ ?_
        clear hK2; try clear K2
        refine gc_seq fun K7 hK7 => ?_
        refine gc_region ?_
        refine gl_op rfl rfl rfl (op_fieldB 0 rfl Tryd.underlying61 rfl el3 rfl rfl) ?_
        refine gl_op rfl rfl rfl (op_loadB 0 hT hS rfl rfl rfl rfl rfl rfl) ?_
        refine gl_op rfl rfl rfl (op_fieldB 1 rfl Tryd.underlying61 rfl el3 rfl rfl) ?_
        refine gl_op rfl rfl rfl (op_loadB 0 hT hS rfl rfl rfl rfl rfl rfl) ?_
        first | refine gl_fit hT rfl rfl rfl rfl (by omega) ?_ | refine gl_op rfl rfl rfl (op_pure hT rfl) ?_
        refine gl_op rfl rfl rfl (op_fieldB 2 rfl Tryd.underlying61 rfl el3 rfl rfl) ?_
        refine gl_op rfl rfl rfl (op_loadB 0 hT hS rfl rfl rfl rfl rfl rfl) ?_
        first | refine gl_fit hT rfl rfl rfl rfl (by omega) ?_ | refine gl_op rfl rfl rfl (op_pure hT rfl) ?_
        refine gl_op rfl rfl rfl (op_pure hT rfl) ?_
        refine gl_op rfl rfl rfl (op_pure hT rfl) ?_
        refine gl_nil ?_
        refine hK7 _ _ ?_
        clear hK7; try clear K7
        refine gc_ret ?_
        try simp only [x_then_ret, x_block_ret]
        refine gk_ret2 rfl rfl rfl ?_
        exact ⟨by unfold sizeV; rw [if_neg (by show ¬ (_ ∨ _); simp only; omega)], hS.below⟩
theorem bndC_len (k kh kw : Int) : (bndC k kh kw).length = 16 := by
  unfold bndC
  by_cases h1 : k = 1
  · rw [if_pos h1]; rfl
  rw [if_neg h1]
  by_cases h2 : k = 6
  · rw [if_pos h2]; rfl
  rw [if_neg h2]
  by_cases h3 : k = 5
  · rw [if_pos h3]; rfl
  rw [if_neg h3]
  by_cases h4 : k = 2
  · rw [if_pos h4]; rfl
  rw [if_neg h4]
  by_cases h5 : k = 4 ∨ k = 12
  · rw [if_pos h5]; rfl
  rw [if_neg h5]; rfl
theorem bndC_one (k kh kw : Int) : allOne (bndC k kh kw) = true := by
  unfold bndC
  by_cases h1 : k = 1
  · rw [if_pos h1]; rfl
  rw [if_neg h1]
  by_cases h2 : k = 6
  · rw [if_pos h2]; rfl
  rw [if_neg h2]
  by_cases h3 : k = 5
  · rw [if_pos h3]; rfl
  rw [if_neg h3]
  by_cases h4 : k = 2
  · rw [if_pos h4]; rfl
  rw [if_neg h4]
  by_cases h5 : k = 4 ∨ k = 12
  · rw [if_pos h5]; rfl
  rw [if_neg h5]; rfl
set_option maxRecDepth 100000 in
theorem bounds_calls (L : Ly) (w : World) (hL : L.ok) : Calls Tryd.prog 98 ⟨[.agg ⟨lyC L⟩]⟩ w fun e w' => e = .returned (.tuple #[.agg ⟨bndC L.k L.kh L.kw⟩, .bool (bndA L.k)]) ∧ Below w.heap.size w w' := by
  obtain ⟨k, out, kh, kw, sh, sw, ph, pw, fr, a, W, B, Z, ZB⟩ := L
  show Calls _ _ ⟨[Value.agg ⟨[.int .i64 k, .int .i64 out, .int .i64 kh, .int .i64 kw, .int .i64 sh, .int .i64 sw, .int .i64 ph, .int .i64 pw, .int .i64 fr, .float .f64 a, svV W, svV B, svV Z, svV ZB]⟩]⟩ w fun e w' => e = .returned (.tuple #[.agg ⟨bndC k kh kw⟩, .bool (bndA k)]) ∧ Below w.heap.size w w'
  refine gc_enter (N := 51) Tryd.func98 rfl rfl rfl [(0, _)] rfl ?_
  have hS := St.start w
  refine gc_seq fun K1 hK1 => ?_
  refine gc_region ?_
  refine gl_box hS rfl rfl rfl rfl rfl fun g1 w1 hS => ?_
  refine gl_alloc el165 hS rfl rfl rfl rfl fun g2 w2 hS => ?_
  refine gl_op rfl rfl rfl (op_pure hT rfl) ?_
  refine gl_nil ?_
  refine hK1 _ _ ?_
  clear hK1; try clear K1
  refine gc_cut (fun a' w' => Fr 51 a' [(2, .pointer (some ⟨g2, 0, none⟩)), (3, .bool (bndA k))] ∧ St w.heap.size w w' [.blk g1 65 [.int .i64 k, .int .i64 out, .int .i64 kh, .int .i64 kw, .int .i64 sh, .int .i64 sw, .int .i64 ph, .int .i64 pw, .int .i64 fr, .float .f64 a, svV W, svV B, svV Z, svV ZB], .blk g2 165 (bndC k kh kw)]) ?_ ?_
  · skip
    refine gc_seq fun K2 hK2 => ?_
    refine gc_region ?_
    refine gl_op rfl rfl rfl (op_fieldB 0 rfl Tryd.underlying65 rfl el3 rfl rfl) ?_
    refine gl_op rfl rfl rfl (op_loadB 0 hT hS rfl rfl rfl rfl rfl rfl) ?_
    refine gl_nil ?_
    refine hK2 _ _ ?_
    clear hK2; try clear K2
    refine gc_block ?_
    refine gc_seq fun K3 hK3 => ?_
    refine gc_block ?_
    refine gc_seq fun K4 hK4 => ?_
    refine gc_block ?_
    refine gc_seq fun K5 hK5 => ?_
    refine gc_block ?_
    refine gc_seq fun K6 hK6 => ?_
    refine gc_block ?_
    refine gc_seq fun K7 hK7 => ?_
    refine gc_block ?_
    refine gc_seq fun K8 hK8 => ?_
    refine gc_block ?_
    refine gc_seq fun K9 hK9 => ?_
    refine gc_block ?_
    refine gc_seq fun K10 hK10 => ?_
    refine gc_seq fun K11 hK11 => ?_
    refine gc_seq fun K12 hK12 => ?_
    refine gc_region ?_
    refine gl_op rfl rfl rfl (op_pure hT rfl) ?_
    refine gl_op rfl rfl rfl (op_pure hT rfl) ?_
    refine gl_nil ?_
    refine hK12 _ _ ?_
    clear hK12; try clear K12
    refine gc_cond rfl rfl (fun c6 => ?_) (fun c6 => ?_)
    · try simp only [decide_eq_true_eq, decide_eq_false_iff_not, Bool.not_eq_true', Bool.not_eq_false', Int.not_lt, Int.not_le, Nat.not_lt, Nat.not_le, Bool.true_eq, Bool.false_eq, reduceCtorEq] at c6
      refine gc_exit ?_
      refine hK9 _ _ ?_
      clear hK9; try clear K9
      refine gc_seq fun K13 hK13 => ?_
      refine gc_region ?_
      refine gl_op rfl rfl rfl (op_buildG rfl plan164 rfl rfl) ?_
      refine gl_op rfl rfl rfl (op_ixA (j := 0) rfl Tryd.underlying165 el164 rfl rfl (by decide) (by decide) rfl) ?_
      refine gl_storeM 1 hS el164 rfl rfl rfl rfl rfl rfl rfl rfl rfl fun wmodel_go_37 hS => ?_
      refine gl_nil ?_
      refine hK13 _ _ ?_
      clear hK13; try clear K13
      refine gc_exit ?_
      intro a' ha
      first
        | (have hk : k = 1 := by omega
           subst hk
           exact ⟨ha.sub ⟨rfl, rfl, trivial⟩, hS⟩)
        | (have hk : k = 6 := by omega
           subst hk
           exact ⟨ha.sub ⟨rfl, rfl, trivial⟩, hS⟩)
        | (have hk : k = 5 := by omega
           subst hk
           exact ⟨ha.sub ⟨rfl, rfl, trivial⟩, hS⟩)
        | (have hk : k = 2 := by omega
           subst hk
           exact ⟨ha.sub ⟨rfl, rfl, trivial⟩, hS⟩)
        | (have hk : k = 4 := by omega
           subst hk
           exact ⟨ha.sub ⟨rfl, rfl, trivial⟩, hS⟩)
        | (have hk : k = 12 := by omega
           subst hk
           exact ⟨ha.sub ⟨rfl, rfl, trivial⟩, hS⟩)
        | (have hk : k = 8 := by omega
           subst hk
           exact ⟨ha.sub ⟨rfl, rfl, trivial⟩, hS⟩)
        | (have e1 : bndC k kh kw = [.int .i64 0, .int .i64 0, .int .i64 0, .int .i64 0, .int .i64 0, .int .i64 0, .int .i64 0, .int .i64 0, .int .i64 0, .int .i64 0, .int .i64 0, .int .i64 0, .int .i64 0, .int .i64 0, .int .i64 0, .int .i64 0] := by unfold bndC; rw [if_neg (by omega), if_neg (by omega), if_neg (by omega), if_neg (by omega), if_neg (by omega)]
           have e2 : bndA k = false := by unfold bndA; exact decide_eq_false (by omega)
           rw [e1, e2]
           exact ⟨ha.sub ⟨rfl, rfl, trivial⟩, hS⟩)
    · try simp only [decide_eq_true_eq, decide_eq_false_iff_not, Bool.not_eq_true', Bool.not_eq_false', Int.not_lt, Int.not_le, Nat.not_lt, Nat.not_le, Bool.true_eq, Bool.false_eq, reduceCtorEq] at c6
      refine gc_skip ?_
      refine hK11 _ _ ?_
      clear hK11; try clear K11
      refine gc_seq fun K14 hK14 => ?_
      refine gc_seq fun K15 hK15 => ?_
      refine gc_region ?_
      refine gl_op rfl rfl rfl (op_pure hT rfl) ?_
      refine gl_op rfl rfl rfl (op_pure hT rfl) ?_
      refine gl_nil ?_
      refine hK15 _ _ ?_
      clear hK15; try clear K15
      refine gc_cond rfl rfl (fun c8 => ?_) (fun c8 => ?_)
      · try simp only [decide_eq_true_eq, decide_eq_false_iff_not, Bool.not_eq_true', Bool.not_eq_false', Int.not_lt, Int.not_le, Nat.not_lt, Nat.not_le, Bool.true_eq, Bool.false_eq, reduceCtorEq] at c8
        refine gc_exit ?_
        refine hK8 _ _ ?_
        clear hK8; try clear K8
        refine gc_seq fun K16 hK16 => ?_
        refine gc_region ?_
        refine gl_op rfl rfl rfl (op_buildG rfl plan164 rfl rfl) ?_
        refine gl_op rfl rfl rfl (op_ixA (j := 0) rfl Tryd.underlying165 el164 rfl rfl (by decide) (by decide) rfl) ?_
        refine gl_storeM 1 hS el164 rfl rfl rfl rfl rfl rfl rfl rfl rfl fun wmodel_go_39 hS => ?_
        refine gl_nil ?_
        refine hK16 _ _ ?_
        clear hK16; try clear K16
        refine gc_exit ?_
        intro a' ha
        first
          | (have hk : k = 1 := by omega
             subst hk
             exact ⟨ha.sub ⟨rfl, rfl, trivial⟩, hS⟩)
          | (have hk : k = 6 := by omega
             subst hk
             exact ⟨ha.sub ⟨rfl, rfl, trivial⟩, hS⟩)
          | (have hk : k = 5 := by omega
             subst hk
             exact ⟨ha.sub ⟨rfl, rfl, trivial⟩, hS⟩)
          | (have hk : k = 2 := by omega
             subst hk
             exact ⟨ha.sub ⟨rfl, rfl, trivial⟩, hS⟩)
          | (have hk : k = 4 := by omega
             subst hk
             exact ⟨ha.sub ⟨rfl, rfl, trivial⟩, hS⟩)
          | (have hk : k = 12 := by omega
             subst hk
             exact ⟨ha.sub ⟨rfl, rfl, trivial⟩, hS⟩)
          | (have hk : k = 8 := by omega
             subst hk
             exact ⟨ha.sub ⟨rfl, rfl, trivial⟩, hS⟩)
          | (have e1 : bndC k kh kw = [.int .i64 0, .int .i64 0, .int .i64 0, .int .i64 0, .int .i64 0, .int .i64 0, .int .i64 0, .int .i64 0, .int .i64 0, .int .i64 0, .int .i64 0, .int .i64 0, .int .i64 0, .int .i64 0, .int .i64 0, .int .i64 0] := by unfold bndC; rw [if_neg (by omega), if_neg (by omega), if_neg (by omega), if_neg (by omega), if_neg (by omega)]
             have e2 : bndA k = false := by unfold bndA; exact decide_eq_false (by omega)
             rw [e1, e2]
             exact ⟨ha.sub ⟨rfl, rfl, trivial⟩, hS⟩)
      · try simp only [decide_eq_true_eq, decide_eq_false_iff_not, Bool.not_eq_true', Bool.not_eq_false', Int.not_lt, Int.not_le, Nat.not_lt, Nat.not_le, Bool.true_eq, Bool.false_eq, reduceCtorEq] at c8
        refine gc_skip ?_
        refine hK14 _ _ ?_
        clear hK14; try clear K14
        refine gc_seq fun K17 hK17 => ?_
        refine gc_seq fun K18 hK18 => ?_
        refine gc_region ?_
        refine gl_op rfl rfl rfl (op_pure hT rfl) ?_
        refine gl_op rfl rfl rfl (op_pure hT rfl) ?_
        refine gl_nil ?_
        refine hK18 _ _ ?_
        clear hK18; try clear K18
        refine gc_cond rfl rfl (fun c10 => ?_) (fun c10 => ?_)
        · try simp only [decide_eq_true_eq, decide_eq_false_iff_not, Bool.not_eq_true', Bool.not_eq_false', Int.not_lt, Int.not_le, Nat.not_lt, Nat.not_le, Bool.true_eq, Bool.false_eq, reduceCtorEq] at c10
          refine gc_exit ?_
          refine hK7 _ _ ?_
          clear hK7; try clear K7
          refine gc_seq fun K19 hK19 => ?_
          refine gc_region ?_
          refine gl_op rfl rfl rfl (op_buildG rfl plan164 rfl rfl) ?_
          refine gl_op rfl rfl rfl (op_ixA (j := 14) rfl Tryd.underlying165 el164 rfl rfl (by decide) (by decide) rfl) ?_
          refine gl_storeM 1 hS el164 rfl rfl rfl rfl rfl rfl rfl rfl rfl fun wmodel_go_41 hS => ?_
          refine gl_nil ?_
          refine hK19 _ _ ?_
          clear hK19; try clear K19
          refine gc_exit ?_
          intro a' ha
          first
            | (have hk : k = 1 := by omega
               subst hk
               exact ⟨ha.sub ⟨rfl, rfl, trivial⟩, hS⟩)
            | (have hk : k = 6 := by omega
               subst hk
               exact ⟨ha.sub ⟨rfl, rfl, trivial⟩, hS⟩)
            | (have hk : k = 5 := by omega
               subst hk
               exact ⟨ha.sub ⟨rfl, rfl, trivial⟩, hS⟩)
            | (have hk : k = 2 := by omega
               subst hk
               exact ⟨ha.sub ⟨rfl, rfl, trivial⟩, hS⟩)
            | (have hk : k = 4 := by omega
               subst hk
               exact ⟨ha.sub ⟨rfl, rfl, trivial⟩, hS⟩)
            | (have hk : k = 12 := by omega
               subst hk
               exact ⟨ha.sub ⟨rfl, rfl, trivial⟩, hS⟩)
            | (have hk : k = 8 := by omega
               subst hk
               exact ⟨ha.sub ⟨rfl, rfl, trivial⟩, hS⟩)
            | (have e1 : bndC k kh kw = [.int .i64 0, .int .i64 0, .int .i64 0, .int .i64 0, .int .i64 0, .int .i64 0, .int .i64 0, .int .i64 0, .int .i64 0, .int .i64 0, .int .i64 0, .int .i64 0, .int .i64 0, .int .i64 0, .int .i64 0, .int .i64 0] := by unfold bndC; rw [if_neg (by omega), if_neg (by omega), if_neg (by omega), if_neg (by omega), if_neg (by omega)]
               have e2 : bndA k = false := by unfold bndA; exact decide_eq_false (by omega)
               rw [e1, e2]
               exact ⟨ha.sub ⟨rfl, rfl, trivial⟩, hS⟩)
        · try simp only [decide_eq_true_eq, decide_eq_false_iff_not, Bool.not_eq_true', Bool.not_eq_false', Int.not_lt, Int.not_le, Nat.not_lt, Nat.not_le, Bool.true_eq, Bool.false_eq, reduceCtorEq] at c10
          refine gc_skip ?_
          refine hK17 _ _ ?_
          clear hK17; try clear K17
          refine gc_seq fun K20 hK20 => ?_
          refine gc_seq fun K21 hK21 => ?_
          refine gc_region ?_
          refine gl_op rfl rfl rfl (op_pure hT rfl) ?_
          refine gl_op rfl rfl rfl (op_pure hT rfl) ?_
          refine gl_nil ?_
          refine hK21 _ _ ?_
          clear hK21; try clear K21
          refine gc_cond rfl rfl (fun c12 => ?_) (fun c12 => ?_)
          · try simp only [decide_eq_true_eq, decide_eq_false_iff_not, Bool.not_eq_true', Bool.not_eq_false', Int.not_lt, Int.not_le, Nat.not_lt, Nat.not_le, Bool.true_eq, Bool.false_eq, reduceCtorEq] at c12
            refine gc_exit ?_
            refine hK6 _ _ ?_
            clear hK6; try clear K6
            refine gc_region ?_
            refine gl_op rfl rfl rfl (op_buildG rfl plan164 rfl rfl) ?_
            refine gl_op rfl rfl rfl (op_ixA (j := 0) rfl Tryd.underlying165 el164 rfl rfl (by decide) (by decide) rfl) ?_
            refine gl_storeM 1 hS el164 rfl rfl rfl rfl rfl rfl rfl rfl rfl fun wmodel_go_43 hS => ?_
            refine gl_nil ?_
            refine hK5 _ _ ?_
            clear hK5; try clear K5
            refine gc_region ?_
            refine gl_op rfl rfl rfl (op_fieldB 0 rfl Tryd.underlying65 rfl el3 rfl rfl) ?_
            refine gl_op rfl rfl rfl (op_loadB 0 hT hS rfl rfl rfl rfl rfl rfl) ?_
            refine gl_op rfl rfl rfl (op_pure hT rfl) ?_
            refine gl_op rfl rfl rfl (op_pure hT rfl) ?_
            refine gl_nil ?_
            refine hK4 _ _ ?_
            clear hK4; try clear K4
            refine gc_seq fun K22 hK22 => ?_
            refine gc_seq fun K23 hK23 => ?_
            refine gc_region ?_
            refine gl_op rfl rfl rfl (op_buildG rfl plan164 rfl rfl) ?_
            refine gl_op rfl rfl rfl (op_buildG rfl plan164 rfl rfl) ?_
            refine gl_op rfl rfl rfl (op_ixA (j := 2) rfl Tryd.underlying165 el164 rfl rfl (by decide) (by decide) rfl) ?_
            refine gl_storeM 1 hS el164 rfl rfl rfl rfl rfl rfl rfl rfl rfl fun wmodel_go_49 hS => ?_
            refine gl_op rfl rfl rfl (op_ixA (j := 4) rfl Tryd.underlying165 el164 rfl rfl (by decide) (by decide) rfl) ?_
            refine gl_storeM 1 hS el164 rfl rfl rfl rfl rfl rfl rfl rfl rfl fun wmodel_go_49 hS => ?_
            refine gl_nil ?_
            refine hK23 _ _ ?_
            clear hK23; try clear K23
            refine gc_seq fun K24 hK24 => ?_
            refine gc_region ?_
            refine gl_op rfl rfl rfl (op_buildG rfl plan164 rfl rfl) ?_
            refine gl_op rfl rfl rfl (op_buildG rfl plan164 rfl rfl) ?_
            refine gl_op rfl rfl rfl (op_ixA (j := 6) rfl Tryd.underlying165 el164 rfl rfl (by decide) (by decide) rfl) ?_
            refine gl_storeM 1 hS el164 rfl rfl rfl rfl rfl rfl rfl rfl rfl fun wmodel_go_50 hS => ?_
            refine gl_op rfl rfl rfl (op_ixA (j := 8) rfl Tryd.underlying165 el164 rfl rfl (by decide) (by decide) rfl) ?_
            refine gl_storeM 1 hS el164 rfl rfl rfl rfl rfl rfl rfl rfl rfl fun wmodel_go_50 hS => ?_
            refine gl_nil ?_
            refine hK24 _ _ ?_
            clear hK24; try clear K24
            refine gc_anyS (hS.blank 1) (by kernel_rfl) rfl fun nq16 hK => ?_
            have hS := hS.dr nq16
            refine ga_take 0 rfl rfl rfl rfl (by kernel_rfl) (fun _ _ _ _ h => h) hK (fun w1 hS => op_fieldB 2 rfl Tryd.underlying65 rfl el3 rfl rfl) ?_
            refine ga_take 1 rfl rfl rfl rfl (by kernel_rfl) (fun _ _ _ _ h => h) hK (fun w1 hS => op_loadB 0 hT hS rfl rfl rfl rfl rfl rfl) ?_
            refine ga_take 2 rfl rfl rfl rfl (by kernel_rfl) (fun _ _ _ _ h => h) hK (fun w1 hS => op_pure hT rfl) ?_
            refine ga_take 3 rfl rfl rfl rfl (by kernel_rfl) (fun _ _ _ _ h => h) hK (fun w1 hS => op_buildG rfl plan164 rfl rfl) ?_
            refine ga_take 4 rfl rfl rfl rfl (by kernel_rfl) (fun _ _ _ _ h => h) hK (fun w1 hS => op_fieldB 3 rfl Tryd.underlying65 rfl el3 rfl rfl) ?_
            refine ga_take 5 rfl rfl rfl rfl (by kernel_rfl) (fun _ _ _ _ h => h) hK (fun w1 hS => op_loadB 0 hT hS rfl rfl rfl rfl rfl rfl) ?_
            refine ga_take 6 rfl rfl rfl rfl (by kernel_rfl) (fun _ _ _ _ h => h) hK (fun w1 hS => op_pure hT rfl) ?_
            refine ga_take 7 rfl rfl rfl rfl (by kernel_rfl) (fun _ _ _ _ h => h) hK (fun w1 hS => op_buildG rfl plan164 rfl rfl) ?_
            refine ga_take 8 rfl rfl rfl rfl (by kernel_rfl) (fun _ _ _ _ h => h) hK (fun w1 hS => op_ixA (j := 10) rfl Tryd.underlying165 el164 rfl rfl (by decide) (by decide) rfl) ?_
            refine ga_one 9 (by kernel_rfl) rfl ?_
            refine gl_storeM 1 hS el164 rfl rfl rfl rfl rfl rfl rfl rfl rfl fun wmodel_go_51 hS => ?_
            refine gl_nil ?_
            refine ga_next ((hS.blank 1).pre 2) fun hK => ?_
            refine ga_take 10 rfl rfl rfl rfl (by kernel_rfl) (fun _ _ _ _ h => h) hK (fun w1 hS => op_ixA (j := 12) rfl Tryd.underlying165 el164 rfl rfl (by decide) (by decide) rfl) ?_
            refine ga_one 11 (by kernel_rfl) rfl ?_
            refine gl_storeM 1 hS el164 rfl rfl rfl rfl rfl rfl rfl rfl rfl fun wmodel_go_51 hS => ?_
            refine gl_nil ?_
            refine ga_next ((hS.blank 1).pre 2) fun hK => ?_
            refine ga_done (by kernel_rfl) ?_
            refine hK22 _ _ ?_
            clear hK22; try clear K22
            refine gc_exit ?_
            intro a' ha
            first
              | (have hk : k = 1 := by omega
                 subst hk
                 exact ⟨ha.sub ⟨rfl, rfl, trivial⟩, hS⟩)
              | (have hk : k = 6 := by omega
                 subst hk
                 exact ⟨ha.sub ⟨rfl, rfl, trivial⟩, hS⟩)
              | (have hk : k = 5 := by omega
                 subst hk
                 exact ⟨ha.sub ⟨rfl, rfl, trivial⟩, hS⟩)
              | (have hk : k = 2 := by omega
                 subst hk
                 exact ⟨ha.sub ⟨rfl, rfl, trivial⟩, hS⟩)
              | (have hk : k = 4 := by omega
                 subst hk
                 exact ⟨ha.sub ⟨rfl, rfl, trivial⟩, hS⟩)
              | (have hk : k = 12 := by omega
                 subst hk
                 exact ⟨ha.sub ⟨rfl, rfl, trivial⟩, hS⟩)
              | (have hk : k = 8 := by omega
                 subst hk
                 exact ⟨ha.sub ⟨rfl, rfl, trivial⟩, hS⟩)
              | (have e1 : bndC k kh kw = [.int .i64 0, .int .i64 0, .int .i64 0, .int .i64 0, .int .i64 0, .int .i64 0, .int .i64 0, .int .i64 0, .int .i64 0, .int .i64 0, .int .i64 0, .int .i64 0, .int .i64 0, .int .i64 0, .int .i64 0, .int .i64 0] := by unfold bndC; rw [if_neg (by omega), if_neg (by omega), if_neg (by omega), if_neg (by omega), if_neg (by omega)]
                 have e2 : bndA k = false := by unfold bndA; exact decide_eq_false (by omega)
                 rw [e1, e2]
                 exact ⟨ha.sub ⟨rfl, rfl, trivial⟩, hS⟩)
          · try simp only [decide_eq_true_eq, decide_eq_false_iff_not, Bool.not_eq_true', Bool.not_eq_false', Int.not_lt, Int.not_le, Nat.not_lt, Nat.not_le, Bool.true_eq, Bool.false_eq, reduceCtorEq] at c12
            refine gc_skip ?_
            refine hK20 _ _ ?_
            clear hK20; try clear K20
            refine gc_seq fun K25 hK25 => ?_
            refine gc_seq fun K26 hK26 => ?_
            refine gc_region ?_
            refine gl_op rfl rfl rfl (op_pure hT rfl) ?_
            refine gl_op rfl rfl rfl (op_pure hT rfl) ?_
            refine gl_nil ?_
            refine hK26 _ _ ?_
            clear hK26; try clear K26
            refine gc_cond rfl rfl (fun c14 => ?_) (fun c14 => ?_)
            · try simp only [decide_eq_true_eq, decide_eq_false_iff_not, Bool.not_eq_true', Bool.not_eq_false', Int.not_lt, Int.not_le, Nat.not_lt, Nat.not_le, Bool.true_eq, Bool.false_eq, reduceCtorEq] at c14
              refine gc_exit ?_
              refine hK5 _ _ ?_
              clear hK5; try clear K5
              refine gc_region ?_
              refine gl_op rfl rfl rfl (op_fieldB 0 rfl Tryd.underlying65 rfl el3 rfl rfl) ?_
              refine gl_op rfl rfl rfl (op_loadB 0 hT hS rfl rfl rfl rfl rfl rfl) ?_
              refine gl_op rfl rfl rfl (op_pure hT rfl) ?_
              refine gl_op rfl rfl rfl (op_pure hT rfl) ?_
              refine gl_nil ?_
              refine hK4 _ _ ?_
              clear hK4; try clear K4
              refine gc_seq fun K27 hK27 => ?_
              refine gc_seq fun K28 hK28 => ?_
              refine gc_region ?_
              refine gl_op rfl rfl rfl (op_buildG rfl plan164 rfl rfl) ?_
              refine gl_op rfl rfl rfl (op_buildG rfl plan164 rfl rfl) ?_
              refine gl_op rfl rfl rfl (op_ixA (j := 2) rfl Tryd.underlying165 el164 rfl rfl (by decide) (by decide) rfl) ?_
              refine gl_storeM 1 hS el164 rfl rfl rfl rfl rfl rfl rfl rfl rfl fun wmodel_go_49 hS => ?_
              refine gl_op rfl rfl rfl (op_ixA (j := 4) rfl Tryd.underlying165 el164 rfl rfl (by decide) (by decide) rfl) ?_
              refine gl_storeM 1 hS el164 rfl rfl rfl rfl rfl rfl rfl rfl rfl fun wmodel_go_49 hS => ?_
              refine gl_nil ?_
              refine hK28 _ _ ?_
              clear hK28; try clear K28
              refine gc_seq fun K29 hK29 => ?_
              refine gc_region ?_
              refine gl_op rfl rfl rfl (op_buildG rfl plan164 rfl rfl) ?_
              refine gl_op rfl rfl rfl (op_buildG rfl plan164 rfl rfl) ?_
              refine gl_op rfl rfl rfl (op_ixA (j := 6) rfl Tryd.underlying165 el164 rfl rfl (by decide) (by decide) rfl) ?_
              refine gl_storeM 1 hS el164 rfl rfl rfl rfl rfl rfl rfl rfl rfl fun wmodel_go_50 hS => ?_
              refine gl_op rfl rfl rfl (op_ixA (j := 8) rfl Tryd.underlying165 el164 rfl rfl (by decide) (by decide) rfl) ?_
              refine gl_storeM 1 hS el164 rfl rfl rfl rfl rfl rfl rfl rfl rfl fun wmodel_go_50 hS => ?_
              refine gl_nil ?_
              refine hK29 _ _ ?_
              clear hK29; try clear K29
              refine gc_anyS (hS.blank 1) (by kernel_rfl) rfl fun nq16 hK => ?_
              have hS := hS.dr nq16
              refine ga_take 0 rfl rfl rfl rfl (by kernel_rfl) (fun _ _ _ _ h => h) hK (fun w1 hS => op_fieldB 2 rfl Tryd.underlying65 rfl el3 rfl rfl) ?_
              refine ga_take 1 rfl rfl rfl rfl (by kernel_rfl) (fun _ _ _ _ h => h) hK (fun w1 hS => op_loadB 0 hT hS rfl rfl rfl rfl rfl rfl) ?_
              refine ga_take 2 rfl rfl rfl rfl (by kernel_rfl) (fun _ _ _ _ h => h) hK (fun w1 hS => op_pure hT rfl) ?_
              refine ga_take 3 rfl rfl rfl rfl (by kernel_rfl) (fun _ _ _ _ h => h) hK (fun w1 hS => op_buildG rfl plan164 rfl rfl) ?_
              refine ga_take 4 rfl rfl rfl rfl (by kernel_rfl) (fun _ _ _ _ h => h) hK (fun w1 hS => op_fieldB 3 rfl Tryd.underlying65 rfl el3 rfl rfl) ?_
              refine ga_take 5 rfl rfl rfl rfl (by kernel_rfl) (fun _ _ _ _ h => h) hK (fun w1 hS => op_loadB 0 hT hS rfl rfl rfl rfl rfl rfl) ?_
              refine ga_take 6 rfl rfl rfl rfl (by kernel_rfl) (fun _ _ _ _ h => h) hK (fun w1 hS => op_pure hT rfl) ?_
              refine ga_take 7 rfl rfl rfl rfl (by kernel_rfl) (fun _ _ _ _ h => h) hK (fun w1 hS => op_buildG rfl plan164 rfl rfl) ?_
              refine ga_take 8 rfl rfl rfl rfl (by kernel_rfl) (fun _ _ _ _ h => h) hK (fun w1 hS => op_ixA (j := 10) rfl Tryd.underlying165 el164 rfl rfl (by decide) (by decide) rfl) ?_
              refine ga_one 9 (by kernel_rfl) rfl ?_
              refine gl_storeM 1 hS el164 rfl rfl rfl rfl rfl rfl rfl rfl rfl fun wmodel_go_51 hS => ?_
              refine gl_nil ?_
              refine ga_next ((hS.blank 1).pre 2) fun hK => ?_
              refine ga_take 10 rfl rfl rfl rfl (by kernel_rfl) (fun _ _ _ _ h => h) hK (fun w1 hS => op_ixA (j := 12) rfl Tryd.underlying165 el164 rfl rfl (by decide) (by decide) rfl) ?_
              refine ga_one 11 (by kernel_rfl) rfl ?_
              refine gl_storeM 1 hS el164 rfl rfl rfl rfl rfl rfl rfl rfl rfl fun wmodel_go_51 hS => ?_
              refine gl_nil ?_
              refine ga_next ((hS.blank 1).pre 2) fun hK => ?_
              refine ga_done (by kernel_rfl) ?_
              refine hK27 _ _ ?_
              clear hK27; try clear K27
              refine gc_exit ?_
              intro a' ha
              first
                | (have hk : k = 1 := by omega
                   subst hk
                   exact ⟨ha.sub ⟨rfl, rfl, trivial⟩, hS⟩)
                | (have hk : k = 6 := by omega
                   subst hk
                   exact ⟨ha.sub ⟨rfl, rfl, trivial⟩, hS⟩)
                | (have hk : k = 5 := by omega
                   subst hk
                   exact ⟨ha.sub ⟨rfl, rfl, trivial⟩, hS⟩)
                | (have hk : k = 2 := by omega
                   subst hk
                   exact ⟨ha.sub ⟨rfl, rfl, trivial⟩, hS⟩)
                | (have hk : k = 4 := by omega
                   subst hk
                   exact ⟨ha.sub ⟨rfl, rfl, trivial⟩, hS⟩)
                | (have hk : k = 12 := by omega
                   subst hk
                   exact ⟨ha.sub ⟨rfl, rfl, trivial⟩, hS⟩)
                | (have hk : k = 8 := by omega
                   subst hk
                   exact ⟨ha.sub ⟨rfl, rfl, trivial⟩, hS⟩)
                | (have e1 : bndC k kh kw = [.int .i64 0, .int .i64 0, .int .i64 0, .int .i64 0, .int .i64 0, .int .i64 0, .int .i64 0, .int .i64 0, .int .i64 0, .int .i64 0, .int .i64 0, .int .i64 0, .int .i64 0, .int .i64 0, .int .i64 0, .int .i64 0] := by unfold bndC; rw [if_neg (by omega), if_neg (by omega), if_neg (by omega), if_neg (by omega), if_neg (by omega)]
                   have e2 : bndA k = false := by unfold bndA; exact decide_eq_false (by omega)
                   rw [e1, e2]
                   exact ⟨ha.sub ⟨rfl, rfl, trivial⟩, hS⟩)
            · try simp only [decide_eq_true_eq, decide_eq_false_iff_not, Bool.not_eq_true', Bool.not_eq_false', Int.not_lt, Int.not_le, Nat.not_lt, Nat.not_le, Bool.true_eq, Bool.false_eq, reduceCtorEq] at c14
              refine gc_skip ?_
              refine hK25 _ _ ?_
              clear hK25; try clear K25
              refine gc_seq fun K30 hK30 => ?_
              refine gc_seq fun K31 hK31 => ?_
              refine gc_region ?_
              refine gl_op rfl rfl rfl (op_pure hT rfl) ?_
              refine gl_op rfl rfl rfl (op_pure hT rfl) ?_
              refine gl_nil ?_
              refine hK31 _ _ ?_
              clear hK31; try clear K31
              refine gc_cond rfl rfl (fun c16 => ?_) (fun c16 => ?_)
              · try simp only [decide_eq_true_eq, decide_eq_false_iff_not, Bool.not_eq_true', Bool.not_eq_false', Int.not_lt, Int.not_le, Nat.not_lt, Nat.not_le, Bool.true_eq, Bool.false_eq, reduceCtorEq] at c16
                refine gc_exit ?_
                refine hK4 _ _ ?_
                clear hK4; try clear K4
                refine gc_seq fun K32 hK32 => ?_
                refine gc_seq fun K33 hK33 => ?_
                refine gc_region ?_
                refine gl_op rfl rfl rfl (op_buildG rfl plan164 rfl rfl) ?_
                refine gl_op rfl rfl rfl (op_buildG rfl plan164 rfl rfl) ?_
                refine gl_op rfl rfl rfl (op_ixA (j := 2) rfl Tryd.underlying165 el164 rfl rfl (by decide) (by decide) rfl) ?_
                refine gl_storeM 1 hS el164 rfl rfl rfl rfl rfl rfl rfl rfl rfl fun wmodel_go_49 hS => ?_
                refine gl_op rfl rfl rfl (op_ixA (j := 4) rfl Tryd.underlying165 el164 rfl rfl (by decide) (by decide) rfl) ?_
                refine gl_storeM 1 hS el164 rfl rfl rfl rfl rfl rfl rfl rfl rfl fun wmodel_go_49 hS => ?_
                refine gl_nil ?_
                refine hK33 _ _ ?_
                clear hK33; try clear K33
                refine gc_seq fun K34 hK34 => ?_
                refine gc_region ?_
                refine gl_op rfl rfl rfl (op_buildG rfl plan164 rfl rfl) ?_
                refine gl_op rfl rfl rfl (op_buildG rfl plan164 rfl rfl) ?_
                refine gl_op rfl rfl rfl (op_ixA (j := 6) rfl Tryd.underlying165 el164 rfl rfl (by decide) (by decide) rfl) ?_
                refine gl_storeM 1 hS el164 rfl rfl rfl rfl rfl rfl rfl rfl rfl fun wmodel_go_50 hS => ?_
                refine gl_op rfl rfl rfl (op_ixA (j := 8) rfl Tryd.underlying165 el164 rfl rfl (by decide) (by decide) rfl) ?_
                refine gl_storeM 1 hS el164 rfl rfl rfl rfl rfl rfl rfl rfl rfl fun wmodel_go_50 hS => ?_
                refine gl_nil ?_
                refine hK34 _ _ ?_
                clear hK34; try clear K34
                refine gc_anyS (hS.blank 1) (by kernel_rfl) rfl fun nq16 hK => ?_
                have hS := hS.dr nq16
                refine ga_take 0 rfl rfl rfl rfl (by kernel_rfl) (fun _ _ _ _ h => h) hK (fun w1 hS => op_fieldB 2 rfl Tryd.underlying65 rfl el3 rfl rfl) ?_
                refine ga_take 1 rfl rfl rfl rfl (by kernel_rfl) (fun _ _ _ _ h => h) hK (fun w1 hS => op_loadB 0 hT hS rfl rfl rfl rfl rfl rfl) ?_
                refine ga_take 2 rfl rfl rfl rfl (by kernel_rfl) (fun _ _ _ _ h => h) hK (fun w1 hS => op_pure hT rfl) ?_
                refine ga_take 3 rfl rfl rfl rfl (by kernel_rfl) (fun _ _ _ _ h => h) hK (fun w1 hS => op_buildG rfl plan164 rfl rfl) ?_
                refine ga_take 4 rfl rfl rfl rfl (by kernel_rfl) (fun _ _ _ _ h => h) hK (fun w1 hS => op_fieldB 3 rfl Tryd.underlying65 rfl el3 rfl rfl) ?_
                refine ga_take 5 rfl rfl rfl rfl (by kernel_rfl) (fun _ _ _ _ h => h) hK (fun w1 hS => op_loadB 0 hT hS rfl rfl rfl rfl rfl rfl) ?_
                refine ga_take 6 rfl rfl rfl rfl (by kernel_rfl) (fun _ _ _ _ h => h) hK (fun w1 hS => op_pure hT rfl) ?_
                refine ga_take 7 rfl rfl rfl rfl (by kernel_rfl) (fun _ _ _ _ h => h) hK (fun w1 hS => op_buildG rfl plan164 rfl rfl) ?_
                refine ga_take 8 rfl rfl rfl rfl (by kernel_rfl) (fun _ _ _ _ h => h) hK (fun w1 hS => op_ixA (j := 10) rfl Tryd.underlying165 el164 rfl rfl (by decide) (by decide) rfl) ?_
                refine ga_one 9 (by kernel_rfl) rfl ?_
                refine gl_storeM 1 hS el164 rfl rfl rfl rfl rfl rfl rfl rfl rfl fun wmodel_go_51 hS => ?_
                refine gl_nil ?_
                refine ga_next ((hS.blank 1).pre 2) fun hK => ?_
                refine ga_take 10 rfl rfl rfl rfl (by kernel_rfl) (fun _ _ _ _ h => h) hK (fun w1 hS => op_ixA (j := 12) rfl Tryd.underlying165 el164 rfl rfl (by decide) (by decide) rfl) ?_
                refine ga_one 11 (by kernel_rfl) rfl ?_
                refine gl_storeM 1 hS el164 rfl rfl rfl rfl rfl rfl rfl rfl rfl fun wmodel_go_51 hS => ?_
                refine gl_nil ?_
                refine ga_next ((hS.blank 1).pre 2) fun hK => ?_
                refine ga_done (by kernel_rfl) ?_
                refine hK32 _ _ ?_
                clear hK32; try clear K32
                refine gc_exit ?_
                intro a' ha
                first
                  | (have hk : k = 1 := by omega
                     subst hk
                     exact ⟨ha.sub ⟨rfl, rfl, trivial⟩, hS⟩)
                  | (have hk : k = 6 := by omega
                     subst hk
                     exact ⟨ha.sub ⟨rfl, rfl, trivial⟩, hS⟩)
                  | (have hk : k = 5 := by omega
                     subst hk
                     exact ⟨ha.sub ⟨rfl, rfl, trivial⟩, hS⟩)
                  | (have hk : k = 2 := by omega
                     subst hk
                     exact ⟨ha.sub ⟨rfl, rfl, trivial⟩, hS⟩)
                  | (have hk : k = 4 := by omega
                     subst hk
                     exact ⟨ha.sub ⟨rfl, rfl, trivial⟩, hS⟩)
                  | (have hk : k = 12 := by omega
                     subst hk
                     exact ⟨ha.sub ⟨rfl, rfl, trivial⟩, hS⟩)
                  | (have hk : k = 8 := by omega
                     subst hk
                     exact ⟨ha.sub ⟨rfl, rfl, trivial⟩, hS⟩)
                  | (have e1 : bndC k kh kw = [.int .i64 0, .int .i64 0, .int .i64 0, .int .i64 0, .int .i64 0, .int .i64 0, .int .i64 0, .int .i64 0, .int .i64 0, .int .i64 0, .int .i64 0, .int .i64 0, .int .i64 0, .int .i64 0, .int .i64 0, .int .i64 0] := by unfold bndC; rw [if_neg (by omega), if_neg (by omega), if_neg (by omega), if_neg (by omega), if_neg (by omega)]
                     have e2 : bndA k = false := by unfold bndA; exact decide_eq_false (by omega)
                     rw [e1, e2]
                     exact ⟨ha.sub ⟨rfl, rfl, trivial⟩, hS⟩)
              · try simp only [decide_eq_true_eq, decide_eq_false_iff_not, Bool.not_eq_true', Bool.not_eq_false', Int.not_lt, Int.not_le, Nat.not_lt, Nat.not_le, Bool.true_eq, Bool.false_eq, reduceCtorEq] at c16
                refine gc_skip ?_
                refine hK30 _ _ ?_
                clear hK30; try clear K30
                refine gc_seq fun K35 hK35 => ?_
                refine gc_region ?_
                refine gl_op rfl rfl rfl (op_pure hT rfl) ?_
                refine gl_op rfl rfl rfl (op_pure hT rfl) ?_
                refine gl_nil ?_
                refine hK35 _ _ ?_
                clear hK35; try clear K35
                refine gc_cond rfl rfl (fun c18 => ?_) (fun c18 => ?_)
                · try simp only [decide_eq_true_eq, decide_eq_false_iff_not, Bool.not_eq_true', Bool.not_eq_false', Int.not_lt, Int.not_le, Nat.not_lt, Nat.not_le, Bool.true_eq, Bool.false_eq, reduceCtorEq] at c18
                  refine gc_exit ?_
                  refine hK3 _ _ ?_
                  clear hK3; try clear K3
                  refine gc_seq fun K36 hK36 => ?_
                  refine gc_region ?_
                  refine gl_op rfl rfl rfl (op_pure hT rfl) ?_
                  refine gl_nil ?_
                  refine hK36 _ _ ?_
                  clear hK36; try clear K36
                  refine gc_exit ?_
                  intro a' ha
                  first
                    | (have hk : k = 1 := by omega
                       subst hk
                       exact ⟨ha.sub ⟨rfl, rfl, trivial⟩, hS⟩)
                    | (have hk : k = 6 := by omega
                       subst hk
                       exact ⟨ha.sub ⟨rfl, rfl, trivial⟩, hS⟩)
                    | (have hk : k = 5 := by omega
                       subst hk
                       exact ⟨ha.sub ⟨rfl, rfl, trivial⟩, hS⟩)
                    | (have hk : k = 2 := by omega
                       subst hk
                       exact ⟨ha.sub ⟨rfl, rfl, trivial⟩, hS⟩)
                    | (have hk : k = 4 := by omega
                       subst hk
                       exact ⟨ha.sub ⟨rfl, rfl, trivial⟩, hS⟩)
                    | (have hk : k = 12 := by omega
                       subst hk
                       exact ⟨ha.sub ⟨rfl, rfl, trivial⟩, hS⟩)
                    | (have hk : k = 8 := by omega
                       subst hk
                       exact ⟨ha.sub ⟨rfl, rfl, trivial⟩, hS⟩)
                    | (have e1 : bndC k kh kw = [.int .i64 0, .int .i64 0, .int .i64 0, .int .i64 0, .int .i64 0, .int .i64 0, .int .i64 0, .int .i64 0, .int .i64 0, .int .i64 0, .int .i64 0, .int .i64 0, .int .i64 0, .int .i64 0, .int .i64 0, .int .i64 0] := by unfold bndC; rw [if_neg (by omega), if_neg (by omega), if_neg (by omega), if_neg (by omega), if_neg (by omega)]
                       have e2 : bndA k = false := by unfold bndA; exact decide_eq_false (by omega)
                       rw [e1, e2]
                       exact ⟨ha.sub ⟨rfl, rfl, trivial⟩, hS⟩)
                · try simp only [decide_eq_true_eq, decide_eq_false_iff_not, Bool.not_eq_true', Bool.not_eq_false', Int.not_lt, Int.not_le, Nat.not_lt, Nat.not_le, Bool.true_eq, Bool.false_eq, reduceCtorEq] at c18
                  refine gc_skip ?_
                  refine hK10 _ _ ?_
                  clear hK10; try clear K10
                  refine gc_exit ?_
                  intro a' ha
                  first
                    | (have hk : k = 1 := by omega
                       subst hk
                       exact ⟨ha.sub ⟨rfl, rfl, trivial⟩, hS⟩)
                    | (have hk : k = 6 := by omega
                       subst hk
                       exact ⟨ha.sub ⟨rfl, rfl, trivial⟩, hS⟩)
                    | (have hk : k = 5 := by omega
                       subst hk
                       exact ⟨ha.sub ⟨rfl, rfl, trivial⟩, hS⟩)
                    | (have hk : k = 2 := by omega
                       subst hk
                       exact ⟨ha.sub ⟨rfl, rfl, trivial⟩, hS⟩)
                    | (have hk : k = 4 := by omega
                       subst hk
                       exact ⟨ha.sub ⟨rfl, rfl, trivial⟩, hS⟩)
                    | (have hk : k = 12 := by omega
                       subst hk
                       exact ⟨ha.sub ⟨rfl, rfl, trivial⟩, hS⟩)
                    | (have hk : k = 8 := by omega
                       subst hk
                       exact ⟨ha.sub ⟨rfl, rfl, trivial⟩, hS⟩)
                    | (have e1 : bndC k kh kw = [.int .i64 0, .int .i64 0, .int .i64 0, .int .i64 0, .int .i64 0, .int .i64 0, .int .i64 0, .int .i64 0, .int .i64 0, .int .i64 0, .int .i64 0, .int .i64 0, .int .i64 0, .int .i64 0, .int .i64 0, .int .i64 0] := by unfold bndC; rw [if_neg (by omega), if_neg (by omega), if_neg (by omega), if_neg (by omega), if_neg (by omega)]
                       have e2 : bndA k = false := by unfold bndA; exact decide_eq_false (by omega)
                       rw [e1, e2]
                       exact ⟨ha.sub ⟨rfl, rfl, trivial⟩, hS⟩)
  rintro a' w1 ⟨hF, hS⟩
  refine gc_of hF ?_
  clear hF
  have hlen := bndC_len k kh kw
  refine gc_seq fun K37 hK37 => ?_
  refine gc_region ?_
  refine gl_op rfl rfl rfl (op_loadG (vs := bndC k kh kw) 1 Tryd.underlying165 rfl el165 hS rfl rfl rfl (List.take_of_length_le (by rw [List.drop_zero]; omega)) hlen) ?_
  refine gl_op rfl rfl rfl (op_pure hT rfl) ?_
  refine gl_storeM 1 hS el165 rfl rfl rfl rfl rfl rfl hlen (by rw [hlen]; rfl) (bndC_one k kh kw) fun wmodel_go_55 hS => ?_
  refine gl_op rfl rfl rfl (op_pure hT rfl) ?_
  refine gl_nil ?_
  refine hK37 _ _ ?_
  clear hK37; try clear K37
  refine gc_ret ?_
  try simp only [x_then_ret, x_block_ret]
  have e1 : spliceL (bndC k kh kw) 0 (bndC k kh kw) = bndC k kh kw := by unfold spliceL; rw [hlen, List.drop_eq_nil_of_le (by omega)]; simp
  rw [e1] at hS
  refine gk_res2 rfl ⟨_, rfl, run_loadVarB (vs := bndC k kh kw) 1 Tryd.underlying165 rfl el165 hS rfl (List.take_of_length_le (by rw [List.drop_zero]; omega)) hlen⟩ rfl ?_
  exact ⟨rfl, hS.below⟩
end Go.Proofs.YtnomlloaahoceaaDoor

