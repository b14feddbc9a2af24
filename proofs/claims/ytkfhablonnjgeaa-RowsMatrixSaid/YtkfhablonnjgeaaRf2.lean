/- Contracts of the document's own numbers and fields. No condition. -/
import Derived.Test.YtkfhablonnjgeaaRf1
namespace Go.Proofs.Ytkfhablonnjgeaa
open Go.RowKit
set_option linter.unusedVariables false
set_option linter.unusedSimpArgs false
theorem i64w {x : Int} (h : -9223372036854775808 ≤ x ∧ x ≤ 9223372036854775807) : IntKind.i64.wrap x = x := by rw [IntKind.wrap_i64]; omega
theorem u32w (x : Nat) : IntKind.u32.wrap (x : Int) = ((x % 4294967296 : Nat) : Int) := by rw [IntKind.wrap_u32]; omega
theorem u32d (x : Nat) : (x : Int) / 2 ^ 32 = ((x / 4294967296 : Nat) : Int) := by omega
theorem mu64_low52 (a : Nat) (ha : a < 18446744073709551616) : Go.bits .and .u64 (a : Int) 4503599627370495 = ((a % 4503599627370496 : Nat) : Int) := by
  show Go.IntKind.u64.wrap ((BitVec.ofInt 64 (a : Int) &&& BitVec.ofInt 64 4503599627370495).toNat : Int) = _
  have h2 : (BitVec.ofInt 64 4503599627370495).toNat = 2 ^ 52 - 1 := by decide
  rw [BitVec.toNat_and, mofInt_u64 a ha, h2, Nat.and_two_pow_sub_one_eq_mod, IntKind.wrap_u64]
  omega
theorem mu64_or52 (a : Nat) (ha : a < 4503599627370496) : Go.bits .or .u64 (a : Int) 4503599627370496 = ((a + 4503599627370496 : Nat) : Int) := by
  show Go.IntKind.u64.wrap ((BitVec.ofInt 64 (a : Int) ||| BitVec.ofInt 64 4503599627370496).toNat : Int) = _
  have h2 : (BitVec.ofInt 64 4503599627370496).toNat = 2 ^ 52 * 1 := by decide
  have h3 : a ||| 2 ^ 52 * 1 = 2 ^ 52 * 1 + a := by rw [Nat.or_comm, Nat.two_pow_add_eq_or_of_lt (i := 52) (by omega)]
  rw [BitVec.toNat_or, mofInt_u64 a (by omega), h2, h3, IntKind.wrap_u64]
  omega
theorem fNumber_calls (u : Nat) (hu : u < 18446744073709551616) (w : World) : Calls Try.prog 54 ⟨[.int .u64 (u : Nat)]⟩ w fun e w' => e = .returned (.bool (nmB u)) ∧ Eqv w w' := by
  refine gc_enter (N := 7) Try.func54 rfl rfl rfl [(0, _)] rfl ?_
  refine gc_seq fun K1 hK1 => ?_
  refine gc_region ?_
  refine gl_op rfl rfl rfl (op_pure hT rfl) ?_
  refine gl_nil ?_
  refine hK1 _ _ ?_
  clear hK1; try clear K1
  refine gc_seq fun K2 hK2 => ?_
  refine gc_region ?_
  refine gl_op rfl rfl rfl (op_pure hT rfl) ?_
  refine gl_op rfl rfl rfl (op_pure hT rfl) ?_
  have e1 : (u : Int) / 2 ^ 52 = ((u / 4503599627370496 : Nat) : Int) := by omega
  refine gl_op rfl rfl rfl (op_pure hT rfl) ?_
  refine gl_spell 5 (v := .int .u64 ((u / 4503599627370496 % 2048 : Nat) : Int)) rfl ?_ ?_
  · show Value.int .u64 (bits .and .u64 ((u : Int) / 2 ^ 52) 2047) = _
    rw [e1, mu64_and2047 _ (by omega)]
  refine gl_op rfl rfl rfl (op_pure hT rfl) ?_
  refine gl_op rfl rfl rfl (op_pure hT rfl) ?_
  refine gl_nil ?_
  refine hK2 _ _ ?_
  clear hK2; try clear K2
  refine gc_ret ?_
  try simp only [x_then_ret, x_block_ret]
  refine gk_ret1 rfl rfl ?_
  exact ⟨by unfold nmB; congr 3; rw [Bool.eq_iff_iff]; simp; omega, Eqv.refl _⟩
set_option maxRecDepth 100000 in
theorem of_calls (u : Nat) (hu : u < 18446744073709551616) (hn : nmB u = true) (w : World) :
    Calls Try.prog 55 ⟨[.int .u64 (u : Nat)]⟩ w fun e w' => ∃ x : Nm, e = .returned (.tuple #[.agg ⟨nmC x⟩, .bool true]) ∧ Below w.heap.size w w' ∧ (u = 0 → x.n = 0) ∧ (u = 4607182418800017408 → x.n ≠ 0 ∧ x.neg = false) := by
  have hne : u / 4503599627370496 % 2048 ≠ 2047 := by unfold nmB at hn; simpa using hn
  obtain ⟨ex, hex⟩ : ∃ ex, ex = u / 4503599627370496 % 2048 := ⟨_, rfl⟩
  obtain ⟨m, hm⟩ : ∃ m, m = u % 4503599627370496 := ⟨_, rfl⟩
  rw [← hex] at hne
  refine gc_enter (N := 35) Try.func55 rfl rfl rfl [(0, _)] rfl ?_
  have hS := St.start w
  refine gc_seq fun K1 hK1 => ?_
  refine gc_region ?_
  refine gl_alloc el108 hS rfl rfl rfl rfl fun g2 w2 hS => ?_
  refine gl_op rfl rfl rfl (op_pure hT rfl) ?_
  refine gl_nil ?_
  refine hK1 _ _ ?_
  clear hK1; try clear K1
  refine gc_seq fun K2 hK2 => ?_
  refine gc_region ?_
  refine gl_op rfl rfl rfl (op_pure hT rfl) ?_
  refine gl_op rfl rfl rfl (op_pure hT rfl) ?_
  have e1 : (u : Int) / 2 ^ 52 = ((u / 4503599627370496 : Nat) : Int) := by omega
  refine gl_op rfl rfl rfl (op_pure hT rfl) ?_
  refine gl_spell 8 (v := .int .u64 (ex : Nat)) rfl ?_ ?_
  · show Value.int .u64 (bits .and .u64 ((u : Int) / 2 ^ 52) 2047) = _
    rw [e1, mu64_and2047 _ (by omega), hex]
  refine gl_op rfl rfl rfl (op_pure hT rfl) ?_
  refine gl_spell 9 (v := .int .i64 (ex : Nat)) rfl (by show Value.int .i64 (IntKind.i64.wrap ((ex : Nat) : Int)) = _; rw [i64w (by omega)]) ?_
  refine gl_op rfl rfl rfl (op_pure hT rfl) ?_
  refine gl_nil ?_
  refine hK2 _ _ ?_
  clear hK2; try clear K2
  refine gc_seq fun K3 hK3 => ?_
  refine gc_region ?_
  refine gl_op rfl rfl rfl (op_pure hT rfl) ?_
  refine gl_op rfl rfl rfl (op_pure hT rfl) ?_
  refine gl_spell 11 (v := .int .u64 (m : Nat)) rfl (by show Value.int .u64 (bits .and .u64 (u : Nat) 4503599627370495) = _; rw [mu64_low52 _ hu, hm]) ?_
  refine gl_op rfl rfl rfl (op_pure hT rfl) ?_
  refine gl_nil ?_
  refine hK3 _ _ ?_
  clear hK3; try clear K3
  refine gc_seq fun K4 hK4 => ?_
  refine gc_seq fun K5 hK5 => ?_
  refine gc_region ?_
  refine gl_op rfl rfl rfl (op_pure hT rfl) ?_
  refine gl_op rfl rfl rfl (op_pure hT rfl) ?_
  refine gl_nil ?_
  refine hK5 _ _ ?_
  clear hK5; try clear K5
  refine gc_cond rfl rfl (fun c13 => ?_) (fun c13 => ?_)
  · try simp only [decide_eq_true_eq, decide_eq_false_iff_not, Bool.not_eq_true', Bool.not_eq_false', Int.not_lt, Int.not_le, Nat.not_lt, Nat.not_le, Bool.true_eq, Bool.false_eq, reduceCtorEq] at c13
    exfalso
    omega
  · try simp only [decide_eq_true_eq, decide_eq_false_iff_not, Bool.not_eq_true', Bool.not_eq_false', Int.not_lt, Int.not_le, Nat.not_lt, Nat.not_le, Bool.true_eq, Bool.false_eq, reduceCtorEq] at c13
    refine gc_skip ?_
    refine hK4 _ _ ?_
    clear hK4; try clear K4
    refine gc_cut (fun a w' => ∃ (M : Nat) (E : Int), Fr 35 a [(0, .int .u64 (u : Nat)), (2, .pointer (some ⟨g2, 0, none⟩)), (4, .int .i64 E), (5, .int .u64 (M : Nat))] ∧ M < 9007199254740992 ∧ (u = 4607182418800017408 → M ≠ 0) ∧ (u = 0 → M = 0) ∧ (1 ≤ E ∧ E ≤ 2047) ∧ St w.heap.size w w' [.blk g2 108 [.bool false, .slice none 0 0, .int .i64 0]]) ?_ ?_
    · skip
      refine gc_seq fun K6 hK6 => ?_
      refine gc_region ?_
      refine gl_op rfl rfl rfl (op_pure hT rfl) ?_
      refine gl_op rfl rfl rfl (op_pure hT rfl) ?_
      refine gl_nil ?_
      refine hK6 _ _ ?_
      clear hK6; try clear K6
      refine gc_cond rfl rfl (fun c16 => ?_) (fun c16 => ?_)
      · try simp only [decide_eq_true_eq, decide_eq_false_iff_not, Bool.not_eq_true', Bool.not_eq_false', Int.not_lt, Int.not_le, Nat.not_lt, Nat.not_le, Bool.true_eq, Bool.false_eq, reduceCtorEq] at c16
        refine gc_region ?_
        refine gl_op rfl rfl rfl (op_pure hT rfl) ?_
        refine gl_op rfl rfl rfl (op_pure hT rfl) ?_
        refine gl_spell 18 (v := .int .u64 ((m + 4503599627370496 : Nat) : Int)) rfl (by show Value.int .u64 (bits .or .u64 (m : Nat) 4503599627370496) = _; rw [mu64_or52 _ (by omega)]) ?_
        refine gl_op rfl rfl rfl (op_pure hT rfl) ?_
        refine gl_nil ?_
        intro a ha
        refine ⟨_, _, ha.sub ⟨rfl, rfl, rfl, rfl, trivial⟩, ?_, ?_, ?_, ?_, hS⟩ <;> omega
      · try simp only [decide_eq_true_eq, decide_eq_false_iff_not, Bool.not_eq_true', Bool.not_eq_false', Int.not_lt, Int.not_le, Nat.not_lt, Nat.not_le, Bool.true_eq, Bool.false_eq, reduceCtorEq] at c16
        refine gc_region ?_
        refine gl_op rfl rfl rfl (op_pure hT rfl) ?_
        refine gl_nil ?_
        intro a ha
        refine ⟨_, _, ha.sub ⟨rfl, rfl, rfl, rfl, trivial⟩, ?_, ?_, ?_, ?_, hS⟩ <;> omega
    rintro a w1 ⟨M, E, hF, hM, hM1, hM0, hE, hS⟩
    refine gc_of hF ?_
    clear hF
    refine gc_seq fun K7 hK7 => ?_
    refine gc_seq fun K8 hK8 => ?_
    refine gc_region ?_
    refine gl_op rfl rfl rfl (op_pure hT rfl) ?_
    refine gl_op rfl rfl rfl (op_pure hT rfl) ?_
    refine gl_nil ?_
    refine hK8 _ _ ?_
    clear hK8; try clear K8
    refine gc_cond rfl rfl (fun c20 => ?_) (fun c20 => ?_)
    · try simp only [decide_eq_true_eq, decide_eq_false_iff_not, Bool.not_eq_true', Bool.not_eq_false', Int.not_lt, Int.not_le, Nat.not_lt, Nat.not_le, Bool.true_eq, Bool.false_eq, reduceCtorEq] at c20
      refine gc_seq fun K9 hK9 => ?_
      refine gc_region ?_
      refine gl_op rfl rfl rfl (op_buildG rfl plan108 rfl rfl) ?_
      refine gl_storeM 0 hS el108 rfl rfl rfl rfl rfl rfl rfl rfl rfl fun wnum_go_153 hS => ?_
      refine gl_op rfl rfl rfl (op_pure hT rfl) ?_
      refine gl_nil ?_
      refine hK9 _ _ ?_
      clear hK9; try clear K9
      refine gc_ret ?_
      try simp only [x_then_ret, x_block_ret]
      refine gk_res2 rfl (⟨_, rfl, run_loadVarB 0 Try.underlying108 rfl el108 hS rfl rfl rfl⟩) (rfl) ?_
      refine ⟨⟨false, none, 0, 0, 0⟩, rfl, hS.below, fun _ => rfl, fun h => ?_⟩
      exfalso; omega
    · try simp only [decide_eq_true_eq, decide_eq_false_iff_not, Bool.not_eq_true', Bool.not_eq_false', Int.not_lt, Int.not_le, Nat.not_lt, Nat.not_le, Bool.true_eq, Bool.false_eq, reduceCtorEq] at c20
      refine gc_skip ?_
      refine hK7 _ _ ?_
      clear hK7; try clear K7
      refine gc_seq fun K10 hK10 => ?_
      refine gc_region ?_
      refine gl_op rfl rfl rfl (op_pure hT rfl) ?_
      refine gl_op rfl rfl rfl (op_pure hT rfl) ?_
      refine gl_op rfl rfl rfl (op_pure hT rfl) ?_
      refine gl_op rfl rfl rfl (op_pure hT rfl) ?_
      refine gl_op rfl rfl rfl (op_pure hT rfl) ?_
      refine gl_spell 26 (v := w4 (M % 4294967296)) rfl (by show Value.int .u32 (IntKind.u32.wrap ((M : Nat) : Int)) = _; rw [u32w]) ?_
      refine gl_op rfl rfl rfl (op_pure hT rfl) ?_
      refine gl_op rfl rfl rfl (op_pure hT rfl) ?_
      refine gl_op rfl rfl rfl (op_pure hT rfl) ?_
      refine gl_spell 29 (v := w4 (M / 4294967296 % 4294967296)) rfl (by show Value.int .u32 (IntKind.u32.wrap (((M : Nat) : Int) / 2 ^ 32)) = _; rw [u32d, u32w]) ?_
      refine gl_lit hT hS el114 rfl rfl rfl rfl rfl rfl rfl rfl rfl fun g30 w30 hS => ?_
      refine gl_callf rfl rfl rfl rfl Try.func58 rfl rfl rfl (trim_calls _ _ (M % 4294967296) (M / 4294967296 % 4294967296) _ (hS.rdE (i := 1) rfl) (by decide)) ?_
      rintro _ _ ⟨n31, rfl, hn1, hn2, q31, rfl⟩
      refine ⟨_, rfl, ?_⟩
      have hS := hS.dr q31
      refine gl_op rfl rfl rfl (op_pure hT rfl) ?_
      first | refine gl_fit hT rfl rfl rfl rfl (by omega) ?_ | refine gl_op rfl rfl rfl (op_pure hT rfl) ?_
      refine gl_op rfl rfl rfl (op_buildG rfl plan108 rfl rfl) ?_
      refine gl_storeM 0 hS el108 rfl rfl rfl rfl rfl rfl rfl rfl rfl fun wnum_go_155 hS => ?_
      refine gl_op rfl rfl rfl (op_pure hT rfl) ?_
      refine gl_nil ?_
      refine hK10 _ _ ?_
      clear hK10; try clear K10
      refine gc_ret ?_
      try simp only [x_then_ret, x_block_ret]
      refine gk_res2 rfl (⟨_, rfl, run_loadVarB 0 Try.underlying108 rfl el108 hS rfl rfl rfl⟩) (rfl) ?_
      refine ⟨⟨decide ((u : Int) / 2 ^ min 63 IntKind.u64.bits = 1), some ⟨g30, 0, none⟩, n31, 2, E - 1075⟩, rfl, hS.below, fun h => ?_, fun h => ⟨?_, ?_⟩⟩
      · exfalso; omega
      · have := hn2 (by omega)
        show n31 ≠ 0
        omega
      · subst h; rfl
end Go.Proofs.Ytkfhablonnjgeaa
