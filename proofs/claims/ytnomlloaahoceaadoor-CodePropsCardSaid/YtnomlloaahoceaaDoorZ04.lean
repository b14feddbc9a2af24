/- Contracts of functions that CodeProps reaches, and words to say them. No condition. -/
import Derived.Test.YtnomlloaahoceaaDoorZ03
import Derived.Test.YtnomlloaahoceaaDoorZ01
/- Contracts of small functions. No condition. -/
namespace Go.Proofs.YtnomlloaahoceaaDoor
open Go.RowKit
set_option linter.unusedVariables false
set_option linter.unusedSimpArgs false
end Go.Proofs.YtnomlloaahoceaaDoor


/- Plain words for chapter 1: numbers as bytes. No program in sight; no condition. -/
namespace Go.Proofs.YtnomlloaahoceaaDoor
set_option linter.unusedVariables false

def toB (x : Int) : UInt8 := UInt8.ofNat x.toNat
theorem toB_toNat {x : Int} (h0 : 0 ≤ x) (h1 : x < 256) : ((toB x).toNat : Int) = x := by
  unfold toB
  rw [UInt8.toNat_ofNat']
  omega
theorem uB_toB {x : Int} (h0 : 0 ≤ x) (h1 : x < 256) : Value.int .u8 x = uB (toB x) := by
  unfold uB; rw [toB_toNat h0 h1]
theorem u8_range (b : UInt8) : (0 : Int) ≤ b.toNat ∧ (b.toNat : Int) < 256 := by
  have := b.toNat_lt; omega
theorem or128 (x : Int) : bits .or .u8 (IntKind.u8.wrap x) 128 = 128 + x % 128 := by
  rw [IntKind.wrap_u8]
  rw [u8_or _ _ (by omega) (by omega) (by decide) (by decide)]
  have h : (x % 256).toNat < 256 := by omega
  have e : ∀ n : Nat, n < 256 → n ||| (128 : Int).toNat = 128 + n % 128 := by
    intro n hn
    show n ||| 128 = _
    by_cases h : n < 128
    · rw [Nat.or_comm, nat_join 7 128 n (by decide) (by omega)]; omega
    · have e1 : n = 128 + (n - 128) := by omega
      rw [e1, ← nat_join 7 128 (n - 128) (by decide) (by omega), Nat.or_assoc, Nat.or_comm (n - 128) 128, ← Nat.or_assoc, Nat.or_self, nat_join 7 128 (n - 128) (by decide) (by omega)]; omega
  rw [e _ h]
  omega
def encU (n : Nat) : List UInt8 := if h : n < 128 then [UInt8.ofNat n] else UInt8.ofNat (128 + n % 128) :: encU (n / 128)
termination_by n
decreasing_by omega
theorem encU_small {n : Nat} (h : n < 128) : encU n = [UInt8.ofNat n] := by rw [encU, dif_pos h]
theorem encU_big {n : Nat} (h : ¬ n < 128) : encU n = UInt8.ofNat (128 + n % 128) :: encU (n / 128) := by rw [encU, dif_neg h]
theorem encU_len (k : Nat) : ∀ n, n < 128 ^ (k + 1) → (encU n).length ≤ k + 1 := by
  induction k with
  | zero => intro n h; rw [encU_small (by simpa using h)]; simp
  | succ k ih =>
    intro n h
    by_cases hn : n < 128
    · rw [encU_small hn]; simp
    · rw [encU_big hn]
      have := ih (n / 128) (by rw [Nat.div_lt_iff_lt_mul (by decide)]; rw [Nat.pow_succ] at h; exact h)
      simp; omega
def uintV (n : Int) : List UInt8 × Int := if n < 0 then ([], 1) else (encU n.toNat, 0)
theorem ofInt_i64' (a : Nat) (ha : a < 9223372036854775808) : (BitVec.ofInt 64 (a : Int)).toNat = a := by
  rw [BitVec.ofInt_natCast, BitVec.toNat_ofNat]; exact Nat.mod_eq_of_lt (by omega)
theorem i64_or_nat (a b : Nat) (ha : a < 9223372036854775808) (hb : b < 9223372036854775808) : bits .or .i64 (a : Int) (b : Int) = ((a ||| b : Nat) : Int) := by
  have hx : a ||| b < 2 ^ 63 := Nat.or_lt_two_pow (by omega) (by omega)
  show IntKind.i64.wrap ((BitVec.ofInt 64 (a : Int) ||| BitVec.ofInt 64 (b : Int)).toNat : Int) = _
  rw [BitVec.toNat_or, ofInt_i64' a ha, ofInt_i64' b hb, IntKind.wrap_i64]
  omega
theorem pow128 (i : Nat) : (2 : Nat) ^ (7 * i) = 128 ^ i := by rw [Nat.pow_mul]
theorem pow128_le {i j : Nat} (h : i ≤ j) : 128 ^ i ≤ 128 ^ j := Nat.pow_le_pow_right (by decide) h
theorem or_step (v c i : Nat) (hi : i ≤ 8) (hv : v < 128 ^ i) (hc : c < 128) :
    bits .or .i64 (v : Int) (IntKind.i64.wrap ((c : Int) * 2 ^ (7 * (i : Int)).toNat)) = ((v + c * 128 ^ i : Nat) : Int) ∧ v + c * 128 ^ i < 128 ^ (i + 1) := by
  have e1 : (7 * (i : Int)).toNat = 7 * i := by omega
  have e2 : ((c : Int) * 2 ^ (7 * i)) = ((c * 128 ^ i : Nat) : Int) := by
    rw [← pow128]; push_cast; rfl
  have h9 : 128 ^ (i + 1) ≤ 128 ^ 9 := pow128_le (by omega)
  have h10 : c * 128 ^ i ≤ 127 * 128 ^ i := Nat.mul_le_mul_right _ (by omega)
  have h11 : 128 ^ (i + 1) = 128 * 128 ^ i := by rw [Nat.pow_succ, Nat.mul_comm]
  have hlt : v + c * 128 ^ i < 128 ^ (i + 1) := by omega
  have h12 : (128 : Nat) ^ 9 = 9223372036854775808 := by decide
  refine ⟨?_, hlt⟩
  rw [e1, e2, wrap_i64 (by omega), i64_or_nat _ _ (by omega) (by omega)]
  congr 1
  rw [Nat.or_comm, nat_join (7 * i) (c * 128 ^ i) v (by rw [← pow128]; exact Nat.mul_mod_left _ _) (by rw [pow128]; exact hv), Nat.add_comm]
def rdGo (l : List UInt8) (at_ : Nat) : Nat → Nat → Nat → Int × Int × Int
  | 0, _, _ => (0, 0, 12)
  | k + 1, i, v =>
    if l.length ≤ at_ + i then (0, 0, 10) else
    let c := (l.getD (at_ + i) 0).toNat
    if c < 128 then (if c = 0 ∧ 0 < i then (0, 0, 11) else (((v + c % 128 * 128 ^ i : Nat) : Int), ((at_ + i + 1 : Nat) : Int), 0))
    else rdGo l at_ k (i + 1) (v + c % 128 * 128 ^ i)
def readUV (l : List UInt8) (at_ : Int) : Int × Int × Int := if at_ < 0 ∨ (l.length : Int) < at_ then (0, 0, 1) else rdGo l at_.toNat 9 0 0
theorem rdGo_short {l : List UInt8} {at_ k i v : Nat} (h : l.length ≤ at_ + i) : rdGo l at_ (k + 1) i v = (0, 0, 10) := by rw [rdGo, if_pos h]
theorem rdGo_form {l : List UInt8} {at_ k i v : Nat} (h : at_ + i < l.length) (h0 : (l.getD (at_ + i) 0).toNat = 0) (hi : 0 < i) : rdGo l at_ (k + 1) i v = (0, 0, 11) := by
  rw [rdGo, if_neg (by omega)]; simp only; rw [if_pos (by omega), if_pos ⟨h0, hi⟩]
theorem rdGo_end {l : List UInt8} {at_ k i v : Nat} (h : at_ + i < l.length) (h1 : (l.getD (at_ + i) 0).toNat < 128) (h0 : ¬ ((l.getD (at_ + i) 0).toNat = 0 ∧ 0 < i)) :
    rdGo l at_ (k + 1) i v = (((v + (l.getD (at_ + i) 0).toNat % 128 * 128 ^ i : Nat) : Int), ((at_ + i + 1 : Nat) : Int), 0) := by
  rw [rdGo, if_neg (by omega)]; simp only; rw [if_pos h1, if_neg h0]
theorem rdGo_more {l : List UInt8} {at_ k i v : Nat} (h : at_ + i < l.length) (h1 : 128 ≤ (l.getD (at_ + i) 0).toNat) :
    rdGo l at_ (k + 1) i v = rdGo l at_ k (i + 1) (v + (l.getD (at_ + i) 0).toNat % 128 * 128 ^ i) := by
  rw [rdGo, if_neg (by omega)]; simp only; rw [if_neg (by omega)]
end Go.Proofs.YtnomlloaahoceaaDoor


/- Contracts of functions that make bytes. No condition. -/
namespace Go.Proofs.YtnomlloaahoceaaDoor
open Go.RowKit
set_option linter.unusedVariables false
set_option linter.unusedSimpArgs false
def marks : List UInt8 := [201, 202, 203] ++ List.replicate 70 206
end Go.Proofs.YtnomlloaahoceaaDoor


/- Contracts of functions that make bytes, more. No condition. -/
namespace Go.Proofs.YtnomlloaahoceaaDoor
open Go.RowKit
set_option linter.unusedVariables false
set_option linter.unusedSimpArgs false
theorem Clip_calls (A : Option Addr) (c n : Nat) (h : n ≤ c) (w : World) :
    Calls Tryd.prog 70 ⟨[.slice A n c]⟩ w fun e w' => e = .returned (.slice A n n) ∧ Eqv w w' := by
  refine gc_enter (N := 9) Tryd.func70 rfl rfl rfl [(0, _)] rfl ?_
  refine gc_seq fun K1 hK1 => ?_
  refine gc_region ?_
  refine gl_op rfl rfl rfl (op_pure hT rfl) ?_
  refine gl_nil ?_
  refine hK1 _ _ ?_
  clear hK1; try clear K1
  refine gc_seq fun K2 hK2 => ?_
  refine gc_region ?_
  refine gl_op rfl rfl rfl (op_pure hT rfl) ?_
  refine gl_op rfl rfl rfl (op_pure hT rfl) ?_
  refine gl_op rfl rfl rfl (op_pure hT rfl) ?_
  refine gl_op rfl rfl rfl (op_pure hT rfl) ?_
  refine gl_op rfl rfl rfl (op_pure hT rfl) ?_
  refine gl_op rfl rfl rfl (op_slice_hm hT el5 rfl rfl rfl rfl rfl (by first | omega | (simp; omega)) (by first | omega | (simp; omega)) (by first | omega | (simp; omega))) ?_
  refine gl_op rfl rfl rfl (op_pure hT rfl) ?_
  refine gl_nil ?_
  refine hK2 _ _ ?_
  clear hK2; try clear K2
  refine gc_ret ?_
  try simp only [x_then_ret, x_block_ret]
  refine gk_ret1 rfl rfl ?_
  exact ⟨rfl, Eqv.refl _⟩
theorem Uint_calls (n : Int) (hn : n ≤ 9223372036854775807) (w : World) :
    Calls Tryd.prog 39 ⟨[.int .i64 n]⟩ w fun e w' => ∃ A c, e = .returned (.tuple #[.slice A (uintV n).1.length c, .int .i64 (uintV n).2]) ∧
      Owns w' w.heap.size A c 5 1 (uintV n).1.length ((uintV n).1.map uB) ∧ Below w.heap.size w w' := by
  refine gc_enter (N := 23) Tryd.func39 rfl rfl rfl [(0, _)] rfl ?_
  have hS := St.start w
  refine gc_seq fun K1 hK1 => ?_
  refine gc_region ?_
  refine gl_op rfl rfl rfl (op_pure hT rfl) ?_
  refine gl_op rfl rfl rfl (op_pure hT rfl) ?_
  refine gl_nil ?_
  refine hK1 _ _ ?_
  clear hK1; try clear K1
  refine gc_seq fun K2 hK2 => ?_
  refine gc_seq fun K3 hK3 => ?_
  refine gc_region ?_
  refine gl_op rfl rfl rfl (op_pure hT rfl) ?_
  refine gl_op rfl rfl rfl (op_pure hT rfl) ?_
  refine gl_nil ?_
  refine hK3 _ _ ?_
  clear hK3; try clear K3
  refine gc_cond rfl rfl (fun c6 => ?_) (fun c6 => ?_)
  · try simp only [decide_eq_true_eq, decide_eq_false_iff_not, Bool.not_eq_true', Bool.not_eq_false', Int.not_lt, Int.not_le, Nat.not_lt, Nat.not_le, Bool.true_eq, Bool.false_eq, reduceCtorEq] at c6
    refine gc_seq fun K4 hK4 => ?_
    refine gc_region ?_
    refine gl_op rfl rfl rfl (op_pure hT rfl) ?_
    refine gl_op rfl rfl rfl (op_pure hT rfl) ?_
    refine gl_nil ?_
    refine hK4 _ _ ?_
    clear hK4; try clear K4
    refine gc_ret ?_
    try simp only [x_then_ret, x_block_ret]
    refine gk_ret2 rfl rfl rfl ?_
    have e : uintV n = ([], 1) := by simp [uintV, c6]
    rw [e]
    exact ⟨none, 0, rfl, ⟨by simp, .inl ⟨rfl, rfl, rfl⟩⟩, hS.below⟩
  · try simp only [decide_eq_true_eq, decide_eq_false_iff_not, Bool.not_eq_true', Bool.not_eq_false', Int.not_lt, Int.not_le, Nat.not_lt, Nat.not_le, Bool.true_eq, Bool.false_eq, reduceCtorEq] at c6
    refine gc_skip ?_
    refine hK2 _ _ ?_
    clear hK2; try clear K2
    refine gc_seq fun K5 hK5 => ?_
    refine gc_region ?_
    refine gl_op rfl rfl rfl (op_pure hT rfl) ?_
    refine gl_nil ?_
    refine hK5 _ _ ?_
    clear hK5; try clear K5
    refine gc_seq fun K6 hK6 => ?_
    refine gc_block ?_
    have hS := hS.nil 5 1
    have hlen := encU_len 8 n.toNat (by omega)
    refine gc_loop (fun k a w' => ∃ (n' : Int) (l : List UInt8) (A : Option Addr) (c : Nat), Fr 23 a [(0, .int .i64 n'), (4, .slice A l.length c)] ∧ 0 ≤ n' ∧ n'.toNat < k ∧ l ++ encU n'.toNat = encU n.toNat ∧
      St w.heap.size w w' [.row A c 5 1 l.length (l.map uB)]) (n.toNat + 1) ?_ ?_ ?_
    · intro a ha; exact ⟨n, [], _, _, ha.sub ⟨rfl, rfl, trivial⟩, by omega, by omega, rfl, hS⟩
    · rintro a w ⟨n', _, _, _, _, _, h1, _⟩; omega
    rintro k a w1 ⟨n', l, A, c, hF, h0, hk, he, hS⟩
    refine gc_of hF ?_
    have hll : l.length ≤ 9 := by have := congrArg List.length he; simp at this; omega
    refine gc_seq fun K7 hK7 => ?_
    refine gc_seq fun K8 hK8 => ?_
    refine gc_region ?_
    refine gl_op rfl rfl rfl (op_pure hT rfl) ?_
    refine gl_op rfl rfl rfl (op_pure hT rfl) ?_
    refine gl_nil ?_
    refine hK8 _ _ ?_
    clear hK8; try clear K8
    refine gc_cond rfl rfl (fun c8 => ?_) (fun c8 => ?_)
    · try simp only [decide_eq_true_eq, decide_eq_false_iff_not, Bool.not_eq_true', Bool.not_eq_false', Int.not_lt, Int.not_le, Nat.not_lt, Nat.not_le, Bool.true_eq, Bool.false_eq, reduceCtorEq] at c8
      refine gc_skip ?_
      refine hK7 _ _ ?_
      clear hK7; try clear K7
      refine gc_seq fun K9 hK9 => ?_
      refine gc_block ?_
      refine gc_region ?_
      refine gl_op rfl rfl rfl (op_pure hT rfl) ?_
      refine gl_op rfl rfl rfl (op_pure hT rfl) ?_
      refine gl_op rfl rfl rfl (op_pure hT rfl) ?_
      refine gl_op rfl rfl rfl (op_pure hT rfl) ?_
      refine gl_lit hT hS el5 rfl rfl rfl rfl rfl rfl rfl rfl rfl fun g15 w15 hS => ?_
      refine gl_append 0 hT hS el5 (hS.rd (i := 1) rfl) (rfl) rfl rfl rfl rfl rfl rfl rfl rfl (by first | omega | (simp; omega)) (by first | omega | (simp; omega)) fun A16 c16 w16 hS => ?_
      have hS := hS.erase 1
      refine gl_op rfl rfl rfl (op_pure hT rfl) ?_
      refine gl_nil ?_
      refine hK9 _ _ ?_
      clear hK9; try clear K9
      refine gc_region ?_
      refine gl_op rfl rfl rfl (op_pure hT rfl) ?_
      refine gl_op rfl rfl rfl (op_pure hT rfl) ?_
      refine gl_op rfl rfl rfl (op_pure hT rfl) ?_
      refine gl_nil ?_
      intro a ha
      have e1 : encU n'.toNat = UInt8.ofNat (128 + n'.toNat % 128) :: encU (n'.toNat / 128) := encU_big (by omega)
      refine ⟨n' / 128, l ++ [UInt8.ofNat (128 + n'.toNat % 128)], _, _, ha.sub ⟨by rfl, by simp; rfl, trivial⟩, by omega, by omega, ?_, ?_⟩
      · rw [← he, e1]
        have : (n' / 128).toNat = n'.toNat / 128 := by omega
        rw [this]; simp
      · have e2 : Value.int .u8 (bits .or .u8 (IntKind.u8.wrap n') 128) = uB (UInt8.ofNat (128 + n'.toNat % 128)) := by
          rw [or128, uB_toB (by omega) (by omega)]
          have : (128 + n' % 128).toNat = 128 + n'.toNat % 128 := by omega
          unfold toB; rw [this]
        rw [e2] at hS
        simpa using hS
    · try simp only [decide_eq_true_eq, decide_eq_false_iff_not, Bool.not_eq_true', Bool.not_eq_false', Int.not_lt, Int.not_le, Nat.not_lt, Nat.not_le, Bool.true_eq, Bool.false_eq, reduceCtorEq] at c8
      refine gc_exit ?_
      refine hK6 _ _ ?_
      clear hK6; try clear K6
      refine gc_seq fun K10 hK10 => ?_
      refine gc_region ?_
      refine gl_op rfl rfl rfl (op_pure hT rfl) ?_
      refine gl_op rfl rfl rfl (op_pure hT rfl) ?_
      refine gl_op rfl rfl rfl (op_pure hT rfl) ?_
      refine gl_lit hT hS el5 rfl rfl rfl rfl rfl rfl rfl rfl rfl fun g20 w20 hS => ?_
      refine gl_append 0 hT hS el5 (hS.rd (i := 1) rfl) (rfl) rfl rfl rfl rfl rfl rfl rfl rfl (by first | omega | (simp; omega)) (by first | omega | (simp; omega)) fun A21 c21 w21 hS => ?_
      have hS := hS.erase 1
      refine gl_callf rfl rfl rfl rfl Tryd.func70 rfl rfl rfl (Clip_calls _ _ _ (hS.cap (i := 0) rfl).1 _) ?_
      rintro _ _ ⟨rfl, n22, rfl⟩
      refine ⟨_, rfl, ?_⟩
      have hS := hS.dr n22
      refine gl_op rfl rfl rfl (op_pure hT rfl) ?_
      refine gl_op rfl rfl rfl (op_pure hT rfl) ?_
      refine gl_nil ?_
      refine hK10 _ _ ?_
      clear hK10; try clear K10
      refine gc_ret ?_
      try simp only [x_then_ret, x_block_ret]
      refine gk_ret2 rfl rfl rfl ?_
      have e1 : encU n'.toNat = [UInt8.ofNat n'.toNat] := encU_small (by omega)
      have e2 : uintV n = (l ++ [UInt8.ofNat n'.toNat], 0) := by rw [uintV, if_neg (by omega), ← he, e1]
      have e3 : Value.int .u8 (IntKind.u8.wrap n') = uB (UInt8.ofNat n'.toNat) := by rw [IntKind.wrap_u8, Int.emod_eq_of_lt h0 (by omega), uB_toB h0 (by omega)]; rfl
      obtain ⟨h2, h3⟩ := hS.out (i := 0) rfl
      have h4 := h2.clip (c' := l.length + 1) (Nat.le_refl _) h2.cap.1
      rw [e3] at h4
      rw [e2]
      exact ⟨A21, l.length + 1, by simp, by simpa using h4, h3⟩
theorem rUint_calls (n : Int) (hn : n ≤ 9223372036854775807) (w : World) :
    Calls Tryd.prog 36 ⟨[.int .i64 n]⟩ w fun e w' => ∃ A c, e = .returned (.tuple #[.slice A (uintV n).1.length c, .int .i64 (uintV n).2]) ∧
      Owns w' w.heap.size A c 5 1 (uintV n).1.length ((uintV n).1.map uB) ∧ Below w.heap.size w w' := by
  refine gc_enter (N := 23) Tryd.func36 rfl rfl rfl [(0, _)] rfl ?_
  have hS := St.start w
  refine gc_seq fun K1 hK1 => ?_
  refine gc_region ?_
  refine gl_op rfl rfl rfl (op_pure hT rfl) ?_
  refine gl_op rfl rfl rfl (op_pure hT rfl) ?_
  refine gl_nil ?_
  refine hK1 _ _ ?_
  clear hK1; try clear K1
  refine gc_seq fun K2 hK2 => ?_
  refine gc_seq fun K3 hK3 => ?_
  refine gc_region ?_
  refine gl_op rfl rfl rfl (op_pure hT rfl) ?_
  refine gl_op rfl rfl rfl (op_pure hT rfl) ?_
  refine gl_nil ?_
  refine hK3 _ _ ?_
  clear hK3; try clear K3
  refine gc_cond rfl rfl (fun c6 => ?_) (fun c6 => ?_)
  · try simp only [decide_eq_true_eq, decide_eq_false_iff_not, Bool.not_eq_true', Bool.not_eq_false', Int.not_lt, Int.not_le, Nat.not_lt, Nat.not_le, Bool.true_eq, Bool.false_eq, reduceCtorEq] at c6
    refine gc_seq fun K4 hK4 => ?_
    refine gc_region ?_
    refine gl_op rfl rfl rfl (op_pure hT rfl) ?_
    refine gl_op rfl rfl rfl (op_pure hT rfl) ?_
    refine gl_nil ?_
    refine hK4 _ _ ?_
    clear hK4; try clear K4
    refine gc_ret ?_
    try simp only [x_then_ret, x_block_ret]
    refine gk_ret2 rfl rfl rfl ?_
    have e : uintV n = ([], 1) := by simp [uintV, c6]
    rw [e]
    exact ⟨none, 0, rfl, ⟨by simp, .inl ⟨rfl, rfl, rfl⟩⟩, hS.below⟩
  · try simp only [decide_eq_true_eq, decide_eq_false_iff_not, Bool.not_eq_true', Bool.not_eq_false', Int.not_lt, Int.not_le, Nat.not_lt, Nat.not_le, Bool.true_eq, Bool.false_eq, reduceCtorEq] at c6
    refine gc_skip ?_
    refine hK2 _ _ ?_
    clear hK2; try clear K2
    refine gc_seq fun K5 hK5 => ?_
    refine gc_region ?_
    refine gl_op rfl rfl rfl (op_pure hT rfl) ?_
    refine gl_nil ?_
    refine hK5 _ _ ?_
    clear hK5; try clear K5
    refine gc_seq fun K6 hK6 => ?_
    refine gc_block ?_
    have hS := hS.nil 5 1
    have hlen := encU_len 8 n.toNat (by omega)
    refine gc_loop (fun k a w' => ∃ (n' : Int) (l : List UInt8) (A : Option Addr) (c : Nat), Fr 23 a [(0, .int .i64 n'), (4, .slice A l.length c)] ∧ 0 ≤ n' ∧ n' ≤ n ∧ n'.toNat < k ∧ l ++ encU n'.toNat = encU n.toNat ∧
      St w.heap.size w w' [.row A c 5 1 l.length (l.map uB)]) (n.toNat + 1) ?_ ?_ ?_
    · intro a ha; exact ⟨n, [], _, _, ha.sub ⟨rfl, rfl, trivial⟩, by omega, by omega, by omega, rfl, hS⟩
    · rintro a w ⟨n', _, _, _, _, _, _, h1, _⟩; omega
    rintro k a w1 ⟨n', l, A, c, hF, h0, h01, hk, he, hS⟩
    refine gc_of hF ?_
    have hll : l.length ≤ 9 := by have := congrArg List.length he; simp at this; omega
    refine gc_seq fun K7 hK7 => ?_
    refine gc_seq fun K8 hK8 => ?_
    refine gc_region ?_
    refine gl_op rfl rfl rfl (op_pure hT rfl) ?_
    refine gl_op rfl rfl rfl (op_pure hT rfl) ?_
    refine gl_nil ?_
    refine hK8 _ _ ?_
    clear hK8; try clear K8
    refine gc_cond rfl rfl (fun c8 => ?_) (fun c8 => ?_)
    · try simp only [decide_eq_true_eq, decide_eq_false_iff_not, Bool.not_eq_true', Bool.not_eq_false', Int.not_lt, Int.not_le, Nat.not_lt, Nat.not_le, Bool.true_eq, Bool.false_eq, reduceCtorEq] at c8
      refine gc_skip ?_
      refine hK7 _ _ ?_
      clear hK7; try clear K7
      refine gc_block ?_
      refine gc_seq fun K9 hK9 => ?_
      refine gc_region ?_
      refine gl_op rfl rfl rfl (op_pure hT rfl) ?_
      refine gl_op rfl rfl rfl (op_pure hT rfl) ?_
      first | refine gl_op rfl rfl rfl (op_rem hT rfl (by omega)) ?_ | refine gl_op rfl rfl rfl (op_pure hT rfl) ?_
      first | refine gl_fit hT rfl rfl rfl rfl (by omega) ?_ | refine gl_op rfl rfl rfl (op_pure hT rfl) ?_
      refine gl_op rfl rfl rfl (op_pure hT rfl) ?_
      refine gl_lit hT hS el5 rfl rfl rfl rfl rfl rfl rfl rfl rfl fun g14 w14 hS => ?_
      refine gl_append 0 hT hS el5 (hS.rd (i := 1) rfl) (rfl) rfl rfl rfl rfl rfl rfl rfl rfl (by first | omega | (simp; omega)) (by first | omega | (simp; omega)) fun A15 c15 w15 hS => ?_
      have hS := hS.erase 1
      refine gl_op rfl rfl rfl (op_pure hT rfl) ?_
      refine gl_nil ?_
      refine hK9 _ _ ?_
      clear hK9; try clear K9
      refine gc_region ?_
      refine gl_op rfl rfl rfl (op_pure hT rfl) ?_
      first | refine gl_op rfl rfl rfl (op_quo hT rfl (by omega) (by omega)) ?_ | refine gl_op rfl rfl rfl (op_pure hT rfl) ?_
      refine gl_op rfl rfl rfl (op_pure hT rfl) ?_
      refine gl_nil ?_
      intro a ha
      have e1 : encU n'.toNat = UInt8.ofNat (128 + n'.toNat % 128) :: encU (n'.toNat / 128) := encU_big (by omega)
      refine ⟨n' / 128, l ++ [UInt8.ofNat (128 + n'.toNat % 128)], _, _, ha.sub ⟨by rfl, by simp; rfl, trivial⟩, by omega, by omega, by omega, ?_, ?_⟩
      · rw [← he, e1]
        have : (n' / 128).toNat = n'.toNat / 128 := by omega
        rw [this]; simp
      · have e2 : Value.int .u8 (IntKind.u8.wrap (128 + n' % 128)) = uB (UInt8.ofNat (128 + n'.toNat % 128)) := by
          rw [IntKind.wrap_u8, Int.emod_eq_of_lt (by omega) (by omega), uB_toB (by omega) (by omega)]
          have : (128 + n' % 128).toNat = 128 + n'.toNat % 128 := by omega
          unfold toB; rw [this]
        rw [e2] at hS; simpa using hS
    · try simp only [decide_eq_true_eq, decide_eq_false_iff_not, Bool.not_eq_true', Bool.not_eq_false', Int.not_lt, Int.not_le, Nat.not_lt, Nat.not_le, Bool.true_eq, Bool.false_eq, reduceCtorEq] at c8
      refine gc_exit ?_
      refine hK6 _ _ ?_
      clear hK6; try clear K6
      refine gc_seq fun K10 hK10 => ?_
      refine gc_region ?_
      refine gl_op rfl rfl rfl (op_pure hT rfl) ?_
      refine gl_op rfl rfl rfl (op_pure hT rfl) ?_
      refine gl_op rfl rfl rfl (op_pure hT rfl) ?_
      refine gl_lit hT hS el5 rfl rfl rfl rfl rfl rfl rfl rfl rfl fun g21 w21 hS => ?_
      refine gl_append 0 hT hS el5 (hS.rd (i := 1) rfl) (rfl) rfl rfl rfl rfl rfl rfl rfl rfl (by first | omega | (simp; omega)) (by first | omega | (simp; omega)) fun A22 c22 w22 hS => ?_
      have hS := hS.erase 1
      refine gl_op rfl rfl rfl (op_pure hT rfl) ?_
      refine gl_op rfl rfl rfl (op_pure hT rfl) ?_
      refine gl_nil ?_
      refine hK10 _ _ ?_
      clear hK10; try clear K10
      refine gc_ret ?_
      try simp only [x_then_ret, x_block_ret]
      refine gk_ret2 rfl rfl rfl ?_
      have e1 : encU n'.toNat = [UInt8.ofNat n'.toNat] := encU_small (by omega)
      have e2 : uintV n = (l ++ [UInt8.ofNat n'.toNat], 0) := by rw [uintV, if_neg (by omega), ← he, e1]
      have e3 : Value.int .u8 (IntKind.u8.wrap n') = uB (UInt8.ofNat n'.toNat) := by rw [IntKind.wrap_u8, Int.emod_eq_of_lt h0 (by omega), uB_toB h0 (by omega)]; rfl
      obtain ⟨h4, h3⟩ := hS.out (i := 0) rfl
      rw [e3] at h4
      rw [e2]
      exact ⟨A22, c22, by simp, by simpa using h4, h3⟩
end Go.Proofs.YtnomlloaahoceaaDoor


/- Contracts of the readers of whole numbers. No condition. -/
namespace Go.Proofs.YtnomlloaahoceaaDoor
open Go.RowKit
set_option linter.unusedVariables false
set_option linter.unusedSimpArgs false
theorem u8_and127 (x : UInt8) : bits .and .u8 (x.toNat : Int) 127 = ((x.toNat % 128 : Nat) : Int) := by
  have := u8_range x
  have h := u8_and_nat x.toNat 127 (by omega) (by decide)
  rw [nat_mask7] at h
  exact h
theorem ReadUint_calls (A : Option Addr) (c : Nat) (l : List UInt8) (at_ : Int) (w : World) {ok : Nat → Prop} (h1 : RdE w ok uB A l) (hb : l.length ≤ 4611686018427387904) :
    Calls Tryd.prog 75 ⟨[.slice A l.length c, .int .i64 at_]⟩ w fun e w' => e = .returned (.tuple #[.int .i64 (readUV l at_).1, .int .i64 (readUV l at_).2.1, .int .i64 (readUV l at_).2.2]) ∧ Eqv w w' := by
  refine gc_enter (N := 59) Tryd.func75 rfl rfl rfl [(0, _), (1, _)] rfl ?_
  refine gc_seq fun K1 hK1 => ?_
  refine gc_region ?_
  refine gl_op rfl rfl rfl (op_pure hT rfl) ?_
  refine gl_op rfl rfl rfl (op_pure hT rfl) ?_
  refine gl_op rfl rfl rfl (op_pure hT rfl) ?_
  refine gl_nil ?_
  refine hK1 _ _ ?_
  clear hK1; try clear K1
  refine gc_seq fun K2 hK2 => ?_
  refine gc_seq fun K3 hK3 => ?_
  refine gc_region ?_
  refine gl_op rfl rfl rfl (op_pure hT rfl) ?_
  refine gl_op rfl rfl rfl (op_pure hT rfl) ?_
  refine gl_op rfl rfl rfl (op_pure hT rfl) ?_
  refine gl_split (t := 12) rfl (fun c12 => ?_) (fun c12 => ?_)
  · try simp only [decide_eq_true_eq, decide_eq_false_iff_not, Bool.not_eq_true', Bool.not_eq_false', Int.not_lt, Int.not_le, Nat.not_lt, Nat.not_le, Bool.true_eq, Bool.false_eq, reduceCtorEq] at c12
    refine gl_pass rfl rfl rfl rfl rfl rfl ?_
    refine gl_pass rfl rfl rfl rfl rfl rfl ?_
    refine gl_pass rfl rfl rfl rfl rfl rfl ?_
    refine gl_pass rfl rfl rfl rfl rfl rfl ?_
    refine gl_op rfl rfl rfl (op_pure hT rfl) ?_
    refine gl_nil ?_
    refine hK3 _ _ ?_
    clear hK3; try clear K3
    refine gc_cond_t rfl ?_
    refine gc_seq fun K4 hK4 => ?_
    refine gc_region ?_
    refine gl_op rfl rfl rfl (op_pure hT rfl) ?_
    refine gl_op rfl rfl rfl (op_pure hT rfl) ?_
    refine gl_op rfl rfl rfl (op_pure hT rfl) ?_
    refine gl_nil ?_
    refine hK4 _ _ ?_
    clear hK4; try clear K4
    refine gc_ret ?_
    try simp only [x_then_ret, x_block_ret]
    refine gk_ret3 rfl rfl rfl rfl ?_
    exact ⟨by simp [readUV, c12], Eqv.refl _⟩
  · try simp only [decide_eq_true_eq, decide_eq_false_iff_not, Bool.not_eq_true', Bool.not_eq_false', Int.not_lt, Int.not_le, Nat.not_lt, Nat.not_le, Bool.true_eq, Bool.false_eq, reduceCtorEq] at c12
    refine gl_un rfl rfl rfl rfl ?_
    refine gl_op rfl rfl rfl (op_pure hT rfl) ?_
    refine gl_un rfl rfl rfl rfl ?_
    refine gl_op rfl rfl rfl (op_pure hT rfl) ?_
    refine gl_un rfl rfl rfl rfl ?_
    refine gl_op rfl rfl rfl (op_pure hT rfl) ?_
    refine gl_un rfl rfl rfl rfl ?_
    refine gl_op rfl rfl rfl (op_pure hT rfl) ?_
    refine gl_op rfl rfl rfl (op_pure hT rfl) ?_
    refine gl_nil ?_
    refine hK3 _ _ ?_
    clear hK3; try clear K3
    refine gc_cond rfl rfl (fun c17 => ?_) (fun c17 => ?_)
    · try simp only [decide_eq_true_eq, decide_eq_false_iff_not, Bool.not_eq_true', Bool.not_eq_false', Int.not_lt, Int.not_le, Nat.not_lt, Nat.not_le, Bool.true_eq, Bool.false_eq, reduceCtorEq] at c17
      refine gc_seq fun K5 hK5 => ?_
      refine gc_region ?_
      refine gl_op rfl rfl rfl (op_pure hT rfl) ?_
      refine gl_op rfl rfl rfl (op_pure hT rfl) ?_
      refine gl_op rfl rfl rfl (op_pure hT rfl) ?_
      refine gl_nil ?_
      refine hK5 _ _ ?_
      clear hK5; try clear K5
      refine gc_ret ?_
      try simp only [x_then_ret, x_block_ret]
      refine gk_ret3 rfl rfl rfl rfl ?_
      exact ⟨by simp [readUV, c17], Eqv.refl _⟩
    · try simp only [decide_eq_true_eq, decide_eq_false_iff_not, Bool.not_eq_true', Bool.not_eq_false', Int.not_lt, Int.not_le, Nat.not_lt, Nat.not_le, Bool.true_eq, Bool.false_eq, reduceCtorEq] at c17
      refine gc_skip ?_
      refine hK2 _ _ ?_
      clear hK2; try clear K2
      refine gc_seq fun K6 hK6 => ?_
      refine gc_region ?_
      refine gl_op rfl rfl rfl (op_pure hT rfl) ?_
      refine gl_nil ?_
      refine hK6 _ _ ?_
      clear hK6; try clear K6
      refine gc_seq fun K7 hK7 => ?_
      refine gc_region ?_
      refine gl_op rfl rfl rfl (op_pure hT rfl) ?_
      refine gl_nil ?_
      refine hK7 _ _ ?_
      clear hK7; try clear K7
      refine gc_block ?_
      have hat : (at_.toNat : Int) = at_ := Int.toNat_of_nonneg c12
      have hR : readUV l at_ = rdGo l at_.toNat 9 0 0 := by rw [readUV, if_neg (by omega)]
      refine gc_loop (fun k a w' => ∃ i v : Nat, Fr 59 a [(0, .slice A l.length c), (1, .int .i64 at_), (7, .int .i64 v), (8, .int .i64 i)] ∧ i ≤ 8 ∧ k = 9 - i ∧ v < 128 ^ i ∧ rdGo l at_.toNat k i v = readUV l at_ ∧ w = w') 9 ?_ ?_ ?_
      · intro a ha; exact ⟨0, 0, ha.sub ⟨rfl, rfl, rfl, rfl, trivial⟩, by omega, rfl, by decide, hR.symm, rfl⟩
      · rintro a w ⟨i, v, _, h1, h2, _⟩; omega
      rintro k a _ ⟨i, v, hF, hi, hk, hv, hg, rfl⟩
      refine gc_of hF ?_
      refine gc_seq fun K8 hK8 => ?_
      refine gc_block ?_
      refine gc_seq fun K9 hK9 => ?_
      refine gc_seq fun K10 hK10 => ?_
      refine gc_region ?_
      refine gl_op rfl rfl rfl (op_pure hT rfl) ?_
      refine gl_op rfl rfl rfl (op_pure hT rfl) ?_
      first | refine gl_fit hT rfl rfl rfl rfl (by omega) ?_ | refine gl_op rfl rfl rfl (op_pure hT rfl) ?_
      refine gl_op rfl rfl rfl (op_pure hT rfl) ?_
      refine gl_op rfl rfl rfl (op_pure hT rfl) ?_
      refine gl_op rfl rfl rfl (op_pure hT rfl) ?_
      refine gl_nil ?_
      refine hK10 _ _ ?_
      clear hK10; try clear K10
      refine gc_cond rfl rfl (fun c25 => ?_) (fun c25 => ?_)
      · try simp only [decide_eq_true_eq, decide_eq_false_iff_not, Bool.not_eq_true', Bool.not_eq_false', Int.not_lt, Int.not_le, Nat.not_lt, Nat.not_le, Bool.true_eq, Bool.false_eq, reduceCtorEq] at c25
        refine gc_seq fun K11 hK11 => ?_
        refine gc_region ?_
        refine gl_op rfl rfl rfl (op_pure hT rfl) ?_
        refine gl_op rfl rfl rfl (op_pure hT rfl) ?_
        refine gl_op rfl rfl rfl (op_pure hT rfl) ?_
        refine gl_nil ?_
        refine hK11 _ _ ?_
        clear hK11; try clear K11
        refine gc_ret ?_
        try simp only [x_then_ret, x_block_ret]
        refine gk_ret3 rfl rfl rfl rfl ?_
        exact ⟨by rw [← hg, rdGo_short (by omega)], Eqv.refl _⟩
      · try simp only [decide_eq_true_eq, decide_eq_false_iff_not, Bool.not_eq_true', Bool.not_eq_false', Int.not_lt, Int.not_le, Nat.not_lt, Nat.not_le, Bool.true_eq, Bool.false_eq, reduceCtorEq] at c25
        refine gc_skip ?_
        refine hK9 _ _ ?_
        clear hK9; try clear K9
        refine gc_seq fun K12 hK12 => ?_
        refine gc_region ?_
        refine gl_op rfl rfl rfl (op_pure hT rfl) ?_
        refine gl_op rfl rfl rfl (op_pure hT rfl) ?_
        refine gl_op rfl rfl rfl (op_pure hT rfl) ?_
        first | refine gl_fit hT rfl rfl rfl rfl (by omega) ?_ | refine gl_op rfl rfl rfl (op_pure hT rfl) ?_
        refine gl_ix (0 : UInt8) hT h1 rfl rfl rfl rfl rfl el5.cellsOf.1 el5.cellsOf.2 rfl (by simp) rfl (by omega) (by first | omega | (simp; omega)) fun p30 hp30 => ?_
        have hx : (at_ + (i : Int)).toNat = at_.toNat + i := by omega
        rw [hx] at hp30
        have ho := or_step v ((l.getD (at_.toNat + i) 0).toNat % 128) i hi hv (by omega)
        refine gl_op rfl rfl rfl (op_load hT rfl rfl rfl rfl hp30) ?_
        refine gl_op rfl rfl rfl (op_pure hT rfl) ?_
        refine gl_nil ?_
        refine hK12 _ _ ?_
        clear hK12; try clear K12
        refine gc_seq fun K13 hK13 => ?_
        refine gc_seq fun K14 hK14 => ?_
        refine gc_region ?_
        refine gl_op rfl rfl rfl (op_pure hT rfl) ?_
        refine gl_op rfl rfl rfl (op_pure hT rfl) ?_
        refine gl_op rfl rfl rfl (op_pure hT rfl) ?_
        refine gl_split (t := 34) rfl (fun c34 => ?_) (fun c34 => ?_)
        · try simp only [decide_eq_true_eq, decide_eq_false_iff_not, Bool.not_eq_true', Bool.not_eq_false', Int.not_lt, Int.not_le, Nat.not_lt, Nat.not_le, Bool.true_eq, Bool.false_eq, reduceCtorEq] at c34
          refine gl_un rfl rfl rfl rfl ?_
          refine gl_op rfl rfl rfl (op_pure hT rfl) ?_
          refine gl_un rfl rfl rfl rfl ?_
          refine gl_op rfl rfl rfl (op_pure hT rfl) ?_
          refine gl_op rfl rfl rfl (op_pure hT rfl) ?_
          refine gl_nil ?_
          refine hK14 _ _ ?_
          clear hK14; try clear K14
          refine gc_cond rfl rfl (fun c37 => ?_) (fun c37 => ?_)
          · try simp only [decide_eq_true_eq, decide_eq_false_iff_not, Bool.not_eq_true', Bool.not_eq_false', Int.not_lt, Int.not_le, Nat.not_lt, Nat.not_le, Bool.true_eq, Bool.false_eq, reduceCtorEq] at c37
            refine gc_seq fun K15 hK15 => ?_
            refine gc_region ?_
            refine gl_op rfl rfl rfl (op_pure hT rfl) ?_
            refine gl_op rfl rfl rfl (op_pure hT rfl) ?_
            refine gl_op rfl rfl rfl (op_pure hT rfl) ?_
            refine gl_nil ?_
            refine hK15 _ _ ?_
            clear hK15; try clear K15
            refine gc_ret ?_
            try simp only [x_then_ret, x_block_ret]
            refine gk_ret3 rfl rfl rfl rfl ?_
            obtain rfl : k = 0 := by omega
            exact ⟨by rw [← hg, rdGo_more (by omega) (by omega)]; rfl, Eqv.refl _⟩
          · try simp only [decide_eq_true_eq, decide_eq_false_iff_not, Bool.not_eq_true', Bool.not_eq_false', Int.not_lt, Int.not_le, Nat.not_lt, Nat.not_le, Bool.true_eq, Bool.false_eq, reduceCtorEq] at c37
            refine gc_skip ?_
            refine hK13 _ _ ?_
            clear hK13; try clear K13
            refine gc_seq fun K16 hK16 => ?_
            refine gc_region ?_
            refine gl_op rfl rfl rfl (op_pure hT rfl) ?_
            refine gl_op rfl rfl rfl (op_pure hT rfl) ?_
            refine gl_op rfl rfl rfl (op_pure hT rfl) ?_
            rw [u8_and127]
            refine gl_op rfl rfl rfl (op_pure hT rfl) ?_
            refine gl_spell 41 (v := .int .i64 (((l.getD (at_.toNat + i) 0).toNat % 128 : Nat) : Int)) rfl (by rw [wrap_i64 (by omega)]) ?_
            refine gl_op rfl rfl rfl (op_pure hT rfl) ?_
            first | refine gl_fit hT rfl rfl rfl rfl (by omega) ?_ | refine gl_op rfl rfl rfl (op_pure hT rfl) ?_
            refine gl_op rfl rfl rfl (op_shl rfl rfl rfl (by omega) (by first | omega | (simp [IntKind.bits]; omega))) ?_
            refine gl_op rfl rfl rfl (op_pure hT rfl) ?_
            rw [ho.1]
            refine gl_op rfl rfl rfl (op_pure hT rfl) ?_
            refine gl_nil ?_
            refine hK16 _ _ ?_
            clear hK16; try clear K16
            refine gc_seq fun K17 hK17 => ?_
            refine gc_region ?_
            refine gl_op rfl rfl rfl (op_pure hT rfl) ?_
            refine gl_op rfl rfl rfl (op_pure hT rfl) ?_
            refine gl_nil ?_
            refine hK17 _ _ ?_
            clear hK17; try clear K17
            refine gc_cond rfl rfl (fun c47 => ?_) (fun c47 => ?_)
            · try simp only [decide_eq_true_eq, decide_eq_false_iff_not, Bool.not_eq_true', Bool.not_eq_false', Int.not_lt, Int.not_le, Nat.not_lt, Nat.not_le, Bool.true_eq, Bool.false_eq, reduceCtorEq] at c47
              refine gc_seq fun K18 hK18 => ?_
              refine gc_seq fun K19 hK19 => ?_
              refine gc_region ?_
              refine gl_op rfl rfl rfl (op_pure hT rfl) ?_
              refine gl_op rfl rfl rfl (op_pure hT rfl) ?_
              refine gl_op rfl rfl rfl (op_pure hT rfl) ?_
              refine gl_split (t := 50) rfl (fun c50 => ?_) (fun c50 => ?_)
              · try simp only [decide_eq_true_eq, decide_eq_false_iff_not, Bool.not_eq_true', Bool.not_eq_false', Int.not_lt, Int.not_le, Nat.not_lt, Nat.not_le, Bool.true_eq, Bool.false_eq, reduceCtorEq] at c50
                refine gl_un rfl rfl rfl rfl ?_
                refine gl_op rfl rfl rfl (op_pure hT rfl) ?_
                refine gl_un rfl rfl rfl rfl ?_
                refine gl_op rfl rfl rfl (op_pure hT rfl) ?_
                refine gl_op rfl rfl rfl (op_pure hT rfl) ?_
                refine gl_nil ?_
                refine hK19 _ _ ?_
                clear hK19; try clear K19
                refine gc_cond rfl rfl (fun c53 => ?_) (fun c53 => ?_)
                · try simp only [decide_eq_true_eq, decide_eq_false_iff_not, Bool.not_eq_true', Bool.not_eq_false', Int.not_lt, Int.not_le, Nat.not_lt, Nat.not_le, Bool.true_eq, Bool.false_eq, reduceCtorEq] at c53
                  refine gc_seq fun K20 hK20 => ?_
                  refine gc_region ?_
                  refine gl_op rfl rfl rfl (op_pure hT rfl) ?_
                  refine gl_op rfl rfl rfl (op_pure hT rfl) ?_
                  refine gl_op rfl rfl rfl (op_pure hT rfl) ?_
                  refine gl_nil ?_
                  refine hK20 _ _ ?_
                  clear hK20; try clear K20
                  refine gc_ret ?_
                  try simp only [x_then_ret, x_block_ret]
                  refine gk_ret3 rfl rfl rfl rfl ?_
                  exact ⟨by rw [← hg, rdGo_form (by omega) (by omega) (by omega)], Eqv.refl _⟩
                · try simp only [decide_eq_true_eq, decide_eq_false_iff_not, Bool.not_eq_true', Bool.not_eq_false', Int.not_lt, Int.not_le, Nat.not_lt, Nat.not_le, Bool.true_eq, Bool.false_eq, reduceCtorEq] at c53
                  refine gc_skip ?_
                  refine hK18 _ _ ?_
                  clear hK18; try clear K18
                  refine gc_seq fun K21 hK21 => ?_
                  refine gc_region ?_
                  refine gl_op rfl rfl rfl (op_pure hT rfl) ?_
                  refine gl_op rfl rfl rfl (op_pure hT rfl) ?_
                  refine gl_op rfl rfl rfl (op_pure hT rfl) ?_
                  first | refine gl_fit hT rfl rfl rfl rfl (by omega) ?_ | refine gl_op rfl rfl rfl (op_pure hT rfl) ?_
                  first | refine gl_fit hT rfl rfl rfl rfl (by omega) ?_ | refine gl_op rfl rfl rfl (op_pure hT rfl) ?_
                  refine gl_op rfl rfl rfl (op_pure hT rfl) ?_
                  refine gl_op rfl rfl rfl (op_pure hT rfl) ?_
                  refine gl_op rfl rfl rfl (op_pure hT rfl) ?_
                  refine gl_nil ?_
                  refine hK21 _ _ ?_
                  clear hK21; try clear K21
                  refine gc_ret ?_
                  try simp only [x_then_ret, x_block_ret]
                  refine gk_ret3 rfl rfl rfl rfl ?_
                  omega
              · try simp only [decide_eq_true_eq, decide_eq_false_iff_not, Bool.not_eq_true', Bool.not_eq_false', Int.not_lt, Int.not_le, Nat.not_lt, Nat.not_le, Bool.true_eq, Bool.false_eq, reduceCtorEq] at c50
                refine gl_pass rfl rfl rfl rfl rfl rfl ?_
                refine gl_pass rfl rfl rfl rfl rfl rfl ?_
                refine gl_op rfl rfl rfl (op_pure hT rfl) ?_
                refine gl_nil ?_
                refine hK19 _ _ ?_
                clear hK19; try clear K19
                refine gc_cond_f rfl ?_
                refine gc_skip ?_
                refine hK18 _ _ ?_
                clear hK18; try clear K18
                refine gc_seq fun K22 hK22 => ?_
                refine gc_region ?_
                refine gl_op rfl rfl rfl (op_pure hT rfl) ?_
                refine gl_op rfl rfl rfl (op_pure hT rfl) ?_
                refine gl_op rfl rfl rfl (op_pure hT rfl) ?_
                first | refine gl_fit hT rfl rfl rfl rfl (by omega) ?_ | refine gl_op rfl rfl rfl (op_pure hT rfl) ?_
                first | refine gl_fit hT rfl rfl rfl rfl (by omega) ?_ | refine gl_op rfl rfl rfl (op_pure hT rfl) ?_
                refine gl_op rfl rfl rfl (op_pure hT rfl) ?_
                refine gl_op rfl rfl rfl (op_pure hT rfl) ?_
                refine gl_op rfl rfl rfl (op_pure hT rfl) ?_
                refine gl_nil ?_
                refine hK22 _ _ ?_
                clear hK22; try clear K22
                refine gc_ret ?_
                try simp only [x_then_ret, x_block_ret]
                refine gk_ret3 rfl rfl rfl rfl ?_
                exact ⟨by rw [← hg, rdGo_end (by omega) (by omega) (by omega)]; simp; omega, Eqv.refl _⟩
            · try simp only [decide_eq_true_eq, decide_eq_false_iff_not, Bool.not_eq_true', Bool.not_eq_false', Int.not_lt, Int.not_le, Nat.not_lt, Nat.not_le, Bool.true_eq, Bool.false_eq, reduceCtorEq] at c47
              refine gc_skip ?_
              refine hK8 _ _ ?_
              clear hK8; try clear K8
              refine gc_region ?_
              refine gl_op rfl rfl rfl (op_pure hT rfl) ?_
              first | refine gl_fit hT rfl rfl rfl rfl (by omega) ?_ | refine gl_op rfl rfl rfl (op_pure hT rfl) ?_
              refine gl_op rfl rfl rfl (op_pure hT rfl) ?_
              refine gl_nil ?_
              intro a ha
              refine ⟨i + 1, _, ha.sub ⟨rfl, rfl, rfl, rfl, trivial⟩, by omega, by omega, ho.2, ?_, rfl⟩
              rw [← hg, rdGo_more (by omega) (by omega)]
        · try simp only [decide_eq_true_eq, decide_eq_false_iff_not, Bool.not_eq_true', Bool.not_eq_false', Int.not_lt, Int.not_le, Nat.not_lt, Nat.not_le, Bool.true_eq, Bool.false_eq, reduceCtorEq] at c34
          refine gl_pass rfl rfl rfl rfl rfl rfl ?_
          refine gl_pass rfl rfl rfl rfl rfl rfl ?_
          refine gl_op rfl rfl rfl (op_pure hT rfl) ?_
          refine gl_nil ?_
          refine hK14 _ _ ?_
          clear hK14; try clear K14
          refine gc_cond_f rfl ?_
          refine gc_skip ?_
          refine hK13 _ _ ?_
          clear hK13; try clear K13
          refine gc_seq fun K23 hK23 => ?_
          refine gc_region ?_
          refine gl_op rfl rfl rfl (op_pure hT rfl) ?_
          refine gl_op rfl rfl rfl (op_pure hT rfl) ?_
          refine gl_op rfl rfl rfl (op_pure hT rfl) ?_
          rw [u8_and127]
          refine gl_op rfl rfl rfl (op_pure hT rfl) ?_
          refine gl_spell 41 (v := .int .i64 (((l.getD (at_.toNat + i) 0).toNat % 128 : Nat) : Int)) rfl (by rw [wrap_i64 (by omega)]) ?_
          refine gl_op rfl rfl rfl (op_pure hT rfl) ?_
          first | refine gl_fit hT rfl rfl rfl rfl (by omega) ?_ | refine gl_op rfl rfl rfl (op_pure hT rfl) ?_
          refine gl_op rfl rfl rfl (op_shl rfl rfl rfl (by omega) (by first | omega | (simp [IntKind.bits]; omega))) ?_
          refine gl_op rfl rfl rfl (op_pure hT rfl) ?_
          rw [ho.1]
          refine gl_op rfl rfl rfl (op_pure hT rfl) ?_
          refine gl_nil ?_
          refine hK23 _ _ ?_
          clear hK23; try clear K23
          refine gc_seq fun K24 hK24 => ?_
          refine gc_region ?_
          refine gl_op rfl rfl rfl (op_pure hT rfl) ?_
          refine gl_op rfl rfl rfl (op_pure hT rfl) ?_
          refine gl_nil ?_
          refine hK24 _ _ ?_
          clear hK24; try clear K24
          refine gc_cond rfl rfl (fun c47 => ?_) (fun c47 => ?_)
          · try simp only [decide_eq_true_eq, decide_eq_false_iff_not, Bool.not_eq_true', Bool.not_eq_false', Int.not_lt, Int.not_le, Nat.not_lt, Nat.not_le, Bool.true_eq, Bool.false_eq, reduceCtorEq] at c47
            refine gc_seq fun K25 hK25 => ?_
            refine gc_seq fun K26 hK26 => ?_
            refine gc_region ?_
            refine gl_op rfl rfl rfl (op_pure hT rfl) ?_
            refine gl_op rfl rfl rfl (op_pure hT rfl) ?_
            refine gl_op rfl rfl rfl (op_pure hT rfl) ?_
            refine gl_split (t := 50) rfl (fun c50 => ?_) (fun c50 => ?_)
            · try simp only [decide_eq_true_eq, decide_eq_false_iff_not, Bool.not_eq_true', Bool.not_eq_false', Int.not_lt, Int.not_le, Nat.not_lt, Nat.not_le, Bool.true_eq, Bool.false_eq, reduceCtorEq] at c50
              refine gl_un rfl rfl rfl rfl ?_
              refine gl_op rfl rfl rfl (op_pure hT rfl) ?_
              refine gl_un rfl rfl rfl rfl ?_
              refine gl_op rfl rfl rfl (op_pure hT rfl) ?_
              refine gl_op rfl rfl rfl (op_pure hT rfl) ?_
              refine gl_nil ?_
              refine hK26 _ _ ?_
              clear hK26; try clear K26
              refine gc_cond rfl rfl (fun c53 => ?_) (fun c53 => ?_)
              · try simp only [decide_eq_true_eq, decide_eq_false_iff_not, Bool.not_eq_true', Bool.not_eq_false', Int.not_lt, Int.not_le, Nat.not_lt, Nat.not_le, Bool.true_eq, Bool.false_eq, reduceCtorEq] at c53
                refine gc_seq fun K27 hK27 => ?_
                refine gc_region ?_
                refine gl_op rfl rfl rfl (op_pure hT rfl) ?_
                refine gl_op rfl rfl rfl (op_pure hT rfl) ?_
                refine gl_op rfl rfl rfl (op_pure hT rfl) ?_
                refine gl_nil ?_
                refine hK27 _ _ ?_
                clear hK27; try clear K27
                refine gc_ret ?_
                try simp only [x_then_ret, x_block_ret]
                refine gk_ret3 rfl rfl rfl rfl ?_
                exact ⟨by rw [← hg, rdGo_form (by omega) (by omega) (by omega)], Eqv.refl _⟩
              · try simp only [decide_eq_true_eq, decide_eq_false_iff_not, Bool.not_eq_true', Bool.not_eq_false', Int.not_lt, Int.not_le, Nat.not_lt, Nat.not_le, Bool.true_eq, Bool.false_eq, reduceCtorEq] at c53
                refine gc_skip ?_
                refine hK25 _ _ ?_
                clear hK25; try clear K25
                refine gc_seq fun K28 hK28 => ?_
                refine gc_region ?_
                refine gl_op rfl rfl rfl (op_pure hT rfl) ?_
                refine gl_op rfl rfl rfl (op_pure hT rfl) ?_
                refine gl_op rfl rfl rfl (op_pure hT rfl) ?_
                first | refine gl_fit hT rfl rfl rfl rfl (by omega) ?_ | refine gl_op rfl rfl rfl (op_pure hT rfl) ?_
                first | refine gl_fit hT rfl rfl rfl rfl (by omega) ?_ | refine gl_op rfl rfl rfl (op_pure hT rfl) ?_
                refine gl_op rfl rfl rfl (op_pure hT rfl) ?_
                refine gl_op rfl rfl rfl (op_pure hT rfl) ?_
                refine gl_op rfl rfl rfl (op_pure hT rfl) ?_
                refine gl_nil ?_
                refine hK28 _ _ ?_
                clear hK28; try clear K28
                refine gc_ret ?_
                try simp only [x_then_ret, x_block_ret]
                refine gk_ret3 rfl rfl rfl rfl ?_
                exact ⟨by rw [← hg, rdGo_end (by omega) (by omega) (by omega)]; simp; omega, Eqv.refl _⟩
            · try simp only [decide_eq_true_eq, decide_eq_false_iff_not, Bool.not_eq_true', Bool.not_eq_false', Int.not_lt, Int.not_le, Nat.not_lt, Nat.not_le, Bool.true_eq, Bool.false_eq, reduceCtorEq] at c50
              refine gl_pass rfl rfl rfl rfl rfl rfl ?_
              refine gl_pass rfl rfl rfl rfl rfl rfl ?_
              refine gl_op rfl rfl rfl (op_pure hT rfl) ?_
              refine gl_nil ?_
              refine hK26 _ _ ?_
              clear hK26; try clear K26
              refine gc_cond_f rfl ?_
              refine gc_skip ?_
              refine hK25 _ _ ?_
              clear hK25; try clear K25
              refine gc_seq fun K29 hK29 => ?_
              refine gc_region ?_
              refine gl_op rfl rfl rfl (op_pure hT rfl) ?_
              refine gl_op rfl rfl rfl (op_pure hT rfl) ?_
              refine gl_op rfl rfl rfl (op_pure hT rfl) ?_
              first | refine gl_fit hT rfl rfl rfl rfl (by omega) ?_ | refine gl_op rfl rfl rfl (op_pure hT rfl) ?_
              first | refine gl_fit hT rfl rfl rfl rfl (by omega) ?_ | refine gl_op rfl rfl rfl (op_pure hT rfl) ?_
              refine gl_op rfl rfl rfl (op_pure hT rfl) ?_
              refine gl_op rfl rfl rfl (op_pure hT rfl) ?_
              refine gl_op rfl rfl rfl (op_pure hT rfl) ?_
              refine gl_nil ?_
              refine hK29 _ _ ?_
              clear hK29; try clear K29
              refine gc_ret ?_
              try simp only [x_then_ret, x_block_ret]
              refine gk_ret3 rfl rfl rfl rfl ?_
              exact ⟨by rw [← hg, rdGo_end (by omega) (by omega) (by omega)]; simp; omega, Eqv.refl _⟩
          · try simp only [decide_eq_true_eq, decide_eq_false_iff_not, Bool.not_eq_true', Bool.not_eq_false', Int.not_lt, Int.not_le, Nat.not_lt, Nat.not_le, Bool.true_eq, Bool.false_eq, reduceCtorEq] at c47
            refine gc_skip ?_
            refine hK8 _ _ ?_
            clear hK8; try clear K8
            refine gc_region ?_
            refine gl_op rfl rfl rfl (op_pure hT rfl) ?_
            first | refine gl_fit hT rfl rfl rfl rfl (by omega) ?_ | refine gl_op rfl rfl rfl (op_pure hT rfl) ?_
            refine gl_op rfl rfl rfl (op_pure hT rfl) ?_
            refine gl_nil ?_
            intro a ha
            refine ⟨i + 1, _, ha.sub ⟨rfl, rfl, rfl, rfl, trivial⟩, by omega, by omega, ho.2, ?_, rfl⟩
            rw [← hg, rdGo_more (by omega) (by omega)]
end Go.Proofs.YtnomlloaahoceaaDoor

