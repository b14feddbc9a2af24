/- Plain words for chapter 1: numbers as bytes. No program in sight; no condition. -/
import Derived.Test.YtpeomdobcobdiaaDoorLibD
namespace Go.Proofs.YtpeomdobcobdiaaDoor
set_option linter.unusedVariables false

/-- A number's byte. -/
def toB (x : Int) : UInt8 := UInt8.ofNat x.toNat
theorem toB_toNat {x : Int} (h0 : 0 ≤ x) (h1 : x < 256) : ((toB x).toNat : Int) = x := by
  unfold toB
  rw [UInt8.toNat_ofNat']
  omega
theorem uB_toB {x : Int} (h0 : 0 ≤ x) (h1 : x < 256) : Value.int .u8 x = uB (toB x) := by
  unfold uB; rw [toB_toNat h0 h1]
theorem u8_range (b : UInt8) : (0 : Int) ≤ b.toNat ∧ (b.toNat : Int) < 256 := by
  have := b.toNat_lt; omega
theorem or128 (x : Int) : bits .or .u8 (IntKind.u8.wrap x) 128 = 128 + x % 128 := by
  rw [IntKind.wrap_u8]
  rw [u8_or _ _ (by omega) (by omega) (by decide) (by decide)]
  have h : (x % 256).toNat < 256 := by omega
  have e : ∀ n : Nat, n < 256 → n ||| (128 : Int).toNat = 128 + n % 128 := by
    intro n hn
    show n ||| 128 = _
    by_cases h : n < 128
    · rw [Nat.or_comm, nat_join 7 128 n (by decide) (by omega)]; omega
    · have e1 : n = 128 + (n - 128) := by omega
      rw [e1, ← nat_join 7 128 (n - 128) (by decide) (by omega), Nat.or_assoc, Nat.or_comm (n - 128) 128, ← Nat.or_assoc, Nat.or_self, nat_join 7 128 (n - 128) (by decide) (by omega)]; omega
  rw [e _ h]
  omega
/-- A whole number's bytes. -/
def encU (n : Nat) : List UInt8 := if h : n < 128 then [UInt8.ofNat n] else UInt8.ofNat (128 + n % 128) :: encU (n / 128)
termination_by n
decreasing_by omega
theorem encU_small {n : Nat} (h : n < 128) : encU n = [UInt8.ofNat n] := by rw [encU, dif_pos h]
theorem encU_big {n : Nat} (h : ¬ n < 128) : encU n = UInt8.ofNat (128 + n % 128) :: encU (n / 128) := by rw [encU, dif_neg h]
theorem encU_len (k : Nat) : ∀ n, n < 128 ^ (k + 1) → (encU n).length ≤ k + 1 := by
  induction k with
  | zero => intro n h; rw [encU_small (by simpa using h)]; simp
  | succ k ih =>
    intro n h
    by_cases hn : n < 128
    · rw [encU_small hn]; simp
    · rw [encU_big hn]
      have := ih (n / 128) (by rw [Nat.div_lt_iff_lt_mul (by decide)]; rw [Nat.pow_succ] at h; exact h)
      simp; omega
/-- Uint, the bytes and the error. -/
def uintV (n : Int) : List UInt8 × Int := if n < 0 then ([], 1) else (encU n.toNat, 0)
theorem ofInt_i64' (a : Nat) (ha : a < 9223372036854775808) : (BitVec.ofInt 64 (a : Int)).toNat = a := by
  rw [BitVec.ofInt_natCast, BitVec.toNat_ofNat]; exact Nat.mod_eq_of_lt (by omega)
theorem i64_or_nat (a b : Nat) (ha : a < 9223372036854775808) (hb : b < 9223372036854775808) : bits .or .i64 (a : Int) (b : Int) = ((a ||| b : Nat) : Int) := by
  have hx : a ||| b < 2 ^ 63 := Nat.or_lt_two_pow (by omega) (by omega)
  show IntKind.i64.wrap ((BitVec.ofInt 64 (a : Int) ||| BitVec.ofInt 64 (b : Int)).toNat : Int) = _
  rw [BitVec.toNat_or, ofInt_i64' a ha, ofInt_i64' b hb, IntKind.wrap_i64]
  omega
theorem pow128 (i : Nat) : (2 : Nat) ^ (7 * i) = 128 ^ i := by rw [Nat.pow_mul]
theorem pow128_le {i j : Nat} (h : i ≤ j) : 128 ^ i ≤ 128 ^ j := Nat.pow_le_pow_right (by decide) h
theorem or_step (v c i : Nat) (hi : i ≤ 8) (hv : v < 128 ^ i) (hc : c < 128) :
    bits .or .i64 (v : Int) (IntKind.i64.wrap ((c : Int) * 2 ^ (7 * (i : Int)).toNat)) = ((v + c * 128 ^ i : Nat) : Int) ∧ v + c * 128 ^ i < 128 ^ (i + 1) := by
  have e1 : (7 * (i : Int)).toNat = 7 * i := by omega
  have e2 : ((c : Int) * 2 ^ (7 * i)) = ((c * 128 ^ i : Nat) : Int) := by
    rw [← pow128]; push_cast; rfl
  have h9 : 128 ^ (i + 1) ≤ 128 ^ 9 := pow128_le (by omega)
  have h10 : c * 128 ^ i ≤ 127 * 128 ^ i := Nat.mul_le_mul_right _ (by omega)
  have h11 : 128 ^ (i + 1) = 128 * 128 ^ i := by rw [Nat.pow_succ, Nat.mul_comm]
  have hlt : v + c * 128 ^ i < 128 ^ (i + 1) := by omega
  have h12 : (128 : Nat) ^ 9 = 9223372036854775808 := by decide
  refine ⟨?_, hlt⟩
  rw [e1, e2, wrap_i64 (by omega), i64_or_nat _ _ (by omega) (by omega)]
  congr 1
  rw [Nat.or_comm, nat_join (7 * i) (c * 128 ^ i) v (by rw [← pow128]; exact Nat.mul_mod_left _ _) (by rw [pow128]; exact hv), Nat.add_comm]
/-- ReadUint from a place on: k bytes may still come, i have come, v is what they tell. -/
def rdGo (l : List UInt8) (at_ : Nat) : Nat → Nat → Nat → Int × Int × Int
  | 0, _, _ => (0, 0, 12)
  | k + 1, i, v =>
    if l.length ≤ at_ + i then (0, 0, 10) else
    let c := (l.getD (at_ + i) 0).toNat
    if c < 128 then (if c = 0 ∧ 0 < i then (0, 0, 11) else (((v + c % 128 * 128 ^ i : Nat) : Int), ((at_ + i + 1 : Nat) : Int), 0))
    else rdGo l at_ k (i + 1) (v + c % 128 * 128 ^ i)
def readUV (l : List UInt8) (at_ : Int) : Int × Int × Int := if at_ < 0 ∨ (l.length : Int) < at_ then (0, 0, 1) else rdGo l at_.toNat 9 0 0
theorem rdGo_short {l : List UInt8} {at_ k i v : Nat} (h : l.length ≤ at_ + i) : rdGo l at_ (k + 1) i v = (0, 0, 10) := by rw [rdGo, if_pos h]
theorem rdGo_form {l : List UInt8} {at_ k i v : Nat} (h : at_ + i < l.length) (h0 : (l.getD (at_ + i) 0).toNat = 0) (hi : 0 < i) : rdGo l at_ (k + 1) i v = (0, 0, 11) := by
  rw [rdGo, if_neg (by omega)]; simp only; rw [if_pos (by omega), if_pos ⟨h0, hi⟩]
theorem rdGo_end {l : List UInt8} {at_ k i v : Nat} (h : at_ + i < l.length) (h1 : (l.getD (at_ + i) 0).toNat < 128) (h0 : ¬ ((l.getD (at_ + i) 0).toNat = 0 ∧ 0 < i)) :
    rdGo l at_ (k + 1) i v = (((v + (l.getD (at_ + i) 0).toNat % 128 * 128 ^ i : Nat) : Int), ((at_ + i + 1 : Nat) : Int), 0) := by
  rw [rdGo, if_neg (by omega)]; simp only; rw [if_pos h1, if_neg h0]
theorem rdGo_more {l : List UInt8} {at_ k i v : Nat} (h : at_ + i < l.length) (h1 : 128 ≤ (l.getD (at_ + i) 0).toNat) :
    rdGo l at_ (k + 1) i v = rdGo l at_ k (i + 1) (v + (l.getD (at_ + i) 0).toNat % 128 * 128 ^ i) := by
  rw [rdGo, if_neg (by omega)]; simp only; rw [if_neg (by omega)]
end Go.Proofs.YtpeomdobcobdiaaDoor
