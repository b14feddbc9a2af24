/- Plain words for chapter 1: the bytes of a float's bits. No program in sight; no condition. -/
import Derived.Test.YtpeomdobcobdiaaDoorCrc
namespace Go.Proofs.YtpeomdobcobdiaaDoor
set_option linter.unusedVariables false
set_option linter.unusedSimpArgs false
/-- Are these a number's bits? -/
def numB (u : Nat) : Bool := !decide (u / 4503599627370496 % 2048 = 2047)
def leB (u : Nat) : Nat → List UInt8
  | 0 => []
  | k + 1 => UInt8.ofNat u :: leB (u / 256) k
theorem leB_len (k : Nat) : ∀ u, (leB u k).length = k := by
  induction k with
  | zero => intro u; rfl
  | succ k ih => intro u; simp [leB, ih]
theorem leB_at (k : Nat) : ∀ u i, i < k → (leB u k)[i]? = some (UInt8.ofNat (u / 256 ^ i)) := by
  induction k with
  | zero => intro u i h; omega
  | succ k ih =>
    intro u i h
    cases i with
    | zero => simp [leB]
    | succ i => rw [leB, List.getElem?_cons_succ, ih _ i (by omega), Nat.div_div_eq_div_mul, Nat.pow_succ, Nat.mul_comm 256]
theorem leB_snoc (k : Nat) : ∀ u, leB u (k + 1) = leB u k ++ [UInt8.ofNat (u / 256 ^ k)] := by
  induction k with
  | zero => intro u; simp [leB]
  | succ k ih => intro u; rw [leB, ih]; simp only [leB, List.cons_append]; rw [Nat.div_div_eq_div_mul, Nat.pow_succ, Nat.mul_comm 256]
def floatV (u : Nat) : List UInt8 × Int := if numB u = false then ([], 15) else (leB u 8, 0)
/-- What k bytes tell, the lowest first. -/
def vLE (l : List UInt8) (at_ : Nat) : Nat → Nat
  | 0 => 0
  | k + 1 => vLE l at_ k + (l.getD (at_ + k) 0).toNat * 256 ^ k
theorem vLE_lt (l : List UInt8) (at_ : Nat) : ∀ k, vLE l at_ k < 256 ^ k := by
  intro k
  induction k with
  | zero => simp [vLE]
  | succ k ih =>
    have := (l.getD (at_ + k) 0).toNat_lt
    have h2 : (l.getD (at_ + k) 0).toNat * 256 ^ k ≤ 255 * 256 ^ k := Nat.mul_le_mul_right _ (by omega)
    rw [vLE, Nat.pow_succ]; omega
/-- The same from above: the bytes from k on. -/
def vHi (l : List UInt8) (at_ : Nat) : Nat → Nat → Nat
  | _, 0 => 0
  | k, n + 1 => (l.getD (at_ + k) 0).toNat + 256 * vHi l at_ (k + 1) n
theorem vLE_hi (l : List UInt8) (at_ : Nat) : ∀ n k, vLE l at_ (k + n) = vLE l at_ k + 256 ^ k * vHi l at_ k n := by
  intro n
  induction n with
  | zero => intro k; simp [vHi]
  | succ n ih =>
    intro k
    have := ih (k + 1)
    rw [show k + 1 + n = k + (n + 1) by omega] at this
    rw [this, vLE, vHi, Nat.pow_succ, Nat.mul_add, Nat.mul_assoc, ← Nat.add_assoc, Nat.mul_comm (256 ^ k) (l.getD (at_ + k) 0).toNat]
theorem vLE_all (l : List UInt8) (at_ n : Nat) : vLE l at_ n = vHi l at_ 0 n := by
  have := vLE_hi l at_ n 0
  rw [Nat.zero_add] at this
  rw [this]; simp [vLE]
def readFloatV (l : List UInt8) (at_ : Int) : Nat × Int × Int :=
  if at_ < 0 ∨ (l.length : Int) < at_ then (0, 0, 1) else
  if (l.length : Int) - at_ < 8 then (0, 0, 10) else
  if numB (vLE l at_.toNat 8) = false then (0, 0, 15) else (vLE l at_.toNat 8, at_ + 8, 0)
theorem ofInt_u64 (a : Nat) (ha : a < 18446744073709551616) : (BitVec.ofInt 64 (a : Int)).toNat = a := by
  rw [BitVec.ofInt_natCast, BitVec.toNat_ofNat]; exact Nat.mod_eq_of_lt ha
theorem u64_and2047 (a : Nat) (ha : a < 18446744073709551616) : Go.bits .and .u64 (a : Int) 2047 = ((a % 2048 : Nat) : Int) := by
  show Go.IntKind.u64.wrap ((BitVec.ofInt 64 (a : Int) &&& BitVec.ofInt 64 2047).toNat : Int) = _
  have h2 : (BitVec.ofInt 64 2047).toNat = 2047 := by decide
  rw [BitVec.toNat_and, ofInt_u64 a ha, h2, IntKind.wrap_u64]
  rw [show (2047 : Nat) = 2 ^ 11 - 1 by rfl, Nat.and_two_pow_sub_one_eq_mod]
  omega
theorem u64_or (a b : Nat) (ha : a < 18446744073709551616) (hb : b < 18446744073709551616) : Go.bits .or .u64 (a : Int) (b : Int) = ((a ||| b : Nat) : Int) := by
  show Go.IntKind.u64.wrap ((BitVec.ofInt 64 (a : Int) ||| BitVec.ofInt 64 (b : Int)).toNat : Int) = _
  have h3 : a ||| b < 2 ^ 64 := Nat.or_lt_two_pow (by omega) (by omega)
  rw [BitVec.toNat_or, ofInt_u64 a ha, ofInt_u64 b hb, IntKind.wrap_u64]
  omega
theorem pow256 (i : Nat) : (2 : Nat) ^ (8 * i) = 256 ^ i := by rw [Nat.pow_mul]
theorem pow256_le {i j : Nat} (h : i ≤ j) : 256 ^ i ≤ 256 ^ j := Nat.pow_le_pow_right (by decide) h
theorem or_step8 (v c i : Nat) (hi : i < 8) (hv : v < 256 ^ i) (hc : c < 256) :
    Go.bits .or .u64 (v : Int) (Go.IntKind.u64.wrap ((c : Int) * 2 ^ (8 * (i : Int)).toNat)) = ((v + c * 256 ^ i : Nat) : Int) ∧ v + c * 256 ^ i < 18446744073709551616 := by
  have e1 : (8 * (i : Int)).toNat = 8 * i := by omega
  have e2 : ((c : Int) * 2 ^ (8 * i)) = ((c * 256 ^ i : Nat) : Int) := by rw [← pow256]; push_cast; rfl
  have h8 : 256 ^ (i + 1) ≤ 256 ^ 8 := pow256_le (by omega)
  have h10 : c * 256 ^ i ≤ 255 * 256 ^ i := Nat.mul_le_mul_right _ (by omega)
  have h11 : 256 ^ (i + 1) = 256 * 256 ^ i := by rw [Nat.pow_succ, Nat.mul_comm]
  have h12 : (256 : Nat) ^ 8 = 18446744073709551616 := by decide
  have hlt : c * 256 ^ i < 18446744073709551616 := by omega
  refine ⟨?_, by omega⟩
  have hw : Go.IntKind.u64.wrap ((c * 256 ^ i : Nat) : Int) = ((c * 256 ^ i : Nat) : Int) := by
    rw [IntKind.wrap_u64]
    generalize c * 256 ^ i = y at hlt
    omega
  rw [e1, e2, hw, u64_or _ _ (by omega) hlt]
  congr 1
  rw [Nat.or_comm, nat_join (8 * i) (c * 256 ^ i) v (by rw [← pow256]; exact Nat.mul_mod_left _ _) (by rw [pow256]; exact hv), Nat.add_comm]
theorem shr_byte (u i : Nat) : Value.int .u8 (IntKind.u8.wrap ((u : Int) / 2 ^ (8 * (i : Int)).toNat)) = uB (UInt8.ofNat (u / 256 ^ i)) := by
  have e1 : (8 * (i : Int)).toNat = 8 * i := by omega
  have e2 : (u : Int) / 2 ^ (8 * i) = ((u / 256 ^ i : Nat) : Int) := by rw [← pow256]; push_cast; rfl
  rw [e1, e2, u8_wrap]
end Go.Proofs.YtpeomdobcobdiaaDoor
