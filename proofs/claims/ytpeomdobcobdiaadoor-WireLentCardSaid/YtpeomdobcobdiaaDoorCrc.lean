/- Plain words for chapter 1: the check sum, bit by bit. No program in sight; no condition. -/
import Derived.Test.YtpeomdobcobdiaaDoorSpec
namespace Go.Proofs.YtpeomdobcobdiaaDoor
set_option linter.unusedVariables false
set_option linter.unusedSimpArgs false

def poly : Nat := 2197175160
/-- One bit. -/
def stp (r : Nat) : Nat := if r % 2 = 1 then r / 2 ^^^ poly else r / 2
def stps : Nat → Nat → Nat
  | 0, r => r
  | n + 1, r => stps n (stp r)
/-- One byte. -/
def byt (r : Nat) (x : UInt8) : Nat := stps 8 (r ^^^ x.toNat)
def crcGo (r : Nat) (l : List UInt8) : Nat := l.foldl byt r
/-- The check sum. -/
def crcV (l : List UInt8) : Nat := 4294967295 - crcGo 4294967295 l
theorem xor_lt32 {a b : Nat} (ha : a < 4294967296) (hb : b < 4294967296) : a ^^^ b < 4294967296 := Nat.xor_lt_two_pow (n := 32) ha hb
theorem stp_lt {r : Nat} (h : r < 4294967296) : stp r < 4294967296 := by
  unfold stp
  split
  · exact xor_lt32 (by omega) (by decide)
  · omega
theorem stps_lt (n : Nat) : ∀ {r : Nat}, r < 4294967296 → stps n r < 4294967296 := by
  induction n with
  | zero => intro r h; exact h
  | succ n ih => intro r h; exact ih (stp_lt h)
theorem byt_lt {r : Nat} (h : r < 4294967296) (x : UInt8) : byt r x < 4294967296 := stps_lt 8 (xor_lt32 h (by have := x.toNat_lt; omega))
theorem crcGo_lt (l : List UInt8) : ∀ {r : Nat}, r < 4294967296 → crcGo r l < 4294967296 := by
  induction l with
  | nil => intro r h; exact h
  | cons x l ih => intro r h; exact ih (byt_lt h x)
theorem crcGo_append (r : Nat) (a b : List UInt8) : crcGo r (a ++ b) = crcGo (crcGo r a) b := by simp [crcGo]
theorem crcGo_cons (r : Nat) (x : UInt8) (l : List UInt8) : crcGo r (x :: l) = crcGo (byt r x) l := rfl
theorem crcGo_nil (r : Nat) : crcGo r [] = r := rfl
theorem crcV_lt (l : List UInt8) : crcV l < 4294967296 := by unfold crcV; omega
theorem xor_div2 (a b : Nat) : (a ^^^ b) / 2 = a / 2 ^^^ b / 2 := by
  apply Nat.eq_of_testBit_eq
  intro i
  simp [Nat.testBit_div_two, Nat.testBit_xor]
theorem xor_mod2 (a b : Nat) : (a ^^^ b) % 2 = (a + b) % 2 := by
  have h1 : (a ^^^ b).testBit 0 = (a.testBit 0 != b.testBit 0) := Nat.testBit_xor ..
  rw [Nat.testBit_zero, Nat.testBit_zero, Nat.testBit_zero] at h1
  rcases Nat.mod_two_eq_zero_or_one a with ha | ha <;> rcases Nat.mod_two_eq_zero_or_one b with hb | hb <;> rcases Nat.mod_two_eq_zero_or_one (a ^^^ b) with hc | hc <;> simp [ha, hb, hc] at h1 <;> omega
theorem xor_xor4 (a b c : Nat) : (a ^^^ c) ^^^ (b ^^^ c) = a ^^^ b := by
  apply Nat.eq_of_testBit_eq; intro i; simp only [Nat.testBit_xor]
  cases a.testBit i <;> cases b.testBit i <;> cases c.testBit i <;> rfl
theorem xor_swap (a b c : Nat) : (a ^^^ b) ^^^ c = (a ^^^ c) ^^^ b := by
  apply Nat.eq_of_testBit_eq; intro i; simp only [Nat.testBit_xor]
  cases a.testBit i <;> cases b.testBit i <;> cases c.testBit i <;> rfl
theorem stp_xor (a b : Nat) : stp (a ^^^ b) = stp a ^^^ stp b := by
  unfold stp
  rw [xor_div2, xor_mod2]
  by_cases ha : a % 2 = 1 <;> by_cases hb : b % 2 = 1
  · rw [if_neg (by omega), if_pos ha, if_pos hb, xor_xor4]
  · rw [if_pos (by omega), if_pos ha, if_neg hb, xor_swap]
  · rw [if_pos (by omega), if_neg ha, if_pos hb, Nat.xor_assoc]
  · rw [if_neg (by omega), if_neg ha, if_neg hb]
theorem stps_xor (n : Nat) : ∀ a b : Nat, stps n (a ^^^ b) = stps n a ^^^ stps n b := by
  induction n with
  | zero => intro a b; rfl
  | succ n ih => intro a b; simp only [stps, stp_xor, ih]
theorem stp_even (m : Nat) : stp (2 * m) = m := by unfold stp; rw [if_neg (by omega)]; omega
theorem stps4_shift (q : Nat) : stps 4 (16 * q) = q := by
  have e1 : stp (16 * q) = 8 * q := by rw [show 16 * q = 2 * (8 * q) by omega, stp_even]
  have e2 : stp (8 * q) = 4 * q := by rw [show 8 * q = 2 * (4 * q) by omega, stp_even]
  have e3 : stp (4 * q) = 2 * q := by rw [show 4 * q = 2 * (2 * q) by omega, stp_even]
  simp only [stps, e1, e2, e3, stp_even]
/-- The table of the fast way. -/
def half : List Nat := [0, 274646895, 549293790, 820201905, 1098587580, 1361435347, 1640403810, 1905808397, 2197175160, 2460548119, 2722870694, 2987750089, 3280807620, 3553878443, 3811616794, 4084100981]
theorem half_at : ∀ i : Fin 16, half.getD i.val 0 = stps 4 i.val := by decide
theorem half_get {i : Nat} (h : i < 16) : half.getD i 0 = stps 4 i := half_at ⟨i, h⟩
theorem half_lt : ∀ i : Fin 16, half.getD i.val 0 < 4294967296 := by decide
theorem stps4 (r : Nat) : stps 4 r = r / 16 ^^^ half.getD (r % 16) 0 := by
  have e : r = 16 * (r / 16) ^^^ r % 16 := by
    have h1 : 16 * (r / 16) ||| r % 16 = 16 * (r / 16) + r % 16 := (Nat.two_pow_add_eq_or_of_lt (i := 4) (b := r % 16) (by omega) (r / 16)).symm
    have h2 : 16 * (r / 16) &&& r % 16 = 0 := by
      apply Nat.eq_of_testBit_eq
      intro i
      rw [Nat.testBit_and, Nat.zero_testBit]
      rcases Nat.lt_or_ge i 4 with hi | hi
      · have : (16 * (r / 16)).testBit i = false := by
          rw [show 16 * (r / 16) = 2 ^ 4 * (r / 16) by omega, Nat.testBit_two_pow_mul]
          simp; omega
        rw [this]; rfl
      · have : (r % 16).testBit i = false := Nat.testBit_lt_two_pow (Nat.lt_of_lt_of_le (by omega : r % 16 < 2 ^ 4) (Nat.pow_le_pow_right (by decide) hi))
        rw [this]; simp
    apply Nat.eq_of_testBit_eq
    intro i
    have h3 := congrArg (fun n => n.testBit i) h1
    have h4 := congrArg (fun n => n.testBit i) h2
    simp only [Nat.testBit_or, Nat.testBit_and, Nat.zero_testBit] at h3 h4
    rw [show 16 * (r / 16) + r % 16 = r by omega] at h3
    rw [Nat.testBit_xor, ← h3]
    generalize (16 * (r / 16)).testBit i = x at h4
    generalize (r % 16).testBit i = y at h4
    cases x <;> cases y <;> first | rfl | cases h4
  have h5 := half_get (i := r % 16) (by omega)
  rw [h5]
  conv => lhs; rw [e]
  rw [stps_xor, stps4_shift]
theorem stps_add (m : Nat) : ∀ n r : Nat, stps (m + n) r = stps n (stps m r) := by
  induction m with
  | zero => intro n r; simp [stps]
  | succ m ih => intro n r; rw [Nat.succ_add]; simp only [stps, ih]
theorem byt_half (r : Nat) (x : UInt8) : byt r x = stps 4 (stps 4 (r ^^^ x.toNat)) := stps_add 4 4 _
/-- The slow way: a bit of each. -/
theorem stp_pair (r c : Nat) : stp (r ^^^ c) = (if r % 2 ≠ c % 2 then r / 2 ^^^ poly else r / 2) ^^^ c / 2 := by
  unfold stp
  rw [xor_div2, xor_mod2]
  by_cases h : r % 2 = c % 2
  · rw [if_neg (by omega), if_neg (by omega)]
  · rw [if_pos (by omega), if_pos h, xor_swap]
theorem stps_succ' (n r : Nat) : stps (n + 1) r = stp (stps n r) := by rw [stps_add n 1]; rfl
theorem u32_xor (a b : Nat) (ha : a < 4294967296) (hb : b < 4294967296) : Go.bits .xor .u32 (a : Int) (b : Int) = ((a ^^^ b : Nat) : Int) := by
  show Go.IntKind.u32.wrap ((BitVec.ofInt 32 (a : Int) ^^^ BitVec.ofInt 32 (b : Int)).toNat : Int) = _
  have h1 : (BitVec.ofInt 32 (a : Int)).toNat = a := by rw [BitVec.ofInt_natCast, BitVec.toNat_ofNat]; exact Nat.mod_eq_of_lt ha
  have h2 : (BitVec.ofInt 32 (b : Int)).toNat = b := by rw [BitVec.ofInt_natCast, BitVec.toNat_ofNat]; exact Nat.mod_eq_of_lt hb
  have h3 := xor_lt32 ha hb
  rw [BitVec.toNat_xor, h1, h2, IntKind.wrap_u32]
  omega
theorem u32_and15 (a : Nat) (ha : a < 4294967296) : Go.bits .and .u32 (a : Int) 15 = ((a % 16 : Nat) : Int) := by
  show Go.IntKind.u32.wrap ((BitVec.ofInt 32 (a : Int) &&& BitVec.ofInt 32 15).toNat : Int) = _
  have h1 : (BitVec.ofInt 32 (a : Int)).toNat = a := by rw [BitVec.ofInt_natCast, BitVec.toNat_ofNat]; exact Nat.mod_eq_of_lt ha
  have h2 : (BitVec.ofInt 32 15).toNat = 15 := by decide
  rw [BitVec.toNat_and, h1, h2, IntKind.wrap_u32]
  rw [show (15 : Nat) = 2 ^ 4 - 1 by rfl, Nat.and_two_pow_sub_one_eq_mod]
  omega
theorem xor_ones (a : Nat) (ha : a < 4294967296) : 4294967295 ^^^ a = 4294967295 - a := by
  have h : (4294967295 : Nat) = 2 ^ 32 - 1 := by decide
  have : (BitVec.allOnes 32 ^^^ BitVec.ofNat 32 a) = ~~~ (BitVec.ofNat 32 a) := by
    rw [BitVec.allOnes_xor]
  have := congrArg BitVec.toNat this
  simp only [BitVec.toNat_xor, BitVec.toNat_allOnes, BitVec.toNat_ofNat, BitVec.toNat_not] at this
  rw [Nat.mod_eq_of_lt (by omega : a < 2 ^ 32)] at this
  rw [h]
  omega
/-- A word's bytes, the lowest first. -/
def le4 (v : Nat) : List UInt8 := [UInt8.ofNat v, UInt8.ofNat (v / 256), UInt8.ofNat (v / 65536), UInt8.ofNat (v / 16777216)]
def wordV (l : List UInt8) : Nat := (l.getD 0 0).toNat + 256 * (l.getD 1 0).toNat + 65536 * (l.getD 2 0).toNat + 16777216 * (l.getD 3 0).toNat
theorem le4_len (v : Nat) : (le4 v).length = 4 := rfl
theorem wordV_le4 (v : Nat) (h : v < 4294967296) : wordV (le4 v) = v := by
  simp only [wordV, le4, List.getD_cons_zero, List.getD_cons_succ, UInt8.toNat_ofNat']
  omega
theorem ofNat_toNat (b : UInt8) (n : Nat) (h : n % 256 = b.toNat) : UInt8.ofNat n = b := by
  apply UInt8.toNat_inj.1
  rw [UInt8.toNat_ofNat']; exact h
theorem wordV_lt (l : List UInt8) : wordV l < 4294967296 := by
  have h0 := (l.getD 0 0).toNat_lt; have h1 := (l.getD 1 0).toNat_lt; have h2 := (l.getD 2 0).toNat_lt; have h3 := (l.getD 3 0).toNat_lt
  unfold wordV; omega
theorem le4_wordV (l : List UInt8) (h : l.length = 4) : le4 (wordV l) = l := by
  match l, h with
  | [a, b, c, d], _ =>
    have h0 := a.toNat_lt; have h1 := b.toNat_lt; have h2 := c.toNat_lt; have h3 := d.toNat_lt
    simp only [le4, wordV, List.getD_cons_zero, List.getD_cons_succ]
    rw [ofNat_toNat a _ (by omega), ofNat_toNat b _ (by omega), ofNat_toNat c _ (by omega), ofNat_toNat d _ (by omega)]
theorem u8_wrap (n : Nat) : Value.int .u8 (IntKind.u8.wrap (n : Int)) = uB (UInt8.ofNat n) := by
  unfold uB
  rw [IntKind.wrap_u8, UInt8.toNat_ofNat']
  rfl
theorem u32_or (a b : Nat) (ha : a < 4294967296) (hb : b < 4294967296) : Go.bits .or .u32 (a : Int) (b : Int) = ((a ||| b : Nat) : Int) := by
  show Go.IntKind.u32.wrap ((BitVec.ofInt 32 (a : Int) ||| BitVec.ofInt 32 (b : Int)).toNat : Int) = _
  have h1 : (BitVec.ofInt 32 (a : Int)).toNat = a := by rw [BitVec.ofInt_natCast, BitVec.toNat_ofNat]; exact Nat.mod_eq_of_lt ha
  have h2 : (BitVec.ofInt 32 (b : Int)).toNat = b := by rw [BitVec.ofInt_natCast, BitVec.toNat_ofNat]; exact Nat.mod_eq_of_lt hb
  have h3 : a ||| b < 2 ^ 32 := Nat.or_lt_two_pow ha hb
  rw [BitVec.toNat_or, h1, h2, IntKind.wrap_u32]
  omega
theorem or_add (i v x : Nat) (hv : v < 2 ^ i) : v ||| x * 2 ^ i = v + x * 2 ^ i := by
  rw [Nat.or_comm, nat_join i (x * 2 ^ i) v (Nat.mul_mod_left _ _) hv, Nat.add_comm]
/-- What is read of a frame. -/
def readFrameV (l : List UInt8) (at_ : Int) : List UInt8 × Int × Int :=
  if at_ < 0 ∨ (l.length : Int) < at_ then ([], 0, 1) else
  let m := l.drop at_.toNat
  if m.length < 8 then ([], 0, 10) else
  if wordV ((m.drop 4).take 4) ≠ crcV (m.take 4) then ([], 0, 16) else
  let n := wordV (m.take 4)
  if 1048576 < n then ([], 0, 13) else
  if m.length < 12 + n then ([], 0, 10) else
  if wordV ((m.drop (8 + n)).take 4) ≠ crcV ((m.drop 8).take n) then ([], 0, 16) else
  ((m.drop 8).take n, at_ + 12 + (n : Int), 0)
/-- A frame. -/
def frameB (body : List UInt8) : List UInt8 := le4 body.length ++ le4 (crcV (le4 body.length)) ++ body ++ le4 (crcV body)
def frameV (body : List UInt8) : List UInt8 × Int := if 1048576 < body.length then ([], 2) else (frameB body, 0)
end Go.Proofs.YtpeomdobcobdiaaDoor
