/- Plain laws of chapter 1: the four things that are written, as one. No program in sight; no condition. -/
import Derived.Test.YtpeomdobcobdiaaDoorLaw2
namespace Go.Proofs.YtpeomdobcobdiaaDoor
set_option linter.unusedVariables false
set_option linter.unusedSimpArgs false
/-- One of the four that are written. -/
structure Th where
  k : Int
  n : Int
  u : Nat
  s : ByteArray
  b : List UInt8
def th0 (q : Int) : Th := { k := q, n := 0, u := 0, s := ⟨#[]⟩, b := [] }
def mN (n : Int) : Int := if n < 0 then -(n + 1) else n
def mU (u : Nat) : Nat := if numB u = false then u ^^^ 1152921504606846976 else u
def mC (s : ByteArray) : ByteArray := if 3000 < s.size then s.extract 0 3000 else s
def mS (s : ByteArray) : ByteArray := if (runesV (mC s)).2 = false then ⟨#[195, 169]⟩ else mC s
def mend (t : Th) : Th := { k := t.k, n := mN t.n, u := mU t.u, s := mS t.s, b := t.b.take 3000 }
def wroteV (q : Int) (t : Th) : List UInt8 × Int := if q = 0 then uintV t.n else if q = 1 then floatV t.u else if q = 2 then textV t.s else frameV t.b
def readsV (q : Int) (l : List UInt8) (at_ : Int) : Th × Int × Int :=
  if q = 0 then ({ th0 q with n := (readUV l at_).1 }, (readUV l at_).2.1, (readUV l at_).2.2) else
  if q = 1 then ({ th0 q with u := (readFloatV l at_).1 }, (readFloatV l at_).2.1, (readFloatV l at_).2.2) else
  if q = 2 then ({ th0 q with s := (readTextV l at_ 1048576).1 }, (readTextV l at_ 1048576).2.1, (readTextV l at_ 1048576).2.2) else
  ({ th0 q with b := (readFrameV l at_).1 }, (readFrameV l at_).2.1, (readFrameV l at_).2.2)
def alikeV (q : Int) (a b : Th) : Bool := if q = 0 then decide (a.n = b.n) else if q = 1 then decide (a.u = b.u) else if q = 2 then decide (a.s = b.s) else decide (a.b = b.b)
/-- May it be written? -/
structure Fit (t : Th) : Prop where
  n0 : 0 ≤ t.n
  n1 : t.n < 9223372036854775808
  u0 : t.u < 18446744073709551616
  u1 : numB t.u = true
  s0 : t.s.size ≤ 3000
  s1 : (runesV t.s).2 = true
  b0 : t.b.length ≤ 3000
theorem numB_flip (u : Nat) (h : numB u = false) : numB (u ^^^ 1152921504606846976) = true := by
  unfold numB at h ⊢
  have h1 : u / 4503599627370496 % 2048 = 2047 := by simpa using h
  have e1 : (u ^^^ 1152921504606846976) / 4503599627370496 % 2048 = 1791 := by
    have a1 := @Nat.xor_div_two_pow u 1152921504606846976 52
    have a2 := @Nat.xor_mod_two_pow (u / 4503599627370496) 256 11
    rw [show (2 : Nat) ^ 52 = 4503599627370496 by decide, show 1152921504606846976 / 4503599627370496 = 256 by decide] at a1
    rw [show (2 : Nat) ^ 11 = 2048 by decide, h1] at a2
    rw [a1, a2]
    decide
  rw [e1]; decide
theorem mend_fit (t : Th) (hn : -9223372036854775808 ≤ t.n ∧ t.n ≤ 9223372036854775807) (hu : t.u < 18446744073709551616) : Fit (mend t) := by
  have hrune : (runesV ⟨#[195, 169]⟩).2 = true := by decide
  refine ⟨?_, ?_, ?_, ?_, ?_, ?_, ?_⟩
  · show 0 ≤ mN t.n
    unfold mN; split <;> omega
  · show mN t.n < _
    unfold mN; split <;> omega
  · show mU t.u < _
    unfold mU; split
    · exact Nat.xor_lt_two_pow (n := 64) hu (by decide)
    · exact hu
  · show numB (mU t.u) = true
    unfold mU; split
    · exact numB_flip _ ‹_›
    · simpa using ‹¬ numB t.u = false›
  · show (mS t.s).size ≤ 3000
    unfold mS; split
    · decide
    · unfold mC; split
      · simp; omega
      · omega
  · show (runesV (mS t.s)).2 = true
    unfold mS; split
    · exact hrune
    · simpa using ‹¬ (runesV (mC t.s)).2 = false›
  · show (t.b.take 3000).length ≤ 3000
    simp; omega
def encT (q : Int) (t : Th) : List UInt8 := if q = 0 then encU t.n.toNat else if q = 1 then leB t.u 8 else if q = 2 then textE t.s else frameB t.b
theorem wrote_fit (q : Int) (t : Th) (h : Fit t) : wroteV q t = (encT q t, 0) := by
  unfold wroteV encT
  split
  · unfold uintV; rw [if_neg (by have := h.n0; omega)]
  split
  · unfold floatV; rw [if_neg (by rw [h.u1]; simp)]
  split
  · unfold textV textE; rw [if_neg (by rw [h.s1]; simp)]
  · unfold frameV; rw [if_neg (by have := h.b0; omega)]
theorem encT_pos (q : Int) (t : Th) : 0 < (encT q t).length := by
  unfold encT
  split
  · exact encU_pos _
  split
  · rw [leB_len]; omega
  split
  · unfold textE; rw [List.length_append]; have := encU_pos t.s.size; omega
  · rw [frameB_len]; omega
theorem encT_le (q : Int) (t : Th) (h : Fit t) : (encT q t).length ≤ 3100 := by
  have h1 := h.n0; have h2 := h.n1; have h3 := h.s0; have h4 := h.b0
  unfold encT
  split
  · have := encU_len 8 t.n.toNat (by rw [show (128 : Nat) ^ (8 + 1) = 9223372036854775808 by decide]; omega); omega
  split
  · rw [leB_len]; omega
  split
  · unfold textE; rw [List.length_append, data_len]; have := encU_len 8 t.s.size (by rw [show (128 : Nat) ^ (8 + 1) = 9223372036854775808 by decide]; omega); omega
  · rw [frameB_len]; omega
theorem reads_enc (q : Int) (t : Th) (h : Fit t) (pre rest : List UInt8) : ∃ x, readsV q (pre ++ encT q t ++ rest) (pre.length : Nat) = (x, ((pre.length + (encT q t).length : Nat) : Int), 0) ∧ alikeV q t x = true := by
  have h1 := h.n0; have h2 := h.n1; have h3 := h.s0; have h4 := h.b0
  unfold readsV encT alikeV
  by_cases q0 : q = 0
  · simp only [if_pos q0]
    rw [readUV_enc _ _ _ (by omega)]
    exact ⟨_, rfl, by simp; omega⟩
  simp only [if_neg q0]
  by_cases q1 : q = 1
  · simp only [if_pos q1]
    rw [readFloat_enc _ _ _ h.u0 h.u1, leB_len]
    exact ⟨_, rfl, by simp⟩
  simp only [if_neg q1]
  by_cases q2 : q = 2
  · simp only [if_pos q2]
    rw [readText_enc _ _ _ _ (by omega) (by omega) h.s1]
    exact ⟨_, rfl, by simp⟩
  simp only [if_neg q2]
  rw [readFrame_frame _ _ _ (by omega), frameB_len]
  exact ⟨_, rfl, by simp⟩
theorem reads_cut (q : Int) (t : Th) (h : Fit t) (j : Nat) (hj : j < (encT q t).length) : (readsV q ((encT q t).take j) 0).2 = (0, 10) := by
  have h1 := h.n0; have h2 := h.n1; have h3 := h.s0; have h4 := h.b0
  unfold readsV encT at *
  by_cases q0 : q = 0
  · simp only [if_pos q0] at hj ⊢
    rw [readUV_cut _ _ (by omega) hj]
  simp only [if_neg q0] at hj ⊢
  by_cases q1 : q = 1
  · simp only [if_pos q1] at hj ⊢
    rw [readFloat_cut _ (by rw [List.length_take]; rw [leB_len] at hj ⊢; omega)]
  simp only [if_neg q1] at hj ⊢
  by_cases q2 : q = 2
  · simp only [if_pos q2] at hj ⊢
    rw [readText_cut _ _ _ (by omega) (by omega) hj]
  simp only [if_neg q2] at hj ⊢
  rw [readFrame_cut _ (by omega) _ (by rw [frameB_len] at hj; exact hj)]
theorem reads_back (q : Int) (l : List UInt8) (at_ : Int) (h : (readsV q l at_).2.2 = 0) : 0 ≤ at_ ∧ ∃ c : List UInt8, wroteV q (readsV q l at_).1 = (c, 0) ∧ 0 < c.length ∧ (readsV q l at_).2.1 = at_ + c.length ∧ at_.toNat + c.length ≤ l.length ∧ (l.drop at_.toNat).take c.length = c := by
  unfold readsV wroteV at *
  by_cases q0 : q = 0
  · simp only [if_pos q0] at h ⊢
    obtain ⟨m, g0, g1, g2, g3⟩ := readUV_back l at_ h
    rw [g1]
    refine ⟨g0, encU m, ?_, encU_pos m, rfl, g3, g2⟩
    exact uintV_nat m
  simp only [if_neg q0] at h ⊢
  by_cases q1 : q = 1
  · simp only [if_pos q1] at h ⊢
    obtain ⟨g0, g1, g2, g3, g4, g5⟩ := readFloat_back l at_ h
    have hl := leB_len 8 (readFloatV l at_).1
    refine ⟨g0, leB (readFloatV l at_).1 8, ?_, by omega, by rw [hl]; exact g1, by omega, by rw [hl]; exact g5.symm⟩
    unfold floatV
    rw [if_neg (by rw [g3]; simp)]
  simp only [if_neg q1] at h ⊢
  by_cases q2 : q = 2
  · simp only [if_pos q2] at h ⊢
    obtain ⟨g0, g1, g2, g3, g4, g5⟩ := readText_back l at_ _ h
    refine ⟨g0, textE (readTextV l at_ 1048576).1, ?_, ?_, g3, g4, g5⟩
    · unfold textV textE
      rw [if_neg (by rw [g1]; simp)]
    · unfold textE; rw [List.length_append]; have := encU_pos (readTextV l at_ 1048576).1.size; omega
  simp only [if_neg q2] at h ⊢
  obtain ⟨g0, g1, g2, g3, g4⟩ := readFrame_back l at_ h
  refine ⟨g0, frameB (readFrameV l at_).1, ?_, by rw [frameB_len]; omega, g2, g3, g4⟩
  unfold frameV
  rw [if_neg (by omega)]
theorem alike_join (q : Int) (s t x : Th) (h1 : alikeV q s x = true) (h2 : alikeV q t x = true) : alikeV q s t = true := by
  unfold alikeV at *
  by_cases q0 : q = 0
  · simp only [if_pos q0, decide_eq_true_eq] at *; rw [h1, h2]
  simp only [if_neg q0] at *
  by_cases q1 : q = 1
  · simp only [if_pos q1, decide_eq_true_eq] at *; rw [h1, h2]
  simp only [if_neg q1] at *
  by_cases q2 : q = 2
  · simp only [if_pos q2, decide_eq_true_eq] at *; rw [h1, h2]
  simp only [if_neg q2, decide_eq_true_eq] at *; rw [h1, h2]
theorem alike_self (q : Int) (s : Th) : alikeV q s s = true := by
  unfold alikeV
  by_cases q0 : q = 0
  · simp only [if_pos q0, decide_eq_true_eq]
  simp only [if_neg q0]
  by_cases q1 : q = 1
  · simp only [if_pos q1, decide_eq_true_eq]
  simp only [if_neg q1]
  by_cases q2 : q = 2
  · simp only [if_pos q2, decide_eq_true_eq]
  simp only [if_neg q2, decide_eq_true_eq]
theorem alike_enc (q : Int) (s t : Th) (hs : Fit s) (ht : Fit t) : encT q s = encT q t ↔ alikeV q s t = true := by
  constructor
  · intro h
    obtain ⟨x, h1, h2⟩ := reads_enc q s hs [] []
    obtain ⟨y, h3, h4⟩ := reads_enc q t ht [] []
    rw [h] at h1
    rw [h1] at h3
    injection h3 with h3
    subst h3
    exact alike_join q s t _ h2 h4
  · intro h
    unfold alikeV at h
    unfold encT
    split
    · rename_i q0; rw [if_pos q0] at h; rw [show s.n = t.n by simpa using h]
    rename_i q0; rw [if_neg q0] at h
    split
    · rename_i q1; rw [if_pos q1] at h; rw [show s.u = t.u by simpa using h]
    rename_i q1; rw [if_neg q1] at h
    split
    · rename_i q2; rw [if_pos q2] at h; rw [show s.s = t.s by simpa using h]
    rename_i q2; rw [if_neg q2] at h
    rw [show s.b = t.b by simpa using h]
/-- Neither's bytes begin the other's. -/
theorem unlike_law (q : Int) (s t : Th) (hs : Fit s) (ht : Fit t) : decide ((encT q s).take (min (encT q s).length (encT q t).length) = (encT q t).take (min (encT q s).length (encT q t).length)) = alikeV q s t := by
  have key : ∀ s t : Th, Fit s → Fit t → (encT q s).length ≤ (encT q t).length → encT q s = (encT q t).take (encT q s).length → alikeV q s t = true := by
    intro s t hs ht hl he
    obtain ⟨x, h1, h2⟩ := reads_enc q s hs [] ((encT q t).drop (encT q s).length)
    obtain ⟨y, h3, h4⟩ := reads_enc q t ht [] []
    have e : [] ++ encT q s ++ (encT q t).drop (encT q s).length = [] ++ encT q t ++ [] := by
      simp only [List.nil_append, List.append_nil]
      conv => lhs; arg 1; rw [he]
      exact List.take_append_drop _ _
    rw [e, h3] at h1
    injection h1 with h1
    subst h1
    exact alike_join q s t _ h2 h4
  rw [Bool.eq_iff_iff, decide_eq_true_eq]
  constructor
  · intro h
    rcases Nat.le_total (encT q s).length (encT q t).length with hl | hl
    · rw [Nat.min_eq_left hl, List.take_length] at h
      exact key s t hs ht hl h
    · rw [Nat.min_eq_right hl, List.take_length] at h
      exact alike_join q s t t (alike_join q s t s (alike_self q s) (key t s ht hs hl h.symm)) (alike_self q t)
  · intro h
    rw [(alike_enc q s t hs ht).2 h]
end Go.Proofs.YtpeomdobcobdiaaDoor
