/- Plain words for chapter 6: shapes, layers, what may be. No program in sight; no condition. -/
import Derived.Test.YtkfhablonnjgeaaLibV
namespace Go.Proofs.Ytkfhablonnjgeaa
set_option linter.unusedVariables false
set_option linter.unusedSimpArgs false
abbrev Sv := Option Addr × Nat × Nat
@[reducible] def svV (x : Sv) : Value := .slice x.1 x.2.1 x.2.2
structure Sh where
  c : Int
  h : Int
  w : Int
@[reducible] def shC (s : Sh) : List Value := [.int .i64 s.c, .int .i64 s.h, .int .i64 s.w]
@[reducible] def i64 (x : Int) : Prop := -9223372036854775808 ≤ x ∧ x ≤ 9223372036854775807
structure Sh.ok (s : Sh) : Prop where
  c : i64 s.c
  h : i64 s.h
  w : i64 s.w
/-- A layer: its fields, A's bits, and its lists as slices. -/
structure Ly where
  k : Int
  out : Int
  kh : Int
  kw : Int
  sh : Int
  sw : Int
  ph : Int
  pw : Int
  fr : Int
  a : Nat
  W : Sv
  B : Sv
  Z : Sv
  ZB : Sv
@[reducible] def lyC (L : Ly) : List Value := [.int .i64 L.k, .int .i64 L.out, .int .i64 L.kh, .int .i64 L.kw, .int .i64 L.sh, .int .i64 L.sw, .int .i64 L.ph, .int .i64 L.pw, .int .i64 L.fr, .float .f64 L.a, svV L.W, svV L.B, svV L.Z, svV L.ZB]
structure Ly.ok (L : Ly) : Prop where
  k : i64 L.k
  out : i64 L.out
  kh : i64 L.kh
  kw : i64 L.kw
  sh : i64 L.sh
  sw : i64 L.sw
  ph : i64 L.ph
  pw : i64 L.pw
  fr : i64 L.fr
  a : L.a < 18446744073709551616
/-- Are these a number's bits? -/
def nmB (u : Nat) : Bool := !decide (u / 4503599627370496 % 2048 = 2047)
def szBad (s : Sh) : Prop := s.c < 1 ∨ s.h < 1 ∨ s.w < 1 ∨ 256 < s.c ∨ 256 < s.h ∨ 256 < s.w ∨ 256 < s.c * s.h * s.w
instance (s : Sh) : Decidable (szBad s) := by unfold szBad; infer_instance
def sizeV (s : Sh) : Int × Int := if szBad s then (0, 60) else (s.c * s.h * s.w, 0)
theorem mul_bd {a b A B : Int} (h1 : 1 ≤ a) (h2 : a ≤ A) (h3 : 1 ≤ b) (h4 : b ≤ B) : 1 ≤ a * b ∧ a * b ≤ A * B := by
  refine ⟨?_, Int.mul_le_mul h2 h4 (by omega) (by omega)⟩
  have := Int.mul_le_mul h1 h3 (by omega) (by omega)
  omega
theorem mul_bd0 {a b A B : Int} (h1 : 0 ≤ a) (h2 : a ≤ A) (h3 : 0 ≤ b) (h4 : b ≤ B) : 0 ≤ a * b ∧ a * b ≤ A * B :=
  ⟨Int.mul_nonneg h1 h3, Int.mul_le_mul h2 h4 h3 (by omega)⟩
theorem div_bd {a b : Int} (h0 : 0 ≤ a) (h1 : 1 ≤ b) : 0 ≤ a / b ∧ a / b ≤ a := ⟨Int.ediv_nonneg h0 (by omega), Int.ediv_le_self b h0⟩
def winV (kind : Int) : Prop := kind = 2 ∨ kind = 4 ∨ kind = 12
instance (k : Int) : Decidable (winV k) := by unfold winV; infer_instance
/-- From where to where the fields may be. -/
def bndC (k kh kw : Int) : List Value :=
  if k = 1 then [.int .i64 1, .int .i64 256, .int .i64 0, .int .i64 0, .int .i64 0, .int .i64 0, .int .i64 0, .int .i64 0, .int .i64 0, .int .i64 0, .int .i64 0, .int .i64 0, .int .i64 0, .int .i64 0, .int .i64 0, .int .i64 0] else
  if k = 6 then [.int .i64 1, .int .i64 128, .int .i64 0, .int .i64 0, .int .i64 0, .int .i64 0, .int .i64 0, .int .i64 0, .int .i64 0, .int .i64 0, .int .i64 0, .int .i64 0, .int .i64 0, .int .i64 0, .int .i64 0, .int .i64 0] else
  if k = 5 then [.int .i64 0, .int .i64 0, .int .i64 0, .int .i64 0, .int .i64 0, .int .i64 0, .int .i64 0, .int .i64 0, .int .i64 0, .int .i64 0, .int .i64 0, .int .i64 0, .int .i64 0, .int .i64 0, .int .i64 0, .int .i64 64] else
  if k = 2 then [.int .i64 1, .int .i64 256, .int .i64 1, .int .i64 16, .int .i64 1, .int .i64 16, .int .i64 1, .int .i64 16, .int .i64 1, .int .i64 16, .int .i64 0, .int .i64 (IntKind.i64.wrap (kh - 1)), .int .i64 0, .int .i64 (IntKind.i64.wrap (kw - 1)), .int .i64 0, .int .i64 0] else
  if k = 4 ∨ k = 12 then [.int .i64 0, .int .i64 0, .int .i64 1, .int .i64 16, .int .i64 1, .int .i64 16, .int .i64 1, .int .i64 16, .int .i64 1, .int .i64 16, .int .i64 0, .int .i64 (IntKind.i64.wrap (kh - 1)), .int .i64 0, .int .i64 (IntKind.i64.wrap (kw - 1)), .int .i64 0, .int .i64 0] else
  [.int .i64 0, .int .i64 0, .int .i64 0, .int .i64 0, .int .i64 0, .int .i64 0, .int .i64 0, .int .i64 0, .int .i64 0, .int .i64 0, .int .i64 0, .int .i64 0, .int .i64 0, .int .i64 0, .int .i64 0, .int .i64 0]
/-- The same as numbers. -/
def bndI (k kh kw : Int) : List Int :=
  if k = 1 then [1, 256, 0, 0, 0, 0, 0, 0, 0, 0, 0, 0, 0, 0, 0, 0] else if k = 6 then [1, 128, 0, 0, 0, 0, 0, 0, 0, 0, 0, 0, 0, 0, 0, 0] else
  if k = 5 then [0, 0, 0, 0, 0, 0, 0, 0, 0, 0, 0, 0, 0, 0, 0, 64] else
  if k = 2 then [1, 256, 1, 16, 1, 16, 1, 16, 1, 16, 0, IntKind.i64.wrap (kh - 1), 0, IntKind.i64.wrap (kw - 1), 0, 0] else
  if k = 4 ∨ k = 12 then [0, 0, 1, 16, 1, 16, 1, 16, 1, 16, 0, IntKind.i64.wrap (kh - 1), 0, IntKind.i64.wrap (kw - 1), 0, 0] else
  [0, 0, 0, 0, 0, 0, 0, 0, 0, 0, 0, 0, 0, 0, 0, 0]
theorem bndC_eq (k kh kw : Int) : bndC k kh kw = (bndI k kh kw).map (Value.int .i64) := by
  unfold bndC bndI
  by_cases h1 : k = 1
  · rw [if_pos h1, if_pos h1]; rfl
  rw [if_neg h1, if_neg h1]
  by_cases h2 : k = 6
  · rw [if_pos h2, if_pos h2]; rfl
  rw [if_neg h2, if_neg h2]
  by_cases h3 : k = 5
  · rw [if_pos h3, if_pos h3]; rfl
  rw [if_neg h3, if_neg h3]
  by_cases h4 : k = 2
  · rw [if_pos h4, if_pos h4]; rfl
  rw [if_neg h4, if_neg h4]
  by_cases h5 : k = 4 ∨ k = 12
  · rw [if_pos h5, if_pos h5]; rfl
  rw [if_neg h5, if_neg h5]; rfl
def bndA (k : Int) : Bool := decide (k = 4 ∨ k = 8)
/-- Do the fields lie within? -/
def fldOk (L : Ly) : Prop :=
  (if L.k = 1 ∨ L.k = 2 then 1 ≤ L.out ∧ L.out ≤ 256 else if L.k = 6 then 1 ≤ L.out ∧ L.out ≤ 128 else L.out = 0) ∧
  (if L.k = 2 ∨ L.k = 4 ∨ L.k = 12 then (1 ≤ L.kh ∧ L.kh ≤ 16) ∧ (1 ≤ L.kw ∧ L.kw ≤ 16) ∧ (1 ≤ L.sh ∧ L.sh ≤ 16) ∧ (1 ≤ L.sw ∧ L.sw ≤ 16) ∧ (0 ≤ L.ph ∧ L.ph ≤ L.kh - 1) ∧ (0 ≤ L.pw ∧ L.pw ≤ L.kw - 1) else L.kh = 0 ∧ L.kw = 0 ∧ L.sh = 0 ∧ L.sw = 0 ∧ L.ph = 0 ∧ L.pw = 0) ∧
  (if L.k = 5 then 0 ≤ L.fr ∧ L.fr ≤ 64 else L.fr = 0)
instance (L : Ly) : Decidable (fldOk L) := by unfold fldOk; infer_instance
@[reducible] def fldI (L : Ly) : List Int := [L.out, L.kh, L.kw, L.sh, L.sw, L.ph, L.pw, L.fr]
def fitAt (L : Ly) (j : Nat) : Prop := (bndI L.k L.kh L.kw).getD (2 * j) 0 ≤ (fldI L).getD j 0 ∧ (fldI L).getD j 0 ≤ (bndI L.k L.kh L.kw).getD (2 * j + 1) 0
theorem fits_iff (L : Ly) : (∀ j, j < 8 → fitAt L j) ↔ fldOk L := by
  obtain ⟨k, out, kh, kw, sh, sw, ph, pw, fr, a, W, B, Z, ZB⟩ := L
  have e8 : (∀ j, j < 8 → fitAt ⟨k, out, kh, kw, sh, sw, ph, pw, fr, a, W, B, Z, ZB⟩ j) ↔ fitAt ⟨k, out, kh, kw, sh, sw, ph, pw, fr, a, W, B, Z, ZB⟩ 0 ∧ fitAt ⟨k, out, kh, kw, sh, sw, ph, pw, fr, a, W, B, Z, ZB⟩ 1 ∧ fitAt ⟨k, out, kh, kw, sh, sw, ph, pw, fr, a, W, B, Z, ZB⟩ 2 ∧ fitAt ⟨k, out, kh, kw, sh, sw, ph, pw, fr, a, W, B, Z, ZB⟩ 3 ∧ fitAt ⟨k, out, kh, kw, sh, sw, ph, pw, fr, a, W, B, Z, ZB⟩ 4 ∧ fitAt ⟨k, out, kh, kw, sh, sw, ph, pw, fr, a, W, B, Z, ZB⟩ 5 ∧ fitAt ⟨k, out, kh, kw, sh, sw, ph, pw, fr, a, W, B, Z, ZB⟩ 6 ∧ fitAt ⟨k, out, kh, kw, sh, sw, ph, pw, fr, a, W, B, Z, ZB⟩ 7 := by
    constructor
    · intro h; exact ⟨h 0 (by decide), h 1 (by decide), h 2 (by decide), h 3 (by decide), h 4 (by decide), h 5 (by decide), h 6 (by decide), h 7 (by decide)⟩
    · rintro ⟨h0, h1, h2, h3, h4, h5, h6, h7⟩ j hj
      match j, hj with
      | 0, _ => exact h0
      | 1, _ => exact h1
      | 2, _ => exact h2
      | 3, _ => exact h3
      | 4, _ => exact h4
      | 5, _ => exact h5
      | 6, _ => exact h6
      | 7, _ => exact h7
  rw [e8]
  unfold fitAt fldOk bndI
  simp only
  by_cases h1 : k = 1
  · simp only [if_pos h1, if_pos (show k = 1 ∨ k = 2 by omega), if_neg (show ¬ (k = 2 ∨ k = 4 ∨ k = 12) by omega), if_neg (show ¬ k = 5 by omega), List.getD_cons_succ, List.getD_cons_zero, Nat.mul_zero, Nat.reduceMul, Nat.reduceAdd]; omega
  simp only [if_neg h1]
  by_cases h2 : k = 6
  · simp only [if_pos h2, if_neg (show ¬ (k = 1 ∨ k = 2) by omega), if_neg (show ¬ (k = 2 ∨ k = 4 ∨ k = 12) by omega), if_neg (show ¬ k = 5 by omega), List.getD_cons_succ, List.getD_cons_zero, Nat.mul_zero, Nat.reduceMul, Nat.reduceAdd]; omega
  simp only [if_neg h2]
  by_cases h3 : k = 5
  · simp only [if_pos h3, if_neg (show ¬ (k = 1 ∨ k = 2) by omega), if_neg (show ¬ (k = 2 ∨ k = 4 ∨ k = 12) by omega), List.getD_cons_succ, List.getD_cons_zero, Nat.mul_zero, Nat.reduceMul, Nat.reduceAdd]; omega
  simp only [if_neg h3]
  by_cases h4 : k = 2
  · simp only [if_pos h4, if_pos (show k = 1 ∨ k = 2 by omega), if_pos (show (k = 2 ∨ k = 4 ∨ k = 12) by omega), List.getD_cons_succ, List.getD_cons_zero, Nat.mul_zero, Nat.reduceMul, Nat.reduceAdd, IntKind.wrap_i64]; omega
  simp only [if_neg h4, if_neg (show ¬ (k = 1 ∨ k = 2) by omega)]
  by_cases h5 : k = 4 ∨ k = 12
  · simp only [if_pos h5, if_pos (show (k = 2 ∨ k = 4 ∨ k = 12) by omega), List.getD_cons_succ, List.getD_cons_zero, Nat.mul_zero, Nat.reduceMul, Nat.reduceAdd, IntKind.wrap_i64]; omega
  simp only [if_neg h5, if_neg (show ¬ (k = 2 ∨ k = 4 ∨ k = 12) by omega), List.getD_cons_succ, List.getD_cons_zero, Nat.mul_zero, Nat.reduceMul, Nat.reduceAdd]; omega
/-- Is A outside 0 to 1? -/
def aOut (a : Nat) : Bool := (FloatKind.f64.format.order a 0 == some .lt) || (FloatKind.f64.format.order a 4607182418800017408 == some .gt)
def fieldsV (L : Ly) : Int :=
  if L.k < 1 ∨ 12 < L.k then 61 else if ¬ fldOk L then 62 else
  if bndA L.k = false ∧ L.a ≠ 0 then 62 else if bndA L.k = true ∧ nmB L.a = false then 64 else if L.k = 8 ∧ aOut L.a = true then 62 else 0
theorem fv_61 {L : Ly} (h1 : L.k < 1 ∨ 12 < L.k) : fieldsV L = 61 := by unfold fieldsV; rw [if_pos h1]
theorem fv_62 {L : Ly} (h1 : ¬ (L.k < 1 ∨ 12 < L.k)) (h2 : ¬ fldOk L) : fieldsV L = 62 := by unfold fieldsV; rw [if_neg h1, if_pos h2]
theorem fv_62a {L : Ly} (h1 : ¬ (L.k < 1 ∨ 12 < L.k)) (h2 : fldOk L) (h3 : bndA L.k = false) (h4 : L.a ≠ 0) : fieldsV L = 62 := by unfold fieldsV; rw [if_neg h1, if_neg (fun h => h h2), if_pos ⟨h3, h4⟩]
theorem fv_0a {L : Ly} (h1 : ¬ (L.k < 1 ∨ 12 < L.k)) (h2 : fldOk L) (h3 : bndA L.k = false) (h4 : L.a = 0) : fieldsV L = 0 := by
  unfold fieldsV
  have h8 : L.k ≠ 8 := fun h => by rw [h] at h3; exact absurd h3 (by decide)
  rw [if_neg h1, if_neg (fun h => h h2), if_neg (fun h => h.2 h4), if_neg (fun h => by rw [h3] at h; exact absurd h.1 (by decide)), if_neg (fun h => h8 h.1)]
theorem fv_64 {L : Ly} (h1 : ¬ (L.k < 1 ∨ 12 < L.k)) (h2 : fldOk L) (h3 : bndA L.k = true) (h4 : nmB L.a = false) : fieldsV L = 64 := by
  unfold fieldsV; rw [if_neg h1, if_neg (fun h => h h2), if_neg (fun h => by rw [h3] at h; exact absurd h.1 (by decide)), if_pos ⟨h3, h4⟩]
theorem fv_62b {L : Ly} (h1 : ¬ (L.k < 1 ∨ 12 < L.k)) (h2 : fldOk L) (h3 : bndA L.k = true) (h4 : nmB L.a = true) (h5 : L.k = 8) (h6 : aOut L.a = true) : fieldsV L = 62 := by
  unfold fieldsV; rw [if_neg h1, if_neg (fun h => h h2), if_neg (fun h => by rw [h3] at h; exact absurd h.1 (by decide)), if_neg (fun h => by rw [h4] at h; exact absurd h.2 (by decide)), if_pos ⟨h5, h6⟩]
theorem fv_0b {L : Ly} (h1 : ¬ (L.k < 1 ∨ 12 < L.k)) (h2 : fldOk L) (h3 : bndA L.k = true) (h4 : nmB L.a = true) (h5 : L.k ≠ 8) : fieldsV L = 0 := by
  unfold fieldsV; rw [if_neg h1, if_neg (fun h => h h2), if_neg (fun h => by rw [h3] at h; exact absurd h.1 (by decide)), if_neg (fun h => by rw [h4] at h; exact absurd h.2 (by decide)), if_neg (fun h => h5 h.1)]
theorem fv_0c {L : Ly} (h1 : ¬ (L.k < 1 ∨ 12 < L.k)) (h2 : fldOk L) (h3 : bndA L.k = true) (h4 : nmB L.a = true) (h6 : aOut L.a = false) : fieldsV L = 0 := by
  unfold fieldsV; rw [if_neg h1, if_neg (fun h => h h2), if_neg (fun h => by rw [h3] at h; exact absurd h.1 (by decide)), if_neg (fun h => by rw [h4] at h; exact absurd h.2 (by decide)), if_neg (fun h => by rw [h6] at h; exact absurd h.2 (by decide))]
/-- The shape that a layer tells, before its size is asked. -/
def outS (L : Ly) (s : Sh) : Sh :=
  if L.k = 1 then ⟨L.out, 1, 1⟩ else if L.k = 6 then ⟨2 * L.out, 1, 1⟩ else
  if winV L.k then ⟨if L.k = 2 then L.out else s.c, (s.h + 2 * L.ph - L.kh) / L.sh + 1, (s.w + 2 * L.pw - L.kw) / L.sw + 1⟩ else s
def outV (L : Ly) (s : Sh) : Sh × Int :=
  if fieldsV L ≠ 0 then (⟨0, 0, 0⟩, fieldsV L) else
  if szBad s then (⟨0, 0, 0⟩, 60) else
  if winV L.k ∧ (s.h + 2 * L.ph - L.kh < 0 ∨ s.w + 2 * L.pw - L.kw < 0) then (⟨0, 0, 0⟩, 60) else
  if L.k = 6 ∧ (s.c * s.h * s.w) % 2 = 1 then (⟨0, 0, 0⟩, 60) else
  if szBad (outS L s) then (⟨0, 0, 0⟩, 60) else (outS L s, 0)
/-- How long the lists must be. -/
def lensV (L : Ly) (s : Sh) : Int × Int × Int × Int :=
  if L.k = 1 then (L.out * (s.c * s.h * s.w), L.out, 0, 0) else if L.k = 2 then (L.out * s.c * L.kh * L.kw, L.out, 0, 0) else
  if L.k = 3 then (s.c, s.c, 0, 0) else if L.k = 6 then (0, 0, L.out * (s.c * s.h * s.w) / 2, L.out) else (0, 0, 0, 0)
def listsV (L : Ly) (s : Sh) : (Int × Int × Int × Int) × Int := if (outV L s).2 ≠ 0 then ((0, 0, 0, 0), (outV L s).2) else (lensV L s, 0)
theorem fv_zero {L : Ly} (h : fieldsV L = 0) : 1 ≤ L.k ∧ L.k ≤ 12 ∧ fldOk L := by
  unfold fieldsV at h
  by_cases h1 : L.k < 1 ∨ 12 < L.k
  · rw [if_pos h1] at h; exact absurd h (by decide)
  rw [if_neg h1] at h
  by_cases h2 : fldOk L
  · exact ⟨by omega, by omega, h2⟩
  · rw [if_pos h2] at h; exact absurd h (by decide)
theorem fld_win {L : Ly} (h : fldOk L) (hw : winV L.k) : (1 ≤ L.kh ∧ L.kh ≤ 16) ∧ (1 ≤ L.kw ∧ L.kw ≤ 16) ∧ (1 ≤ L.sh ∧ L.sh ≤ 16) ∧ (1 ≤ L.sw ∧ L.sw ≤ 16) ∧ (0 ≤ L.ph ∧ L.ph ≤ L.kh - 1) ∧ (0 ≤ L.pw ∧ L.pw ≤ L.kw - 1) := by
  have := h.2.1
  unfold winV at hw
  rw [if_pos hw] at this
  exact this
theorem fld_out {L : Ly} (h : fldOk L) : 0 ≤ L.out ∧ L.out ≤ 256 := by
  have := h.1
  split at this
  · omega
  · split at this <;> omega
theorem sz_good {s : Sh} (h : ¬ szBad s) : (1 ≤ s.c ∧ s.c ≤ 256) ∧ (1 ≤ s.h ∧ s.h ≤ 256) ∧ (1 ≤ s.w ∧ s.w ≤ 256) ∧ 1 ≤ s.c * s.h * s.w ∧ s.c * s.h * s.w ≤ 256 := by
  unfold szBad at h
  have b1 := mul_bd (a := s.c) (b := s.h) (A := 256) (B := 256) (by omega) (by omega) (by omega) (by omega)
  have b2 := mul_bd (a := s.c * s.h) (b := s.w) (A := 65536) (B := 256) (by omega) (by omega) (by omega) (by omega)
  omega
theorem sizeV_ok {s : Sh} (h : (sizeV s).2 = 0) : ¬ szBad s ∧ (sizeV s).1 = s.c * s.h * s.w := by
  unfold sizeV at h ⊢
  by_cases hb : szBad s
  · rw [if_pos hb] at h; exact absurd h (by decide)
  · rw [if_neg hb]; exact ⟨hb, rfl⟩
theorem sizeV_bad {s : Sh} (h : (sizeV s).2 ≠ 0) : szBad s ∧ (sizeV s).2 = 60 := by
  unfold sizeV at h ⊢
  by_cases hb : szBad s
  · rw [if_pos hb]; exact ⟨hb, rfl⟩
  · rw [if_neg hb] at h; exact absurd rfl h
end Go.Proofs.Ytkfhablonnjgeaa
