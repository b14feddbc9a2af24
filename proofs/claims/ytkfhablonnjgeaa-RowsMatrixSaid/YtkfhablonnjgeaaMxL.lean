/- Plain words for RowsMatrix: a row times the input is what is written out by loops. No program in sight; no condition. -/
import Derived.Test.YtkfhablonnjgeaaWnL
namespace Go.Proofs.Ytkfhablonnjgeaa
set_option linter.unusedVariables false
set_option linter.unusedSimpArgs false
/-- A sum of n numbers. -/
def sumN (g : Nat → Int) : Nat → Int
  | 0 => 0
  | n + 1 => sumN g n + g n
theorem sumN_congr {g h : Nat → Int} : ∀ {n : Nat}, (∀ i, i < n → g i = h i) → sumN g n = sumN h n
  | 0, _ => rfl
  | n + 1, H => by unfold sumN; rw [sumN_congr fun i hi => H i (by omega), H n (by omega)]
theorem sumN_add (g h : Nat → Int) : ∀ n, sumN (fun i => g i + h i) n = sumN g n + sumN h n
  | 0 => rfl
  | n + 1 => by unfold sumN; rw [sumN_add]; omega
theorem sumN_zero : ∀ n, sumN (fun _ => 0) n = 0
  | 0 => rfl
  | n + 1 => by unfold sumN; rw [sumN_zero]; rfl
theorem sumN_comm (g : Nat → Nat → Int) : ∀ n m, sumN (fun i => sumN (fun j => g i j) m) n = sumN (fun j => sumN (fun i => g i j) n) m
  | 0, m => by
    show 0 = _
    rw [show (fun j => sumN (fun i => g i j) 0) = fun _ => (0 : Int) from rfl, sumN_zero]
  | n + 1, m => by
    show sumN (fun i => sumN (fun j => g i j) m) n + sumN (fun j => g n j) m = _
    rw [sumN_comm g n m, ← sumN_add]
    rfl
theorem sumN_two (g : Nat → Int) : ∀ m, sumN g (2 * m) = sumN (fun j => g (2 * j) + g (2 * j + 1)) m
  | 0 => rfl
  | m + 1 => by
    show sumN g (2 * m) + g (2 * m) + g (2 * m + 1) = sumN (fun j => g (2 * j) + g (2 * j + 1)) m + (g (2 * m) + g (2 * m + 1))
    rw [sumN_two g m]
    omega
theorem sumN_abs {g : Nat → Int} {B : Int} : ∀ {n : Nat}, (∀ i, i < n → -B ≤ g i ∧ g i ≤ B) → -(B * n) ≤ sumN g n ∧ sumN g n ≤ B * n
  | 0, _ => by simp [sumN]
  | n + 1, H => by
    have h1 := sumN_abs (n := n) fun i hi => H i (by omega)
    have h2 := H n (by omega)
    have e : B * ((n + 1 : Nat) : Int) = B * n + B := by rw [show ((n + 1 : Nat) : Int) = (n : Int) + 1 by omega, Int.mul_add, Int.mul_one]
    unfold sumN
    omega
/-- A small whole number as a number, and back. -/
def fI (n : Int) : Nat := FloatKind.f64.nearest n
def iF (u : Nat) : Int := ((FloatKind.f64.decode u).toInt .zero).getD 0
def sm2 (u : Nat) : Prop := ∃ n : Int, (-9 ≤ n ∧ n ≤ 9) ∧ (FloatKind.f64.decode u).toInt .zero = some n
def sm (u : Nat) : Prop := ∃ n : Int, (-9 ≤ n ∧ n ≤ 9) ∧ u = fI n
def fIok (n : Int) : Bool := decide ((FloatKind.f64.decode (fI n)).toInt .zero = some n) && decide ((FloatKind.f64.decode (ngB (fI n))).toInt .zero = some (-n)) && decide (fI n < 18446744073709551616) && nmB (fI n)
def smalls : List Int := [-9, -8, -7, -6, -5, -4, -3, -2, -1, 0, 1, 2, 3, 4, 5, 6, 7, 8, 9]
theorem fI_tab : smalls.all fIok = true := by kernel_rfl
theorem fI_all {n : Int} (h : -9 ≤ n ∧ n ≤ 9) : fIok n = true := by
  have h2 : n ∈ smalls := by unfold smalls; simp only [List.mem_cons, List.not_mem_nil, or_false]; omega
  exact List.all_eq_true.1 fI_tab n h2
theorem fI_int {n : Int} (h : -9 ≤ n ∧ n ≤ 9) : (FloatKind.f64.decode (fI n)).toInt .zero = some n := by
  have := fI_all h; unfold fIok at this; simp only [Bool.and_eq_true, decide_eq_true_eq] at this; exact this.1.1.1
theorem fI_ng {n : Int} (h : -9 ≤ n ∧ n ≤ 9) : (FloatKind.f64.decode (ngB (fI n))).toInt .zero = some (-n) := by
  have := fI_all h; unfold fIok at this; simp only [Bool.and_eq_true, decide_eq_true_eq] at this; exact this.1.1.2
theorem fI_lt {n : Int} (h : -9 ≤ n ∧ n ≤ 9) : fI n < 18446744073709551616 := by
  have := fI_all h; unfold fIok at this; simp only [Bool.and_eq_true, decide_eq_true_eq] at this; exact this.1.2
theorem fI_nm {n : Int} (h : -9 ≤ n ∧ n ≤ 9) : nmB (fI n) = true := by
  have := fI_all h; unfold fIok at this; simp only [Bool.and_eq_true, decide_eq_true_eq] at this; exact this.2
theorem sm.two {u : Nat} (h : sm u) : sm2 u := by
  obtain ⟨n, hn, rfl⟩ := h; exact ⟨n, hn, fI_int hn⟩
theorem sm.neg {u : Nat} (h : sm u) : sm2 (ngB u) ∧ iF (ngB u) = -iF u := by
  obtain ⟨n, hn, rfl⟩ := h
  refine ⟨⟨-n, by omega, fI_ng hn⟩, ?_⟩
  unfold iF; rw [fI_ng hn, fI_int hn]; rfl
theorem sm2.toI {u : Nat} (h : sm2 u) : (FloatKind.f64.decode u).toInt .zero = some (iF u) ∧ -9 ≤ iF u ∧ iF u ≤ 9 := by
  obtain ⟨n, hn, h⟩ := h; unfold iF; rw [h]; exact ⟨rfl, hn⟩
theorem sm_zero : sm 0 := ⟨0, by omega, by kernel_rfl⟩
theorem iF_zero : iF 0 = 0 := by kernel_rfl
/-- A list of small whole numbers. -/
abbrev smL (l : List Nat) : Prop := ∀ u ∈ l, sm u
theorem smL.at {l : List Nat} (h : smL l) (i : Nat) : sm (l.getD i 0) := by
  rw [List.getD_eq_getElem?_getD]
  cases hi : l[i]? with
  | none => exact sm_zero
  | some x => exact h x (List.mem_of_getElem? hi)
abbrev smP (l : List (Nat × Nat)) : Prop := ∀ u ∈ l, sm u.1 ∧ sm u.2
theorem smP.at {l : List (Nat × Nat)} (h : smP l) (i : Nat) : sm (l.getD i (0, 0)).1 ∧ sm (l.getD i (0, 0)).2 := by
  rw [List.getD_eq_getElem?_getD]
  cases hi : l[i]? with
  | none => exact ⟨sm_zero, sm_zero⟩
  | some x => exact h x (List.mem_of_getElem? hi)
/-- The input at a channel, row and column; 0 outside. -/
def atV (v : List Int) (s : Sh) (c y x : Int) : Int := if y < 0 ∨ s.h ≤ y ∨ x < 0 ∨ s.w ≤ x then 0 else v.getD ((c * s.h + y) * s.w + x).toNat 0
def denseS (lw lb : List Nat) (n : Nat) (v : List Int) (i : Nat) : Int := iF (lb.getD i 0) + sumN (fun j => iF (lw.getD (i * n + j) 0) * v.getD j 0) n
def scaleS (lw lb : List Nat) (s : Sh) (v : List Int) (i : Nat) : Int := iF (lw.getD ((i : Int) / (s.h * s.w)).toNat 0) * v.getD i 0 + iF (lb.getD ((i : Int) / (s.h * s.w)).toNat 0)
def reS (lz lzb : List (Nat × Nat)) (M : Nat) (v : List Int) (i : Nat) : Int := iF (lzb.getD i (0, 0)).1 + sumN (fun j => iF (lz.getD (i * M + j) (0, 0)).1 * v.getD (2 * j) 0 - iF (lz.getD (i * M + j) (0, 0)).2 * v.getD (2 * j + 1) 0) M
def imS (lz lzb : List (Nat × Nat)) (M : Nat) (v : List Int) (i : Nat) : Int := iF (lzb.getD i (0, 0)).2 + sumN (fun j => iF (lz.getD (i * M + j) (0, 0)).1 * v.getD (2 * j + 1) 0 + iF (lz.getD (i * M + j) (0, 0)).2 * v.getD (2 * j) 0) M
def cvT (L : Ly) (lw : List Nat) (s : Sh) (v : List Int) (o : Sp) (c p q : Nat) : Int := iF (lw.getD (((o.c * s.c + c) * L.kh + p) * L.kw + q).toNat 0) * atV v s c (o.y * L.sh - L.ph + p) (o.x * L.sw - L.pw + q)
def mnT (L : Ly) (s : Sh) (v : List Int) (o : Sp) (p q : Nat) : Int := iF L.a * atV v s o.c (o.y * L.sh - L.ph + p) (o.x * L.sw - L.pw + q)
def winS (L : Ly) (lw lb : List Nat) (s : Sh) (v : List Int) (o : Sp) : Int :=
  if L.k = 4 then sumN (fun p => sumN (fun q => mnT L s v o p q) L.kw.toNat) L.kh.toNat
  else sumN (fun p => sumN (fun q => sumN (fun c => cvT L lw s v o c p q) s.c.toNat) L.kw.toNat) L.kh.toNat + iF (lb.getD o.c.toNat 0)
/-- What is written out by loops, of the coordinate i. -/
def wantAt (L : Ly) (lw lb : List Nat) (lz lzb : List (Nat × Nat)) (s : Sh) (v : List Int) (i : Nat) : Int :=
  if L.k = 1 then denseS lw lb (s.c * s.h * s.w).toNat v i else if L.k = 3 then scaleS lw lb s v i else
  if L.k = 6 then (if i % 2 = 0 then reS lz lzb ((s.c * s.h * s.w).toNat / 2) v (i / 2) else imS lz lzb ((s.c * s.h * s.w).toNat / 2) v (i / 2)) else winS L lw lb s v (spotV (outS L s) i)
/-- A row times the input. -/
def rowS (R : Rw) (v : List Int) : Int := iF R.b + sumN (fun k => iF (R.w.getD k 0) * v.getD (R.cols.getD k 0).toNat 0) R.w.length
def lsum : List Int → Int
  | [] => 0
  | x :: l => x + lsum l
theorem lsum_append (a b : List Int) : lsum (a ++ b) = lsum a + lsum b := by
  induction a with
  | nil => simp [lsum]
  | cons x a ih => simp only [List.cons_append, lsum, ih]; omega
theorem sumN_list {α : Type} (z : α) (t : α → Int) : ∀ l : List α, sumN (fun k => t (l.getD k z)) l.length = lsum (l.map t) := by
  intro l
  suffices h : ∀ n, n ≤ l.length → sumN (fun k => t (l.getD k z)) n = lsum ((l.take n).map t) by
    have := h l.length (Nat.le_refl _)
    rwa [List.take_length] at this
  intro n
  induction n with
  | zero => intro _; simp [sumN, lsum]
  | succ n ih =>
    intro hn
    have hx : l[n]? = some (l[n]'(by omega)) := List.getElem?_eq_getElem (by omega)
    unfold sumN
    rw [ih (by omega), List.take_add_one, hx, List.map_append, lsum_append, List.getD_eq_getElem?_getD, hx]
    simp [lsum]
section
variable (L : Ly) (s : Sh) (o : Sp) (v : List Int) (g : Nat → Nat → Nat → Int) (t : Se → Int)
/-- What a place of a window counts, and what a sum over all of the window's own counts there. -/
def Fits : Prop := ∀ c p q : Nat, ∀ x ∈ winX L s o c p q, t x = g c p q * atV v s c (o.y * L.sh - L.ph + p) (o.x * L.sw - L.pw + q)
variable {L s o v g t}
theorem winX_sum (h : Fits L s o v g t) (c p q : Nat) : lsum ((winX L s o c p q).map t) = g c p q * atV v s c (o.y * L.sh - L.ph + p) (o.x * L.sw - L.pw + q) := by
  have hm := h c p q
  unfold winX at hm ⊢
  split
  · rename_i hc
    rw [if_pos hc] at hm
    rw [List.map_cons, List.map_nil, hm _ (List.mem_singleton.2 rfl)]
    simp [lsum]
  · rename_i hc
    unfold atV
    rw [if_pos (by omega)]
    simp [lsum]
theorem winQ_sum (h : Fits L s o v g t) (c p : Nat) : ∀ n, lsum ((winQ L s o c p n).map t) = sumN (fun q => g c p q * atV v s c (o.y * L.sh - L.ph + p) (o.x * L.sw - L.pw + q)) n
  | 0 => rfl
  | n + 1 => by rw [winQ_succ, List.map_append, lsum_append, winQ_sum h c p n, winX_sum h]; rfl
theorem winP_sum (h : Fits L s o v g t) (c : Nat) : ∀ n, lsum ((winP L s o c n).map t) = sumN (fun p => sumN (fun q => g c p q * atV v s c (o.y * L.sh - L.ph + p) (o.x * L.sw - L.pw + q)) L.kw.toNat) n
  | 0 => rfl
  | n + 1 => by rw [winP_succ, List.map_append, lsum_append, winP_sum h c n, winQ_sum h]; rfl
theorem winC_sum (h : Fits L s o v g t) (f : Nat) : ∀ n, lsum ((winC L s o f n).map t) = sumN (fun c => sumN (fun p => sumN (fun q => g (f + c) p q * atV v s ((f + c : Nat) : Int) (o.y * L.sh - L.ph + p) (o.x * L.sw - L.pw + q)) L.kw.toNat) L.kh.toNat) n
  | 0 => rfl
  | n + 1 => by rw [winC_succ, List.map_append, lsum_append, winC_sum h f n, winP_sum h]; rfl
end
theorem rowS_map (ws : List Se) (pl : Se → Int) (fw : Se → Nat) (b : Nat) (e : Int) (v : List Int) : rowS ⟨ws.map pl, ws.map fw, b, e⟩ v = iF b + lsum (ws.map fun x => iF (fw x) * v.getD (pl x).toNat 0) := by
  unfold rowS
  simp only [List.length_map]
  congr 1
  cases ws with
  | nil => rfl
  | cons z ws' =>
    rw [← sumN_list z (fun x => iF (fw x) * v.getD (pl x).toNat 0)]
    apply sumN_congr
    intro k hk
    have hx : (z :: ws')[k]? = some ((z :: ws')[k]) := List.getElem?_eq_getElem hk
    simp only [List.getD_eq_getElem?_getD, List.getElem?_map, hx, Option.map_some, Option.getD_some]
theorem turnW_at (b : Bool) : ∀ (l : List (Nat × Nat)) (j : Nat), j < l.length → (turnW b l).getD (2 * j) 0 = (if b then (l.getD j (0, 0)).2 else (l.getD j (0, 0)).1) ∧ (turnW b l).getD (2 * j + 1) 0 = (if b then (l.getD j (0, 0)).1 else ngB (l.getD j (0, 0)).2)
  | [], j, h => absurd h (Nat.not_lt_zero _)
  | z :: l, 0, _ => by unfold turnW; cases b <;> exact ⟨rfl, rfl⟩
  | z :: l, j + 1, h => by
    have ih := turnW_at b l j (by simpa using h)
    rw [show 2 * (j + 1) = 2 * j + 1 + 1 by omega, show 2 * j + 1 + 1 + 1 = (2 * j + 1) + 1 + 1 by omega]
    unfold turnW
    cases b <;> exact ih
theorem turnW_mem {b : Bool} {l : List (Nat × Nat)} (h : smP l) : ∀ u ∈ turnW b l, sm2 u := by
  induction l with
  | nil => intro u hu; cases hu
  | cons z l ih =>
    intro u hu
    have hz := h z (List.mem_cons_self ..)
    unfold turnW at hu
    rw [List.mem_append] at hu
    rcases hu with hu | hu
    · cases b
      · simp only [Bool.false_eq_true, if_false, List.mem_cons, List.not_mem_nil, or_false] at hu
        rcases hu with rfl | rfl
        · exact hz.1.two
        · exact hz.2.neg.1
      · simp only [if_true, List.mem_cons, List.not_mem_nil, or_false] at hu
        rcases hu with rfl | rfl
        · exact hz.2.two
        · exact hz.1.two
    · exact ih (fun u hu => h u (List.mem_cons_of_mem _ hu)) u hu
/-- A layer of small whole numbers, that may be. -/
structure MxOk (L : Ly) (lw lb : List Nat) (lz lzb : List (Nat × Nat)) (s : Sh) : Prop where
  out : (outV L s).2 = 0
  lin : L.k ≠ 5 ∧ L.k ≤ 6
  nw : (lw.length : Int) = (lensV L s).1
  nb : (lb.length : Int) = (lensV L s).2.1
  nz : (lz.length : Int) = (lensV L s).2.2.1
  nzb : (lzb.length : Int) = (lensV L s).2.2.2
  sw : smL lw
  sb : smL lb
  sz : smP lz
  szb : smP lzb
  sa : sm L.a
theorem outV_zero {L : Ly} {s : Sh} (h : (outV L s).2 = 0) : fieldsV L = 0 ∧ ¬ szBad s ∧ ¬ (winV L.k ∧ (s.h + 2 * L.ph - L.kh < 0 ∨ s.w + 2 * L.pw - L.kw < 0)) ∧ ¬ (L.k = 6 ∧ (s.c * s.h * s.w) % 2 = 1) ∧ ¬ szBad (outS L s) := by
  unfold outV at h
  by_cases h1 : fieldsV L ≠ 0
  · rw [if_pos h1] at h; exact absurd h h1
  rw [if_neg h1] at h
  by_cases h2 : szBad s
  · rw [if_pos h2] at h; exact absurd h (by decide)
  rw [if_neg h2] at h
  by_cases h3 : winV L.k ∧ (s.h + 2 * L.ph - L.kh < 0 ∨ s.w + 2 * L.pw - L.kw < 0)
  · rw [if_pos h3] at h; exact absurd h (by decide)
  rw [if_neg h3] at h
  by_cases h4 : L.k = 6 ∧ (s.c * s.h * s.w) % 2 = 1
  · rw [if_pos h4] at h; exact absurd h (by decide)
  rw [if_neg h4] at h
  by_cases h5 : szBad (outS L s)
  · rw [if_pos h5] at h; exact absurd h (by decide)
  exact ⟨by simpa using h1, h2, h3, h4, h5⟩
theorem WnOk.of {L : Ly} {s : Sh} {i : Int} (h : (outV L s).2 = 0) (hw : winV L.k) (h0 : 0 ≤ i) (h1 : i < (outS L s).c * (outS L s).h * (outS L s).w) : WnOk L s i := by
  obtain ⟨hf, hs, hn, _, ho⟩ := outV_zero h
  obtain ⟨_, _, hfo⟩ := fv_zero hf
  have hwn := fld_win hfo hw
  have hg := sz_good hs
  have hgo := sz_good ho
  exact ⟨hw, hwn.1, hwn.2.1, hwn.2.2.1, hwn.2.2.2.1, hwn.2.2.2.2.1, hwn.2.2.2.2.2, hg.1, hg.2.1, hg.2.2.1, Int.not_lt.1 fun h2 => hn ⟨hw, .inl h2⟩, Int.not_lt.1 fun h2 => hn ⟨hw, .inr h2⟩, h0, h1, hgo.1.1, hg.2.2.2.2⟩
theorem rangeI_at (n k : Nat) (h : k < n) : (rangeI n)[k]? = some (k : Int) := by
  unfold rangeI; rw [List.getElem?_map, List.getElem?_range h]; rfl
/-- What a row's places must be: within, and rising. -/
def Rises (l : List Int) (n : Int) : Prop := ∀ (k : Nat) (x : Int), l[k]? = some x → (0 ≤ x ∧ x < n) ∧ ∀ y, l[k - 1]? = some y → 0 < k → y < x
theorem rangeI_rises (n : Nat) : Rises (rangeI n) n := by
  intro k x hx
  have hk : k < n := by have := (List.getElem?_eq_some_iff.1 hx).1; rwa [rangeI_len] at this
  rw [rangeI_at n k hk] at hx
  obtain rfl := Option.some.inj hx
  refine ⟨by omega, fun y hy h0 => ?_⟩
  rw [rangeI_at n (k - 1) (by omega)] at hy
  obtain rfl := Option.some.inj hy
  omega
theorem want_row {L : Ly} {lw lb : List Nat} {lz lzb : List (Nat × Nat)} {s : Sh} (h : MxOk L lw lb lz lzb s) (v : List Int) {i : Int} (hi : 0 ≤ i ∧ i < (outS L s).c * (outS L s).h * (outS L s).w) {R : Rw} (hR : R = rowV L lw lb lz lzb s i) :
    R.e = 0 ∧ R.cols.length = R.w.length ∧ wantAt L lw lb lz lzb s v i.toNat = rowS R v ∧ (∀ u ∈ R.w, sm2 u) ∧ sm2 R.b ∧ Rises R.cols (s.c * s.h * s.w) := by
  obtain ⟨hf, hs, hn, hn6, ho⟩ := outV_zero h.out
  obtain ⟨hk1, hk2, hfo⟩ := fv_zero hf
  have hg := sz_good hs
  have hlin := h.lin
  have hls : listsV L s = (lensV L s, 0) := by unfold listsV; rw [if_neg (by rw [h.out]; simp)]
  have hwh : wholeV L s lw.length lb.length lz.length lzb.length = true := by
    unfold wholeV; rw [hls]; simp [h.nw, h.nb, h.nz, h.nzb]
  obtain ⟨N, hN⟩ : ∃ N : Nat, s.c * s.h * s.w = N := ⟨(s.c * s.h * s.w).toNat, by omega⟩
  have hnw := h.nw
  have hnb := h.nb
  have hnz := h.nz
  have hnzb := h.nzb
  unfold rowV at hR
  rw [if_neg (by rw [h.out]; simp), if_neg (by omega), if_neg (by rw [hwh]; simp), if_neg (by omega)] at hR
  simp only at hR
  unfold wantAt
  rw [hN] at hR ⊢
  rw [Int.toNat_natCast] at hR ⊢
  by_cases k1 : L.k = 1
  · rw [if_pos k1] at hR ⊢
    have hl : lensV L s = (L.out * N, L.out, 0, 0) := by unfold lensV; rw [if_pos k1, hN]
    have hos : outS L s = ⟨L.out, 1, 1⟩ := by unfold outS; rw [if_pos k1]
    rw [hl] at hnw hnb
    rw [hos] at hi
    simp only [Int.mul_one] at hnw hnb hi
    have e1 : (i + 1) * (N : Int) = i * N + N := by rw [Int.add_mul, Int.one_mul]
    have e2 : 0 ≤ i * (N : Int) := Int.mul_nonneg hi.1 (by omega)
    have e3 : (i + 1) * (N : Int) ≤ L.out * N := Int.mul_le_mul_of_nonneg_right (by omega) (by omega)
    have e4 : (i * (N : Int)).toNat = i.toNat * N := by rw [show i = (i.toNat : Int) by omega, ← Int.natCast_mul, Int.toNat_natCast, Int.toNat_natCast]
    have hlen : ((lw.drop (i * (N : Int)).toNat).take N).length = N := by rw [List.length_take, List.length_drop]; omega
    subst hR
    refine ⟨rfl, by rw [hlen]; exact rangeI_len N, ?_, fun u hu => (h.sw u (List.mem_of_mem_drop (List.mem_of_mem_take hu))).two, (h.sb.at _).two, rangeI_rises N⟩
    unfold denseS rowS
    simp only [hlen]
    congr 1
    apply sumN_congr
    intro k hk
    rw [List.getD_eq_getElem?_getD (l := rangeI N), rangeI_at N k hk, Option.getD_some, Int.toNat_natCast]
    rw [List.getD_eq_getElem?_getD (l := List.take _ _), List.getElem?_take_of_lt hk, List.getElem?_drop, e4, ← List.getD_eq_getElem?_getD]
  rw [if_neg k1] at hR ⊢
  by_cases k3 : L.k = 3
  · rw [if_pos k3] at hR ⊢
    have hos : outS L s = s := by unfold outS; rw [if_neg k1, if_neg (by omega), if_neg (by unfold winV; omega)]
    rw [hos] at hi hR
    have hsc : (spotV s i).c = i / (s.h * s.w) := rfl
    subst hR
    refine ⟨rfl, rfl, ?_, fun u hu => ?_, (h.sb.at _).two, ?_⟩
    · unfold scaleS rowS
      rw [show ((i.toNat : Nat) : Int) = i by omega]
      simp only [List.length_singleton, sumN, List.getD_cons_zero, hsc]
      omega
    · rw [List.mem_singleton] at hu; subst hu; exact (h.sw.at _).two
    · intro k x hx
      have hk : k = 0 := by have := (List.getElem?_eq_some_iff.1 hx).1; simpa using this
      subst hk
      simp at hx
      subst hx
      exact ⟨by omega, fun y _ h0 => absurd h0 (by omega)⟩
  rw [if_neg k3] at hR ⊢
  by_cases k6 : L.k = 6
  · rw [if_pos k6] at hR ⊢
    have hl : lensV L s = (0, 0, L.out * N / 2, L.out) := by unfold lensV; rw [if_neg k1, if_neg (by omega), if_neg k3, if_pos k6, hN]
    have hos : outS L s = ⟨2 * L.out, 1, 1⟩ := by unfold outS; rw [if_neg k1, if_pos k6]
    rw [hl] at hnz hnzb
    rw [hos] at hi
    simp only [Int.mul_one] at hnz hnzb hi
    rw [hN] at hn6
    obtain ⟨M, hM⟩ : ∃ M : Nat, N = 2 * M := ⟨N / 2, by omega⟩
    subst hM
    obtain ⟨r, hr⟩ : ∃ r : Nat, i / 2 = r := ⟨(i / 2).toNat, by omega⟩
    have e1 : ((r : Int) + 1) * (M : Int) ≤ L.out * M := Int.mul_le_mul_of_nonneg_right (by omega) (by omega)
    have e2 : ((r : Int) + 1) * (M : Int) = (r * M : Nat) + M := by rw [Int.add_mul, Int.one_mul, Int.natCast_mul]
    have e3 : (r : Int) * ((2 * M : Nat) : Int) = 2 * ((r * M : Nat) : Int) := by rw [Int.natCast_mul, Int.natCast_mul, Int.mul_left_comm]; rfl
    have e4 : L.out * ((2 * M : Nat) : Int) = 2 * (L.out * (M : Int)) := by rw [Int.natCast_mul, Int.mul_left_comm]; rfl
    rw [e4] at hnz
    rw [hr, e3, show (2 * ((r * M : Nat) : Int) / 2).toNat = r * M by omega, show (((2 * M : Nat) : Int) / 2).toNat = M by omega, Int.toNat_natCast] at hR
    obtain ⟨zl, hzl⟩ : ∃ zl, zl = (lz.drop (r * M)).take M := ⟨_, rfl⟩
    have hzlen : zl.length = M := by rw [hzl, List.length_take, List.length_drop]; omega
    have hzat : ∀ j, j < M → zl.getD j (0, 0) = lz.getD (r * M + j) (0, 0) := fun j hj => by
      rw [hzl, List.getD_eq_getElem?_getD, List.getElem?_take_of_lt hj, List.getElem?_drop, ← List.getD_eq_getElem?_getD]
    have hzs : smP zl := fun u hu => h.sz u (List.mem_of_mem_drop (List.mem_of_mem_take (hzl ▸ hu)))
    rw [← hzl] at hR
    have hb := h.szb.at r
    have e5 : (2 * M) / 2 = M := by omega
    have e6 : i.toNat / 2 = r := by omega
    rw [e5, e6]
    have hlen : (turnW (decide (i % 2 = 1)) zl).length = 2 * M := by rw [turnW_len, hzlen]
    subst hR
    refine ⟨rfl, by rw [hlen]; exact rangeI_len _, ?_, turnW_mem hzs, ?_, rangeI_rises _⟩
    · unfold rowS
      simp only [hlen]
      rw [sumN_two]
      have hcol : ∀ k, k < 2 * M → ((rangeI (2 * M)).getD k 0).toNat = k := fun k hk => by
        rw [List.getD_eq_getElem?_getD, rangeI_at _ k hk, Option.getD_some, Int.toNat_natCast]
      by_cases hp : i % 2 = 1
      · rw [if_neg (by omega), if_pos hp]
        unfold imS
        congr 1
        apply sumN_congr
        intro j hj
        obtain ⟨t1, t2⟩ := turnW_at (decide (i % 2 = 1)) zl j (by omega)
        rw [t1, t2, hcol _ (by omega), hcol _ (by omega), hzat j hj, decide_eq_true hp]
        simp only [if_true]
        omega
      · rw [if_pos (by omega), if_neg hp]
        unfold reS
        congr 1
        apply sumN_congr
        intro j hj
        obtain ⟨t1, t2⟩ := turnW_at (decide (i % 2 = 1)) zl j (by omega)
        rw [t1, t2, hcol _ (by omega), hcol _ (by omega), hzat j hj, decide_eq_false hp]
        simp only [Bool.false_eq_true, if_false]
        rw [((h.sz.at (r * M + j)).2).neg.2, Int.neg_mul]
        omega
    · simp only
      split
      · exact hb.2.two
      · exact hb.1.two
  rw [if_neg k6] at hR ⊢
  have hw : winV L.k := by unfold winV; omega
  have hWn := WnOk.of h.out hw hi.1 hi.2
  have hsp := hWn.spot
  rw [show ((i.toNat : Nat) : Int) = i by omega]
  obtain ⟨o, ho⟩ : ∃ o, o = spotV (outS L s) i := ⟨_, rfl⟩
  rw [← ho] at hR hsp ⊢
  have hR2 := hR
  subst hR
  refine ⟨rfl, by simp, ?_, fun u hu => ?_, ?_, fun k x hx => ?_⟩
  · rw [rowS_map]
    unfold winS
    by_cases k2 : L.k = 2
    · rw [if_neg (by omega)]
      simp only [if_pos k2]
      have hF : Fits L s o v (fun c p q => iF (lw.getD (((o.c * s.c + c) * L.kh + p) * L.kw + q).toNat 0)) (fun x => iF (lw.getD (((o.c * s.c + x.at_.c) * L.kh + x.p) * L.kw + x.q).toNat 0) * v.getD (placeV s x.at_).toNat 0) := by
        intro c p q x hx
        unfold winX at hx
        split at hx
        · rename_i hc
          rw [List.mem_singleton] at hx
          subst hx
          unfold atV
          rw [if_neg (by omega)]
          rfl
        · cases hx
      unfold winV_
      rw [if_pos k2, ← ho, winC_sum hF 0 s.c.toNat, Int.add_comm]
      congr 1
      simp only [Nat.zero_add]
      show _ = sumN (fun c => sumN (fun p => sumN (fun q => cvT L lw s v o c p q) L.kw.toNat) L.kh.toNat) s.c.toNat
      rw [sumN_comm (fun c p => sumN (fun q => cvT L lw s v o c p q) L.kw.toNat) s.c.toNat L.kh.toNat]
      apply sumN_congr
      intro p _
      exact (sumN_comm (fun c q => cvT L lw s v o c p q) s.c.toNat L.kw.toNat).symm
    · have k4 : L.k = 4 := by unfold winV at hw; omega
      rw [if_pos k4]
      simp only [if_neg k2]
      rw [iF_zero, Int.zero_add]
      have hF : Fits L s o v (fun c p q => iF L.a) (fun x => iF L.a * v.getD (placeV s x.at_).toNat 0) := by
        intro c p q x hx
        unfold winX at hx
        split at hx
        · rename_i hc
          rw [List.mem_singleton] at hx
          subst hx
          unfold atV
          rw [if_neg (by omega)]
          rfl
        · cases hx
      unfold winV_
      rw [if_neg k2, ← ho, winC_sum hF o.c.toNat 1]
      simp only [sumN, Int.zero_add, Nat.add_zero]
      rw [show ((o.c.toNat : Nat) : Int) = o.c by omega]
      rfl
  · simp only [List.mem_map] at hu
    obtain ⟨x, _, rfl⟩ := hu
    split
    · exact (h.sw.at _).two
    · exact h.sa.two
  · simp only
    split
    · exact (h.sb.at _).two
    · exact sm_zero.two
  · have := hWn.places rfl hx
    exact ⟨by rw [← hN]; exact this.1, this.2.2⟩
end Go.Proofs.Ytkfhablonnjgeaa
