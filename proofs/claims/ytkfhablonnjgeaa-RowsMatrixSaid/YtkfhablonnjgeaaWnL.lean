/- Plain words for RowsWindows: a window is not empty, its places rise, they are of their channel. No program in sight; no condition. -/
import Derived.Test.YtkfhablonnjgeaaRoS
namespace Go.Proofs.Ytkfhablonnjgeaa
set_option linter.unusedVariables false
set_option linter.unusedSimpArgs false
theorem wn_x {L : Ly} {s : Sh} {o : Sp} {c p q : Nat} {x : Se} (h : x ∈ winX L s o c p q) : (x.at_.c = c ∧ x.at_.y = o.y * L.sh - L.ph + p ∧ x.at_.x = o.x * L.sw - L.pw + q) ∧ (0 ≤ x.at_.y ∧ x.at_.y < s.h) ∧ (0 ≤ x.at_.x ∧ x.at_.x < s.w) := by
  unfold winX at h
  split at h
  · rename_i hc
    rw [List.mem_singleton] at h
    subst h
    exact ⟨⟨rfl, rfl, rfl⟩, ⟨hc.1, hc.2.1⟩, ⟨hc.2.2.1, hc.2.2.2⟩⟩
  · cases h
theorem wn_q {L : Ly} {s : Sh} {o : Sp} {c p n : Nat} {x : Se} (h : x ∈ winQ L s o c p n) : (x.at_.c = c ∧ x.at_.y = o.y * L.sh - L.ph + p ∧ x.at_.x < o.x * L.sw - L.pw + n) ∧ (0 ≤ x.at_.y ∧ x.at_.y < s.h) ∧ (0 ≤ x.at_.x ∧ x.at_.x < s.w) := by
  unfold winQ at h
  rw [List.mem_flatMap] at h
  obtain ⟨q, hq, h⟩ := h
  rw [List.mem_range] at hq
  have := wn_x h
  omega
theorem wn_p {L : Ly} {s : Sh} {o : Sp} {c n : Nat} {x : Se} (h : x ∈ winP L s o c n) : (x.at_.c = c ∧ x.at_.y < o.y * L.sh - L.ph + n) ∧ (0 ≤ x.at_.y ∧ x.at_.y < s.h) ∧ (0 ≤ x.at_.x ∧ x.at_.x < s.w) := by
  unfold winP at h
  rw [List.mem_flatMap] at h
  obtain ⟨q, hq, h⟩ := h
  rw [List.mem_range] at hq
  have := wn_q h
  omega
theorem wn_c {L : Ly} {s : Sh} {o : Sp} {f n : Nat} {x : Se} (h : x ∈ winC L s o f n) : ((f : Int) ≤ x.at_.c ∧ x.at_.c < f + n) ∧ (0 ≤ x.at_.y ∧ x.at_.y < s.h) ∧ (0 ≤ x.at_.x ∧ x.at_.x < s.w) := by
  unfold winC at h
  rw [List.mem_flatMap] at h
  obtain ⟨q, hq, h⟩ := h
  rw [List.mem_range] at hq
  have := wn_p h
  omega
theorem lex_lt {u v w x y : Int} (h : u < v) (hx : x < w) (hw : 0 ≤ w) (hy : 0 ≤ y) : u * w + x < v * w + y := by
  have e1 : (u + 1) * w ≤ v * w := Int.mul_le_mul_of_nonneg_right (by omega) hw
  have e2 : (u + 1) * w = u * w + w := by rw [Int.add_mul, Int.one_mul]
  omega
theorem place_lt_x {s : Sh} {a b : Sp} (hc : a.c = b.c) (hy : a.y = b.y) (hx : a.x < b.x) : placeV s a < placeV s b := by
  unfold placeV; rw [hc, hy]; omega
theorem place_lt_y {s : Sh} {a b : Sp} (hc : a.c = b.c) (hy : a.y < b.y) (hx : a.x < s.w) (hb : 0 ≤ b.x) (hw : 0 ≤ s.w) : placeV s a < placeV s b := by
  unfold placeV; rw [hc]; exact lex_lt (by omega) hx hw hb
theorem place_lt_c {s : Sh} {a b : Sp} (hc : a.c < b.c) (hy : a.y < s.h) (hy2 : 0 ≤ b.y) (hh : 0 ≤ s.h) (hx : a.x < s.w) (hb : 0 ≤ b.x) (hw : 0 ≤ s.w) : placeV s a < placeV s b := by
  unfold placeV; exact lex_lt (lex_lt hc hy hh hy2) hx hw hb
abbrev Rise (s : Sh) (l : List Se) : Prop := l.Pairwise fun a b => placeV s a.at_ < placeV s b.at_
theorem winX_rise (L : Ly) (s : Sh) (o : Sp) (c p q : Nat) : Rise s (winX L s o c p q) := by
  unfold winX; split
  · exact List.pairwise_singleton _ _
  · exact List.Pairwise.nil
theorem winQ_rise (L : Ly) (s : Sh) (o : Sp) (c p n : Nat) : Rise s (winQ L s o c p n) := by
  induction n with
  | zero => exact List.Pairwise.nil
  | succ n ih =>
    rw [winQ_succ]
    refine List.pairwise_append.2 ⟨ih, winX_rise .., fun a ha b hb => ?_⟩
    have h1 := wn_q ha
    have h2 := wn_x hb
    exact place_lt_x (by omega) (by omega) (by omega)
theorem winP_rise (L : Ly) (s : Sh) (o : Sp) (c n : Nat) : Rise s (winP L s o c n) := by
  induction n with
  | zero => exact List.Pairwise.nil
  | succ n ih =>
    rw [winP_succ]
    refine List.pairwise_append.2 ⟨ih, winQ_rise .., fun a ha b hb => ?_⟩
    have h1 := wn_p ha
    have h2 := wn_q hb
    exact place_lt_y (by omega) (by omega) (by omega) (by omega) (by omega)
theorem winC_rise (L : Ly) (s : Sh) (o : Sp) (f n : Nat) : Rise s (winC L s o f n) := by
  induction n with
  | zero => exact List.Pairwise.nil
  | succ n ih =>
    rw [winC_succ]
    refine List.pairwise_append.2 ⟨ih, winP_rise .., fun a ha b hb => ?_⟩
    have h1 := wn_c ha
    have h2 := wn_p hb
    exact place_lt_c (by omega) (by omega) (by omega) (by omega) (by omega) (by omega) (by omega)
theorem winV_rise (L : Ly) (s out : Sh) (i : Int) : Rise s (winV_ L s out i) := by
  unfold winV_; split <;> exact winC_rise ..
/-- One of a window's places that lies within. -/
theorem winX_some {L : Ly} {s : Sh} {o : Sp} {c p q : Nat} (h : 0 ≤ o.y * L.sh - L.ph + p ∧ o.y * L.sh - L.ph + p < s.h ∧ 0 ≤ o.x * L.sw - L.pw + q ∧ o.x * L.sw - L.pw + q < s.w) : ∃ x, x ∈ winX L s o c p q := by
  unfold winX; rw [if_pos h]; exact ⟨_, List.mem_singleton.2 rfl⟩
theorem winC_some {L : Ly} {s : Sh} {o : Sp} {f n c p q : Nat} (hc : c < n) (hp : p < L.kh.toNat) (hq : q < L.kw.toNat) (h : 0 ≤ o.y * L.sh - L.ph + p ∧ o.y * L.sh - L.ph + p < s.h ∧ 0 ≤ o.x * L.sw - L.pw + q ∧ o.x * L.sw - L.pw + q < s.w) : ∃ x, x ∈ winC L s o f n := by
  obtain ⟨x, hx⟩ := winX_some (c := f + c) h
  refine ⟨x, ?_⟩
  unfold winC winP winQ
  simp only [List.mem_flatMap, List.mem_range]
  exact ⟨c, hc, p, hp, q, hq, hx⟩
theorem one_in {y S P K h oh : Int} (hy : 0 ≤ y ∧ y < oh) (hS : 1 ≤ S) (hP : 0 ≤ P ∧ P ≤ K - 1) (hh : 1 ≤ h) (ho : oh = (h + 2 * P - K) / S + 1) (hge : 0 ≤ h + 2 * P - K) : ∃ p : Nat, (p : Int) < K ∧ 0 ≤ y * S - P + p ∧ y * S - P + p < h := by
  have e1 : y * S ≤ (h + 2 * P - K) / S * S := Int.mul_le_mul_of_nonneg_right (by omega) (by omega)
  have e2 : (h + 2 * P - K) / S * S ≤ h + 2 * P - K := Int.ediv_mul_le _ (by omega)
  have e3 : 0 ≤ y * S := Int.mul_nonneg hy.1 (by omega)
  rcases Int.lt_or_le (y * S) P with h | h
  · exact ⟨(P - y * S).toNat, by omega, by omega, by omega⟩
  · exact ⟨0, by omega, by omega, by omega⟩
/-- A layer with windows over a shape, and a coordinate of what it tells. -/
structure WnOk (L : Ly) (s : Sh) (i : Int) : Prop where
  win : winV L.k
  kh : 1 ≤ L.kh ∧ L.kh ≤ 16
  kw : 1 ≤ L.kw ∧ L.kw ≤ 16
  sh : 1 ≤ L.sh ∧ L.sh ≤ 16
  sw : 1 ≤ L.sw ∧ L.sw ≤ 16
  ph : 0 ≤ L.ph ∧ L.ph ≤ L.kh - 1
  pw : 0 ≤ L.pw ∧ L.pw ≤ L.kw - 1
  c : 1 ≤ s.c ∧ s.c ≤ 256
  h : 1 ≤ s.h ∧ s.h ≤ 256
  w : 1 ≤ s.w ∧ s.w ≤ 256
  gh : 0 ≤ s.h + 2 * L.ph - L.kh
  gw : 0 ≤ s.w + 2 * L.pw - L.kw
  i0 : 0 ≤ i
  i1 : i < (outS L s).c * (outS L s).h * (outS L s).w
  oc : 1 ≤ (outS L s).c
  n : s.c * s.h * s.w ≤ 256
theorem outS_win {L : Ly} {s : Sh} (h : winV L.k) : outS L s = ⟨if L.k = 2 then L.out else s.c, (s.h + 2 * L.ph - L.kh) / L.sh + 1, (s.w + 2 * L.pw - L.kw) / L.sw + 1⟩ := by
  have hw := h
  unfold winV at hw
  unfold outS
  rw [if_neg (by omega), if_neg (by omega), if_pos h]
theorem WnOk.hw {L : Ly} {s : Sh} {i : Int} (h : WnOk L s i) : 1 ≤ (outS L s).h ∧ 1 ≤ (outS L s).w := by
  rw [outS_win h.win]
  have h1 := h.sh
  have h2 := h.sw
  have d1 := Int.ediv_nonneg h.gh (show 0 ≤ L.sh by omega)
  have d2 := Int.ediv_nonneg h.gw (show 0 ≤ L.sw by omega)
  simp only
  omega
theorem WnOk.spot {L : Ly} {s : Sh} {i : Int} (h : WnOk L s i) : (0 ≤ (spotV (outS L s) i).c ∧ (spotV (outS L s) i).c < (outS L s).c) ∧ (0 ≤ (spotV (outS L s) i).y ∧ (spotV (outS L s) i).y < (outS L s).h) ∧ (0 ≤ (spotV (outS L s) i).x ∧ (spotV (outS L s) i).x < (outS L s).w) := by
  obtain ⟨h1, h2⟩ := h.hw
  have b : 0 < (outS L s).h * (outS L s).w := Int.mul_pos (by omega) (by omega)
  refine ⟨⟨Int.ediv_nonneg h.i0 (by omega), ?_⟩, ⟨Int.emod_nonneg _ (by omega), Int.emod_lt_of_pos _ (by omega)⟩, ⟨Int.emod_nonneg _ (by omega), Int.emod_lt_of_pos _ (by omega)⟩⟩
  exact Int.ediv_lt_of_lt_mul b (by rw [← Int.mul_assoc]; exact h.i1)
theorem WnOk.one {L : Ly} {s : Sh} {i : Int} (h : WnOk L s i) : 1 ≤ (winV_ L s (outS L s) i).length := by
  have hsp := h.spot
  obtain ⟨_, hy, hx⟩ := hsp
  have eh : (outS L s).h = (s.h + 2 * L.ph - L.kh) / L.sh + 1 := by rw [outS_win h.win]
  have ew : (outS L s).w = (s.w + 2 * L.pw - L.kw) / L.sw + 1 := by rw [outS_win h.win]
  obtain ⟨p, hp, hp1, hp2⟩ := one_in hy h.sh.1 h.ph h.h.1 eh h.gh
  obtain ⟨q, hq, hq1, hq2⟩ := one_in hx h.sw.1 h.pw h.w.1 ew h.gw
  have hc := h.c
  suffices hm : ∃ x, x ∈ winV_ L s (outS L s) i by
    obtain ⟨x, hx⟩ := hm
    exact List.length_pos_of_mem hx
  unfold winV_
  split
  · exact winC_some (c := 0) (by omega) (by omega) (by omega) ⟨hp1, hp2, hq1, hq2⟩
  · exact winC_some (c := 0) (by omega) (by omega) (by omega) ⟨hp1, hp2, hq1, hq2⟩
theorem WnOk.len {L : Ly} {s : Sh} {i : Int} (h : WnOk L s i) : ((winV_ L s (outS L s) i).length : Int) ≤ L.kh * L.kw * s.c := by
  have hc := h.c
  have hkh := h.kh
  have hkw := h.kw
  have e : ((L.kh.toNat * L.kw.toNat : Nat) : Int) = L.kh * L.kw := by rw [Int.natCast_mul, Int.toNat_of_nonneg (by omega), Int.toNat_of_nonneg (by omega)]
  have e0 : 0 ≤ L.kh * L.kw := Int.mul_nonneg (by omega) (by omega)
  unfold winV_
  split
  · have h1 := winC_le L s (spotV (outS L s) i) 0 s.c.toNat
    have e2 : ((s.c.toNat * (L.kh.toNat * L.kw.toNat) : Nat) : Int) = s.c * (L.kh * L.kw) := by rw [Int.natCast_mul, e, Int.toNat_of_nonneg (by omega)]
    rw [Int.mul_comm (L.kh * L.kw)]
    omega
  · have h1 := winC_le L s (spotV (outS L s) i) (spotV (outS L s) i).c.toNat 1
    have e3 : L.kh * L.kw * 1 ≤ L.kh * L.kw * s.c := Int.mul_le_mul_of_nonneg_left (by omega) e0
    omega
theorem WnOk.mem {L : Ly} {s : Sh} {i : Int} (h : WnOk L s i) {x : Se} (hx : x ∈ winV_ L s (outS L s) i) : (0 ≤ x.at_.c ∧ x.at_.c < s.c) ∧ (0 ≤ x.at_.y ∧ x.at_.y < s.h) ∧ (0 ≤ x.at_.x ∧ x.at_.x < s.w) ∧ (L.k = 2 ∨ x.at_.c = (spotV (outS L s) i).c) := by
  have hc := h.c
  have hsp := h.spot
  unfold winV_ at hx
  split at hx
  · have := wn_c hx
    omega
  · rename_i h2
    have h3 := wn_c hx
    have ho : (outS L s).c = s.c := by rw [outS_win h.win]; simp only; rw [if_neg h2]
    omega
theorem place_bd {s : Sh} {p : Sp} (hc : 0 ≤ p.c ∧ p.c < s.c) (hy : 0 ≤ p.y ∧ p.y < s.h) (hx : 0 ≤ p.x ∧ p.x < s.w) : 0 ≤ placeV s p ∧ placeV s p < s.c * s.h * s.w ∧ placeV s p / (s.h * s.w) = p.c := by
  unfold placeV
  have a1 : 0 ≤ p.c * s.h := Int.mul_nonneg hc.1 (by omega)
  have a2 : 0 ≤ (p.c * s.h + p.y) * s.w := Int.mul_nonneg (by omega) (by omega)
  have a3 : p.c * s.h + p.y < s.c * s.h + 0 := lex_lt hc.2 hy.2 (by omega) (by omega)
  have a4 : (p.c * s.h + p.y) * s.w + p.x < s.c * s.h * s.w + 0 := lex_lt (by omega) hx.2 (by omega) (by omega)
  refine ⟨by omega, by omega, ?_⟩
  have b0 : 0 < s.h * s.w := Int.mul_pos (by omega) (by omega)
  have b1 : (p.c * s.h + p.y) * s.w + p.x = p.y * s.w + p.x + p.c * (s.h * s.w) := by rw [Int.add_mul, Int.mul_assoc]; omega
  have b2 : 0 ≤ p.y * s.w := Int.mul_nonneg hy.1 (by omega)
  have b3 : p.y * s.w + p.x < s.h * s.w + 0 := lex_lt hy.2 hx.2 (by omega) (by omega)
  rw [b1, Int.add_mul_ediv_right _ _ (by omega), Int.ediv_eq_zero_of_lt (by omega) (by omega)]
  omega
/-- The places of a window, as the statement asks of them. -/
theorem WnOk.places {L : Ly} {s : Sh} {i : Int} (h : WnOk L s i) {l : List Int} (hl : l = (winV_ L s (outS L s) i).map fun e => placeV s e.at_) {k : Nat} {x : Int} (hx : l[k]? = some x) :
    (0 ≤ x ∧ x < s.c * s.h * s.w) ∧ (L.k = 2 ∨ x / (s.h * s.w) = i / ((outS L s).h * (outS L s).w)) ∧ ∀ y, l[k - 1]? = some y → 0 < k → y < x := by
  subst hl
  rw [List.getElem?_map] at hx
  obtain ⟨e, he, rfl⟩ := Option.map_eq_some_iff.1 hx
  have hm := h.mem (List.mem_of_getElem? he)
  have hp := place_bd hm.1 hm.2.1 hm.2.2.1
  refine ⟨⟨hp.1, hp.2.1⟩, hm.2.2.2.imp id fun hc => by rw [hp.2.2, hc]; rfl, fun y hy hk => ?_⟩
  rw [List.getElem?_map] at hy
  obtain ⟨e2, he2, rfl⟩ := Option.map_eq_some_iff.1 hy
  obtain ⟨h1, e1⟩ := List.getElem?_eq_some_iff.1 he
  obtain ⟨h2, e3⟩ := List.getElem?_eq_some_iff.1 he2
  have := List.pairwise_iff_getElem.1 (winV_rise L s (outS L s) i) (k - 1) k h2 h1 (by omega)
  rw [e1, e3] at this
  exact this
theorem WnOk.size {L : Ly} {s : Sh} {i : Int} (h : WnOk L s i) (h2 : L.k ≠ 2) : (outS L s).c * (outS L s).h * (outS L s).w / s.c = (outS L s).h * (outS L s).w := by
  have ho : (outS L s).c = s.c := by rw [outS_win h.win]; simp only; rw [if_neg h2]
  have hc := h.c
  rw [ho, Int.mul_assoc, Int.mul_ediv_cancel_left _ (by omega)]
end Go.Proofs.Ytkfhablonnjgeaa
