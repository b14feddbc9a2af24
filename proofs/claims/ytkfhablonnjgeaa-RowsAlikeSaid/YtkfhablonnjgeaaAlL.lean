/- Plain words for RowsAlike: two layers whose rows are the same. No program in sight; no condition. -/
import Derived.Test.YtkfhablonnjgeaaRoS
namespace Go.Proofs.Ytkfhablonnjgeaa
set_option linter.unusedVariables false
set_option linter.unusedSimpArgs false
theorem winC_one (L : Ly) (s : Sh) (o : Sp) (hkh : L.kh = 1) (hkw : L.kw = 1) (hsh : L.sh = 1) (hsw : L.sw = 1) (hph : L.ph = 0) (hpw : L.pw = 0) (hy : 0 ≤ o.y ∧ o.y < s.h) (hx : 0 ≤ o.x ∧ o.x < s.w) (f n : Nat) :
    winC L s o f n = (List.range n).map fun c => ⟨⟨((f + c : Nat) : Int), o.y, o.x⟩, 0, 0⟩ := by
  induction n with
  | zero => rfl
  | succ n ih =>
    rw [winC_succ, ih, List.range_succ, List.map_append]
    congr 1
    unfold winP winQ winX
    rw [hkh, hkw, hsh, hsw, hph, hpw]
    simp only [Int.toNat_one, List.range_one, List.flatMap_cons, List.flatMap_nil, List.append_nil, List.map_cons, List.map_nil, Int.mul_one, Int.sub_zero, Int.natCast_zero, Int.add_zero]
    rw [if_pos (by omega)]
theorem spot11 (o i : Int) : spotV ⟨o, 1, 1⟩ i = ⟨i, 0, 0⟩ := by
  unfold spotV
  simp only [Int.mul_one, Int.ediv_one, Int.emod_one]
theorem take_drop_range (lw : List Nat) (a n : Nat) (h : a + n ≤ lw.length) : (lw.drop a).take n = (List.range n).map fun c => lw.getD (a + c) 0 := by
  apply List.ext_getElem?
  intro j
  rcases Nat.lt_or_ge j n with hj | hj
  · rw [List.getElem?_take_of_lt hj, List.getElem?_drop, List.getElem?_map, List.getElem?_range hj]
    simp only [Option.map_some, List.getD_eq_getElem?_getD]
    rw [List.getElem?_eq_getElem (show a + j < lw.length by omega)]
    rfl
  · rw [List.getElem?_eq_none (by simp; omega), List.getElem?_eq_none (by simp; omega)]
/-- A layer's fields. -/
structure FldIs (L : Ly) (k out z fr : Int) (p : Int) (a : Nat) : Prop where
  k : L.k = k
  out : L.out = out
  kh : L.kh = z
  kw : L.kw = z
  sh : L.sh = z
  sw : L.sw = z
  ph : L.ph = p
  pw : L.pw = p
  fr : L.fr = fr
  a : L.a = a
theorem conv1_out {L : Ly} {o c : Int} (h : FldIs L 2 o 1 0 0 0) (ho : 1 ≤ o ∧ o ≤ 30) (hc : 1 ≤ c ∧ c ≤ 30) : outV L ⟨c, 1, 1⟩ = (⟨o, 1, 1⟩, 0) ∧ outS L ⟨c, 1, 1⟩ = ⟨o, 1, 1⟩ := by
  obtain ⟨h1, h2, h3, h4, h5, h6, h7, h8, h9, h10⟩ := h
  have e1 : outS L ⟨c, 1, 1⟩ = ⟨o, 1, 1⟩ := by
    unfold outS
    rw [if_neg (by omega), if_neg (by omega), if_pos (show winV L.k by unfold winV; omega), if_pos h1, h2, h3, h4, h5, h6, h7, h8]
    rfl
  refine ⟨?_, e1⟩
  have hf : fieldsV L = 0 := fv_0a (by omega) ⟨by rw [if_pos (by omega)]; omega, by rw [if_pos (by omega)]; omega, by rw [if_neg (by omega)]; omega⟩ (by unfold bndA; rw [h1]; rfl) h10
  unfold outV
  rw [hf, if_neg (by simp), if_neg (by unfold szBad; simp only; omega), if_neg (by simp only; omega), if_neg (by omega), e1, if_neg (by unfold szBad; simp only; omega)]
theorem dense1_out {L : Ly} {o c : Int} (h : FldIs L 1 o 0 0 0 0) (ho : 1 ≤ o ∧ o ≤ 30) (hc : 1 ≤ c ∧ c ≤ 30) : outV L ⟨c, 1, 1⟩ = (⟨o, 1, 1⟩, 0) ∧ outS L ⟨c, 1, 1⟩ = ⟨o, 1, 1⟩ := by
  obtain ⟨h1, h2, h3, h4, h5, h6, h7, h8, h9, h10⟩ := h
  have e1 : outS L ⟨c, 1, 1⟩ = ⟨o, 1, 1⟩ := by
    unfold outS
    rw [if_pos h1, h2]
  refine ⟨?_, e1⟩
  have hf : fieldsV L = 0 := fv_0a (by omega) ⟨by rw [if_pos (by omega)]; omega, by rw [if_neg (by omega)]; omega, by rw [if_neg (by omega)]; omega⟩ (by unfold bndA; rw [h1]; rfl) h10
  unfold outV
  rw [hf, if_neg (by simp), if_neg (by unfold szBad; simp only; omega), if_neg (by unfold winV; omega), if_neg (by omega), e1, if_neg (by unfold szBad; simp only; omega)]
theorem conv1_row {L : Ly} {o c i : Int} (lw lb : List Nat) (h : FldIs L 2 o 1 0 0 0) (ho : 1 ≤ o ∧ o ≤ 30) (hc : 1 ≤ c ∧ c ≤ 30) (hi : 0 ≤ i ∧ i < o) (hw : (lw.length : Int) = o * c) (hb : (lb.length : Int) = o) :
    rowV L lw lb [] [] ⟨c, 1, 1⟩ i = ⟨rangeI c.toNat, (List.range c.toNat).map (fun (k : Nat) => lw.getD (i * c + k).toNat 0), lb.getD i.toNat 0, 0⟩ := by
  obtain ⟨e1, e2⟩ := conv1_out h ho hc
  obtain ⟨h1, h2, h3, h4, h5, h6, h7, h8, h9, h10⟩ := h
  have hl : listsV L ⟨c, 1, 1⟩ = ((o * c * 1 * 1, o, 0, 0), 0) := by unfold listsV lensV; rw [e1, if_neg (by simp), if_neg (by omega), if_pos h1, h2, h3, h4]
  unfold rowV
  rw [e1, e2, if_neg (by simp), if_neg (by omega), if_neg (by unfold wholeV; rw [hl]; simp [hw, hb]), if_neg (by simp only; omega)]
  simp only [spot11]
  rw [if_neg (by omega), if_neg (by omega), if_neg (by omega)]
  unfold winV_
  simp only [if_pos h1, spot11]
  rw [winC_one _ _ _ h3 h4 h5 h6 h7 h8 ⟨by simp, by simp⟩ ⟨by simp, by simp⟩, h3, h4]
  simp only [List.map_map, Nat.zero_add]
  have q1 : List.map ((fun e : Se => placeV ⟨c, 1, 1⟩ e.at_) ∘ fun (k : Nat) => ⟨⟨(k : Int), 0, 0⟩, 0, 0⟩) (List.range c.toNat) = rangeI c.toNat := by
    unfold rangeI
    apply List.map_congr_left
    intro k _
    show placeV ⟨c, 1, 1⟩ ⟨(k : Int), 0, 0⟩ = (k : Int)
    simp [placeV]
  have q2 : List.map ((fun e : Se => lw.getD (((i * c + e.at_.c) * 1 + e.p) * 1 + e.q).toNat 0) ∘ fun (k : Nat) => ⟨⟨(k : Int), 0, 0⟩, 0, 0⟩) (List.range c.toNat) = (List.range c.toNat).map (fun (k : Nat) => lw.getD (i * c + k).toNat 0) := by
    apply List.map_congr_left
    intro k _
    show lw.getD (((i * c + (k : Int)) * 1 + 0) * 1 + 0).toNat 0 = _
    simp only [Int.mul_one, Int.add_zero]
  rw [q1, q2]
theorem dense1_row {L : Ly} {o c i : Int} (lw lb : List Nat) (h : FldIs L 1 o 0 0 0 0) (ho : 1 ≤ o ∧ o ≤ 30) (hc : 1 ≤ c ∧ c ≤ 30) (hi : 0 ≤ i ∧ i < o) (hw : (lw.length : Int) = o * c) (hb : (lb.length : Int) = o) :
    rowV L lw lb [] [] ⟨c, 1, 1⟩ i = ⟨rangeI c.toNat, (List.range c.toNat).map (fun (k : Nat) => lw.getD (i * c + k).toNat 0), lb.getD i.toNat 0, 0⟩ := by
  obtain ⟨e1, e2⟩ := dense1_out h ho hc
  obtain ⟨h1, h2, h3, h4, h5, h6, h7, h8, h9, h10⟩ := h
  have hl : listsV L ⟨c, 1, 1⟩ = ((o * (c * 1 * 1), o, 0, 0), 0) := by unfold listsV lensV; rw [e1, if_neg (by simp), if_pos h1, h2]
  have d0 : 0 ≤ i * c := Int.mul_nonneg hi.1 (by omega)
  have d1 : (i + 1) * c ≤ o * c := Int.mul_le_mul_of_nonneg_right (by omega) (by omega)
  have d2 : (i + 1) * c = i * c + c := by rw [Int.add_mul, Int.one_mul]
  unfold rowV
  rw [e1, e2, if_neg (by simp), if_neg (by omega), if_neg (by unfold wholeV; rw [hl]; simp [hw, hb]), if_neg (by simp only; omega)]
  simp only [Int.mul_one]
  rw [if_pos h1, take_drop_range _ _ _ (by omega)]
  have q : (List.range c.toNat).map (fun (k : Nat) => lw.getD ((i * c).toNat + k) 0) = (List.range c.toNat).map (fun (k : Nat) => lw.getD (i * c + k).toNat 0) := by
    apply List.map_congr_left
    intro k _
    rw [show (i * c).toNat + k = (i * c + k).toNat by omega]
  rw [q]
/-- A mean over one place, and a scale with A for every channel. -/
theorem mean1_out {L : Ly} {a : Nat} {s : Sh} (h : FldIs L 4 0 1 0 0 a) (ha : nmB a = true) (hs : ¬ szBad s) : outV L s = (s, 0) ∧ outS L s = s := by
  have hg := sz_good hs
  obtain ⟨h1, h2, h3, h4, h5, h6, h7, h8, h9, h10⟩ := h
  have e1 : outS L s = s := by
    unfold outS
    rw [if_neg (by omega), if_neg (by omega), if_pos (show winV L.k by unfold winV; omega), if_neg (by omega), h3, h4, h5, h6, h7, h8]
    obtain ⟨c, h, w⟩ := s
    simp only [Sh.mk.injEq, Int.ediv_one, true_and]
    omega
  refine ⟨?_, e1⟩
  have hf : fieldsV L = 0 := fv_0b (by omega) ⟨by rw [if_neg (by omega), if_neg (by omega)]; omega, by rw [if_pos (by omega)]; omega, by rw [if_neg (by omega)]; omega⟩ (by unfold bndA; rw [h1]; rfl) (by rw [h10]; exact ha) (by omega)
  unfold outV
  rw [hf, if_neg (by simp), if_neg hs, if_neg (by omega), if_neg (by omega), e1, if_neg hs]
theorem scale_out {L : Ly} {s : Sh} (h : FldIs L 3 0 0 0 0 0) (hs : ¬ szBad s) : outV L s = (s, 0) ∧ outS L s = s := by
  obtain ⟨h1, h2, h3, h4, h5, h6, h7, h8, h9, h10⟩ := h
  have e1 : outS L s = s := by
    unfold outS
    rw [if_neg (by omega), if_neg (by omega), if_neg (show ¬ winV L.k by unfold winV; omega)]
  refine ⟨?_, e1⟩
  have hf : fieldsV L = 0 := fv_0a (by omega) ⟨by rw [if_neg (by omega), if_neg (by omega)]; omega, by rw [if_neg (by omega)]; omega, by rw [if_neg (by omega)]; omega⟩ (by unfold bndA; rw [h1]; rfl) h10
  unfold outV
  rw [hf, if_neg (by simp), if_neg hs, if_neg (by unfold winV; omega), if_neg (by omega), e1, if_neg hs]
theorem place_spot {s : Sh} {i : Int} (hi : 0 ≤ i) (h1 : 1 ≤ s.h) (h2 : 1 ≤ s.w) : placeV s (spotV s i) = i := by
  unfold placeV spotV
  simp only
  have e1 : i / (s.h * s.w) = i / s.w / s.h := by rw [Int.mul_comm]; exact (Int.ediv_ediv_of_nonneg (by omega)).symm
  have e3 := Int.mul_ediv_add_emod i s.w
  have e4 := Int.mul_ediv_add_emod (i / s.w) s.h
  rw [e1, show i / s.w / s.h * s.h + i / s.w % s.h = i / s.w by rw [Int.mul_comm]; exact e4, Int.mul_comm]
  exact e3
theorem mean1_row {L : Ly} {a : Nat} {s : Sh} {i : Int} (h : FldIs L 4 0 1 0 0 a) (ha : nmB a = true) (hs : ¬ szBad s) (hi : 0 ≤ i ∧ i < s.c * s.h * s.w) : rowV L [] [] [] [] s i = ⟨[i], [a], 0, 0⟩ := by
  obtain ⟨e1, e2⟩ := mean1_out h ha hs
  obtain ⟨h1, h2, h3, h4, h5, h6, h7, h8, h9, h10⟩ := h
  have hg := sz_good hs
  have hl : listsV L s = ((0, 0, 0, 0), 0) := by unfold listsV lensV; rw [e1, if_neg (by simp), if_neg (by omega), if_neg (by omega), if_neg (by omega), if_neg (by omega)]
  have hp := place_spot (s := s) hi.1 (by omega) (by omega)
  have hc0 : 0 ≤ (spotV s i).c := Int.ediv_nonneg hi.1 (Int.mul_nonneg (by omega) (by omega))
  unfold rowV
  rw [e1, e2, if_neg (by simp), if_neg (by omega), if_neg (by unfold wholeV; rw [hl]; simp), if_neg (by omega)]
  simp only
  rw [if_neg (by omega), if_neg (by omega), if_neg (by omega)]
  unfold winV_
  simp only [if_neg (show ¬ L.k = 2 by omega)]
  rw [winC_one _ _ _ h3 h4 h5 h6 h7 h8 ⟨Int.emod_nonneg _ (by omega), Int.emod_lt_of_pos _ (by omega)⟩ ⟨Int.emod_nonneg _ (by omega), Int.emod_lt_of_pos _ (by omega)⟩]
  simp only [List.range_one, List.map_cons, List.map_nil, Nat.add_zero]
  rw [Int.toNat_of_nonneg hc0, h10]
  simp only [show placeV s ⟨(spotV s i).c, (spotV s i).y, (spotV s i).x⟩ = i from hp]
theorem scale_row {L : Ly} {a : Nat} {s : Sh} {i : Int} (h : FldIs L 3 0 0 0 0 0) (hs : ¬ szBad s) (hi : 0 ≤ i ∧ i < s.c * s.h * s.w) : rowV L (List.replicate s.c.toNat a) (List.replicate s.c.toNat 0) [] [] s i = ⟨[i], [a], 0, 0⟩ := by
  obtain ⟨e1, e2⟩ := scale_out h hs
  obtain ⟨h1, h2, h3, h4, h5, h6, h7, h8, h9, h10⟩ := h
  have hg := sz_good hs
  have hl : listsV L s = ((s.c, s.c, 0, 0), 0) := by unfold listsV lensV; rw [e1, if_neg (by simp), if_neg (by omega), if_neg (by omega), if_pos h1]
  have hc0 : 0 ≤ (spotV s i).c := Int.ediv_nonneg hi.1 (Int.mul_nonneg (by omega) (by omega))
  have b1 := mul_bd (a := s.h) (b := s.w) (A := 256) (B := 256) (by omega) (by omega) (by omega) (by omega)
  have hc1 : (spotV s i).c < s.c := Int.ediv_lt_of_lt_mul (by omega) (by rw [← Int.mul_assoc]; exact hi.2)
  unfold rowV
  rw [e1, e2, if_neg (by simp), if_neg (by omega), if_neg (by unfold wholeV; rw [hl]; simp only [List.length_replicate, show ((s.c.toNat : Nat) : Int) = s.c by omega]; simp), if_neg (by omega)]
  simp only
  rw [if_neg (by omega), if_pos h1]
  have e : ∀ x, (List.replicate s.c.toNat x).getD (spotV s i).c.toNat 0 = x := fun x => by
    rw [List.getD_eq_getElem?_getD, List.getElem?_replicate, if_pos (by omega)]; rfl
  rw [e, e]
end Go.Proofs.Ytkfhablonnjgeaa
