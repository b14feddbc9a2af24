/- Plain laws of chapter 1: what is written is read wherever it stands, what is read is written just so, and every shorter beginning is too short. No program in sight; no condition. -/
import Derived.Test.YtpeomdobcobdiaaDoorWT
import Derived.Test.YtpeomdobcobdiaaDoorFlt
import Derived.Test.YtpeomdobcobdiaaDoorLaw1
namespace Go.Proofs.YtpeomdobcobdiaaDoor
set_option linter.unusedVariables false
set_option linter.unusedSimpArgs false
theorem dropAt1 {α : Type} {l : List α} {n : Nat} {x : α} {r : List α} (h : l.drop n = x :: r) (z : α) : n < l.length ∧ l.getD n z = x ∧ l.drop (n + 1) = r := by
  have hl : n < l.length := by
    rcases Nat.lt_or_ge n l.length with h1 | h1
    · exact h1
    · rw [List.drop_eq_nil_of_le h1] at h; cases h
  rw [List.drop_eq_getElem_cons hl] at h
  injection h with h1 h2
  exact ⟨hl, by rw [List.getD_eq_getElem?_getD, List.getElem?_eq_getElem hl]; exact h1, h2⟩
theorem drop_get {α : Type} (l : List α) (n : Nat) (z : α) (h : n < l.length) : l.drop n = l.getD n z :: l.drop (n + 1) := by
  rw [List.drop_eq_getElem_cons h, List.getD_eq_getElem?_getD, List.getElem?_eq_getElem h]; rfl
theorem encU_pos (m : Nat) : 0 < (encU m).length := by
  by_cases h : m < 128
  · rw [encU_small h]; simp
  · rw [encU_big h]; simp
theorem low7 (m : Nat) : (UInt8.ofNat (128 + m % 128)).toNat = 128 + m % 128 := by rw [UInt8.toNat_ofNat']; omega
theorem rdGo_enc (l : List UInt8) (at_ : Nat) : ∀ (k i v m : Nat) (rest : List UInt8), m < 128 ^ k → (m = 0 → i = 0 ∧ 0 < k) → l.drop (at_ + i) = encU m ++ rest →
    rdGo l at_ k i v = (((v + m * 128 ^ i : Nat) : Int), ((at_ + i + (encU m).length : Nat) : Int), 0) := by
  intro k
  induction k with
  | zero => intro i v m rest h h0 _; have := h0 (by simpa using h); omega
  | succ k ih =>
    intro i v m rest h h0 hd
    by_cases hm : m < 128
    · rw [encU_small hm] at hd ⊢
      obtain ⟨h1, h2, _⟩ := dropAt1 hd 0
      have h3 : (l.getD (at_ + i) 0).toNat = m := by rw [h2, UInt8.toNat_ofNat']; omega
      rw [rdGo_end h1 (by omega) (by rw [h3]; intro hh; have := h0 hh.1; omega), h3, Nat.mod_eq_of_lt hm]
      simp
    · rw [encU_big hm] at hd ⊢
      obtain ⟨h1, h2, h3⟩ := dropAt1 hd 0
      have h4 : (l.getD (at_ + i) 0).toNat = 128 + m % 128 := by rw [h2, low7]
      rw [rdGo_more h1 (by omega), h4, ih (i + 1) _ (m / 128) rest (by rw [Nat.div_lt_iff_lt_mul (by decide)]; rwa [Nat.pow_succ] at h) (by omega) h3]
      have e : v + (128 + m % 128) % 128 * 128 ^ i + m / 128 * 128 ^ (i + 1) = v + m * 128 ^ i := by
        rw [show (128 + m % 128) % 128 = m % 128 by omega, Nat.pow_succ, Nat.mul_comm (128 ^ i) 128, ← Nat.mul_assoc, Nat.add_assoc, ← Nat.add_mul]
        congr 2; omega
      rw [e, List.length_cons]
      congr 2
      omega
theorem rdGo_cut (l : List UInt8) (at_ : Nat) : ∀ (k i v m j : Nat), m < 128 ^ (k + 1) → j < (encU m).length → l.drop (at_ + i) = (encU m).take j → rdGo l at_ (k + 1) i v = (0, 0, 10) := by
  intro k
  induction k with
  | zero =>
    intro i v m j h hj hd
    rw [encU_small (by simpa using h)] at hj hd
    simp at hj
    subst hj
    refine rdGo_short ?_
    simpa using hd
  | succ k ih =>
    intro i v m j h hj hd
    cases j with
    | zero => exact rdGo_short (by simpa using hd)
    | succ j =>
      by_cases hm : m < 128
      · rw [encU_small hm] at hj; simp at hj
      · rw [encU_big hm] at hj hd
        rw [List.take_succ_cons] at hd
        obtain ⟨h1, h2, h3⟩ := dropAt1 hd 0
        have h4 : (l.getD (at_ + i) 0).toNat = 128 + m % 128 := by rw [h2, low7]
        rw [rdGo_more h1 (by omega)]
        exact ih (i + 1) _ (m / 128) j (by rw [Nat.div_lt_iff_lt_mul (by decide)]; rwa [Nat.pow_succ] at h) (by simpa using hj) h3
theorem rdGo_back (l : List UInt8) (at_ : Nat) : ∀ (k i v : Nat), (rdGo l at_ k i v).2.2 = 0 → ∃ m, rdGo l at_ k i v = (((v + m * 128 ^ i : Nat) : Int), ((at_ + i + (encU m).length : Nat) : Int), 0) ∧ (m = 0 → i = 0) ∧
    (l.drop (at_ + i)).take (encU m).length = encU m ∧ at_ + i + (encU m).length ≤ l.length := by
  intro k
  induction k with
  | zero => intro i v h; simp [rdGo] at h
  | succ k ih =>
    intro i v h
    by_cases hl : l.length ≤ at_ + i
    · rw [rdGo_short hl] at h; simp at h
    · have hd := drop_get l (at_ + i) 0 (by omega)
      by_cases hc : (l.getD (at_ + i) 0).toNat < 128
      · by_cases h0 : (l.getD (at_ + i) 0).toNat = 0 ∧ 0 < i
        · rw [rdGo_form (by omega) h0.1 h0.2] at h; simp at h
        · refine ⟨(l.getD (at_ + i) 0).toNat, ?_, by omega, ?_, ?_⟩
          · rw [rdGo_end (by omega) hc h0, encU_small hc, Nat.mod_eq_of_lt hc]; simp
          · rw [encU_small hc, hd]; simp
          · rw [encU_small hc]; simp; omega
      · rw [rdGo_more (by omega) (by omega)] at h ⊢
        have hlt := (l.getD (at_ + i) 0).toNat_lt
        obtain ⟨m, h1, h2, h3, h4⟩ := ih _ _ h
        generalize hcx : (l.getD (at_ + i) 0).toNat = c at h1 hc hlt ⊢
        have hm0 : m ≠ 0 := fun hh => by have := h2 hh; omega
        have hb : ¬ c % 128 + 128 * m < 128 := by omega
        have e1 : (c % 128 + 128 * m) % 128 = c % 128 := by omega
        have e2 : (c % 128 + 128 * m) / 128 = m := by omega
        refine ⟨c % 128 + 128 * m, ?_, by omega, ?_, ?_⟩
        · rw [h1, encU_big hb, e2, List.length_cons]
          have e : v + c % 128 * 128 ^ i + m * 128 ^ (i + 1) = v + (c % 128 + 128 * m) * 128 ^ i := by
            rw [Nat.pow_succ, Nat.mul_comm (128 ^ i) 128, ← Nat.mul_assoc, Nat.mul_comm m 128, Nat.add_assoc, ← Nat.add_mul]
          rw [e]
          congr 2
          omega
        · rw [encU_big hb, e1, e2, hd, List.length_cons, List.take_succ_cons, show at_ + i + 1 = at_ + (i + 1) by omega, h3]
          congr 1
          rw [← hcx]
          exact (ofNat_toNat _ _ (by omega)).symm
        · rw [encU_big hb, e2, List.length_cons]; omega
theorem drop_pre {α : Type} (pre x : List α) : (pre ++ x).drop pre.length = x := List.drop_left
theorem readUV_enc (pre rest : List UInt8) (n : Nat) (h : n < 9223372036854775808) : readUV (pre ++ encU n ++ rest) (pre.length : Nat) = ((n : Int), ((pre.length + (encU n).length : Nat) : Int), 0) := by
  unfold readUV
  rw [if_neg (by simp only [List.length_append]; omega), Int.toNat_natCast, rdGo_enc _ _ 9 0 0 n rest (by rwa [show (128 : Nat) ^ 9 = 9223372036854775808 by decide]) (by omega) (by rw [Nat.add_zero, List.append_assoc]; exact drop_pre _ _)]
  simp
theorem readUV_cut (n j : Nat) (h : n < 9223372036854775808) (hj : j < (encU n).length) : readUV ((encU n).take j) 0 = (0, 0, 10) := by
  unfold readUV
  rw [if_neg (by omega)]
  exact rdGo_cut _ _ 8 0 0 n j (by rwa [show (128 : Nat) ^ 9 = 9223372036854775808 by decide]) hj (by simp)
theorem readUV_back (l : List UInt8) (at_ : Int) (h : (readUV l at_).2.2 = 0) : ∃ m : Nat, 0 ≤ at_ ∧ readUV l at_ = ((m : Int), at_ + (encU m).length, 0) ∧ (l.drop at_.toNat).take (encU m).length = encU m ∧ at_.toNat + (encU m).length ≤ l.length := by
  have h0 := (readUV_ok h).1
  unfold readUV at h ⊢
  by_cases hc : at_ < 0 ∨ (l.length : Int) < at_
  · rw [if_pos hc] at h; simp at h
  rw [if_neg hc] at h ⊢
  obtain ⟨m, h1, _, h3, h4⟩ := rdGo_back l at_.toNat 9 0 0 h
  refine ⟨m, h0, ?_, by simpa using h3, by simpa using h4⟩
  rw [h1]
  simp
  omega
/-! ### floats -/
theorem vHi_enc (l : List UInt8) (at_ : Nat) : ∀ (n k u : Nat) (rest : List UInt8), u < 256 ^ n → l.drop (at_ + k) = leB u n ++ rest → vHi l at_ k n = u := by
  intro n
  induction n with
  | zero => intro k u rest h _; simp at h; simp [vHi, h]
  | succ n ih =>
    intro k u rest h hd
    rw [leB] at hd
    obtain ⟨h1, h2, h3⟩ := dropAt1 hd 0
    rw [vHi, h2, UInt8.toNat_ofNat', ih (k + 1) (u / 256) rest (by rw [Nat.div_lt_iff_lt_mul (by decide)]; rwa [Nat.pow_succ] at h) h3]
    omega
theorem leB_vHi (l : List UInt8) (at_ : Nat) : ∀ (n k : Nat), at_ + k + n ≤ l.length → leB (vHi l at_ k n) n = (l.drop (at_ + k)).take n := by
  intro n
  induction n with
  | zero => intro k _; simp [leB]
  | succ n ih =>
    intro k h
    have hlt := (l.getD (at_ + k) 0).toNat_lt
    rw [drop_get l (at_ + k) 0 (by omega), List.take_succ_cons, vHi, leB, show ((l.getD (at_ + k) 0).toNat + 256 * vHi l at_ (k + 1) n) / 256 = vHi l at_ (k + 1) n by omega, ih (k + 1) (by omega), ofNat_toNat (l.getD (at_ + k) 0) _ (by omega)]
    rfl
theorem readFloat_enc (pre rest : List UInt8) (u : Nat) (h : u < 18446744073709551616) (hn : numB u = true) : readFloatV (pre ++ leB u 8 ++ rest) (pre.length : Nat) = (u, ((pre.length + 8 : Nat) : Int), 0) := by
  unfold readFloatV
  have hl := leB_len 8 u
  have hv : vLE (pre ++ leB u 8 ++ rest) pre.length 8 = u := by
    rw [vLE_all]
    exact vHi_enc _ _ 8 0 u rest (by simpa using h) (by rw [Nat.add_zero, List.append_assoc]; exact drop_pre _ _)
  rw [if_neg (by simp only [List.length_append]; omega), if_neg (by simp only [List.length_append]; omega), Int.toNat_natCast, hv, if_neg (by rw [hn]; simp)]
  congr 2
theorem readFloat_cut (x : List UInt8) (h : x.length < 8) : readFloatV x 0 = (0, 0, 10) := by
  unfold readFloatV
  rw [if_neg (by omega), if_pos (by omega)]
theorem readFloat_back (l : List UInt8) (at_ : Int) (h : (readFloatV l at_).2.2 = 0) : 0 ≤ at_ ∧ (readFloatV l at_).2.1 = at_ + 8 ∧ at_ + 8 ≤ l.length ∧ numB (readFloatV l at_).1 = true ∧ (readFloatV l at_).1 < 18446744073709551616 ∧ leB (readFloatV l at_).1 8 = (l.drop at_.toNat).take 8 := by
  unfold readFloatV at h ⊢
  by_cases h1 : at_ < 0 ∨ (l.length : Int) < at_
  · rw [if_pos h1] at h; simp at h
  rw [if_neg h1] at h ⊢
  by_cases h2 : (l.length : Int) - at_ < 8
  · rw [if_pos h2] at h; simp at h
  rw [if_neg h2] at h ⊢
  by_cases h3 : numB (vLE l at_.toNat 8) = false
  · rw [if_pos h3] at h; simp at h
  rw [if_neg h3] at h ⊢
  have := vLE_lt l at_.toNat 8
  refine ⟨by omega, rfl, by omega, by simpa using h3, by simpa using this, ?_⟩
  show leB (vLE l at_.toNat 8) 8 = _
  rw [vLE_all, leB_vHi l at_.toNat 8 0 (by omega), Nat.add_zero]
/-! ### texts -/
def textE (s : ByteArray) : List UInt8 := encU s.size ++ s.data.toList
theorem data_len (s : ByteArray) : s.data.toList.length = s.size := Array.length_toList
theorem readText_enc (pre rest : List UInt8) (s : ByteArray) (most : Int) (h : s.size < 9223372036854775808) (hm : (s.size : Int) ≤ most) (hr : (runesV s).2 = true) :
    readTextV (pre ++ textE s ++ rest) (pre.length : Nat) most = (s, ((pre.length + (textE s).length : Nat) : Int), 0) := by
  unfold readTextV textE
  have e1 : pre ++ (encU s.size ++ s.data.toList) ++ rest = pre ++ encU s.size ++ (s.data.toList ++ rest) := by simp
  have hd := data_len s
  rw [if_neg (by simp only [List.length_append]; omega), e1, readUV_enc _ _ _ h]
  simp only
  have hb : textB (pre ++ encU s.size ++ (s.data.toList ++ rest)) (((pre.length + (encU s.size).length : Nat) : Int)).toNat ((s.size : Int)).toNat = s := by
    unfold textB
    rw [Int.toNat_natCast, Int.toNat_natCast, drop_len (pre ++ encU s.size) _ _ (by simp), take_len s.data.toList _ _ hd, strB_data]
  rw [if_neg (by simp), if_neg (by omega), if_neg (by simp only [List.length_append]; omega), hb, if_neg (by rw [hr]; simp)]
  simp only [List.length_append, hd]
  congr 2
  push_cast; omega
theorem readText_cut (s : ByteArray) (most : Int) (j : Nat) (h : s.size < 9223372036854775808) (hm : (s.size : Int) ≤ most) (hj : j < (textE s).length) : readTextV ((textE s).take j) 0 most = (⟨#[]⟩, 0, 10) := by
  have hd := data_len s
  unfold readTextV
  rw [if_neg (by omega)]
  rcases Nat.lt_or_ge j (encU s.size).length with hj2 | hj2
  · have e1 : (textE s).take j = (encU s.size).take j := by unfold textE; rw [List.take_append_of_le_length (by omega)]
    rw [e1, readUV_cut _ _ h hj2]
    simp
  · have e1 : (textE s).take j = [] ++ encU s.size ++ s.data.toList.take (j - (encU s.size).length) := by unfold textE; rw [List.take_append, List.take_of_length_le hj2]; rfl
    have hr := readUV_enc [] (s.data.toList.take (j - (encU s.size).length)) s.size h
    rw [show (([] : List UInt8).length : Int) = 0 from rfl] at hr
    rw [e1, hr]
    unfold textE at hj
    rw [List.length_append] at hj
    simp only
    rw [if_neg (by simp), if_neg (by omega), if_pos (by simp only [List.length_append, List.length_take, List.length_nil]; omega)]
theorem readText_back (l : List UInt8) (at_ most : Int) (h : (readTextV l at_ most).2.2 = 0) : 0 ≤ at_ ∧ (runesV (readTextV l at_ most).1).2 = true ∧ ((readTextV l at_ most).1.size : Int) ≤ most ∧
    (readTextV l at_ most).2.1 = at_ + (textE (readTextV l at_ most).1).length ∧ at_.toNat + (textE (readTextV l at_ most).1).length ≤ l.length ∧ (l.drop at_.toNat).take (textE (readTextV l at_ most).1).length = textE (readTextV l at_ most).1 := by
  unfold readTextV at h ⊢
  by_cases h1 : at_ < 0 ∨ (l.length : Int) < at_ ∨ most < 0
  · rw [if_pos h1] at h; simp at h
  rw [if_neg h1] at h ⊢
  simp only at h ⊢
  by_cases h2 : (readUV l at_).2.2 ≠ 0
  · rw [if_pos h2] at h; exact absurd h h2
  rw [if_neg h2] at h ⊢
  obtain ⟨m, g0, g1, g2, g3⟩ := readUV_back l at_ (by simpa using h2)
  rw [g1] at h ⊢
  simp only at h ⊢
  by_cases h3 : most < (m : Int)
  · rw [if_pos h3] at h; simp at h
  rw [if_neg h3] at h ⊢
  by_cases h4 : (l.length : Int) - (at_ + (encU m).length) < (m : Int)
  · rw [if_pos h4] at h; simp at h
  rw [if_neg h4] at h ⊢
  have ep : (at_ + ((encU m).length : Int)).toNat = at_.toNat + (encU m).length := by omega
  rw [ep, Int.toNat_natCast] at h ⊢
  have hs : (textB l (at_.toNat + (encU m).length) m).size = m := by
    unfold textB; rw [strB_size, List.length_take, List.length_drop]; omega
  have hsd : (textB l (at_.toNat + (encU m).length) m).data.toList = (l.drop (at_.toNat + (encU m).length)).take m := by unfold textB; rw [strB_toList]
  by_cases h5 : (runesV (textB l (at_.toNat + (encU m).length) m)).2 = false
  · rw [if_pos h5] at h; simp at h
  rw [if_neg h5] at h ⊢
  have hl : (textE (textB l (at_.toNat + (encU m).length) m)).length = (encU m).length + m := by unfold textE; rw [hs, List.length_append, data_len, hs]
  refine ⟨g0, by simpa using h5, by rw [hs]; omega, ?_, ?_, ?_⟩
  · simp only [hl]; push_cast; omega
  · simp only [hl]; omega
  · simp only [hl]
    unfold textE
    rw [hs, hsd, ← g2, List.take_add, List.drop_drop]
    simp only [List.length_take, List.length_drop, g2]
/-! ### frames -/
theorem readFrame_cut (body : List UInt8) (h : body.length ≤ 1048576) (j : Nat) (hj : j < body.length + 12) : readFrameV ((frameB body).take j) 0 = ([], 0, 10) := by
  have hl := frameB_len body
  unfold readFrameV
  rw [if_neg (by omega)]
  simp only [Int.toNat_zero, List.drop_zero]
  have hlen : ((frameB body).take j).length = j := by rw [List.length_take]; omega
  by_cases h8 : j < 8
  · rw [if_pos (by omega)]
  rw [if_neg (by omega)]
  have e0 : frameB body = le4 body.length ++ (le4 (crcV (le4 body.length)) ++ (body ++ le4 (crcV body))) := by simp [frameB]
  have h4 : ((frameB body).take j).take 4 = le4 body.length := by rw [List.take_take, show min 4 j = 4 by omega, e0]; exact take_len _ _ 4 (le4_len _)
  have h5 : (((frameB body).take j).drop 4).take 4 = le4 (crcV (le4 body.length)) := by
    rw [List.drop_take, List.take_take, show min 4 (j - 4) = 4 by omega, e0, drop_len _ _ 4 (le4_len _)]; exact take_len _ _ 4 (le4_len _)
  rw [h4, h5, wordV_le4 _ (crcV_lt _), if_neg (by simp), wordV_le4 _ (by omega), if_neg (by omega), if_pos (by omega)]
theorem readFrame_back (l : List UInt8) (at_ : Int) (h : (readFrameV l at_).2.2 = 0) : 0 ≤ at_ ∧ (readFrameV l at_).1.length ≤ 1048576 ∧ (readFrameV l at_).2.1 = at_ + (frameB (readFrameV l at_).1).length ∧ at_.toNat + (frameB (readFrameV l at_).1).length ≤ l.length ∧
    (l.drop at_.toNat).take (frameB (readFrameV l at_).1).length = frameB (readFrameV l at_).1 := by
  unfold readFrameV at h ⊢
  by_cases h1 : at_ < 0 ∨ (l.length : Int) < at_
  · rw [if_pos h1] at h; simp at h
  rw [if_neg h1] at h ⊢
  simp only at h ⊢
  have hM : (l.drop at_.toNat).length = l.length - at_.toNat := List.length_drop
  generalize l.drop at_.toNat = M at h hM ⊢
  by_cases h2 : M.length < 8
  · rw [if_pos h2] at h; simp at h
  rw [if_neg h2] at h ⊢
  by_cases h3 : wordV ((M.drop 4).take 4) ≠ crcV (M.take 4)
  · rw [if_pos h3] at h; simp at h
  rw [if_neg h3] at h ⊢
  by_cases h4 : 1048576 < wordV (M.take 4)
  · rw [if_pos h4] at h; simp at h
  rw [if_neg h4] at h ⊢
  by_cases h5 : M.length < 12 + wordV (M.take 4)
  · rw [if_pos h5] at h; simp at h
  rw [if_neg h5] at h ⊢
  by_cases h6 : wordV ((M.drop (8 + wordV (M.take 4))).take 4) ≠ crcV ((M.drop 8).take (wordV (M.take 4)))
  · rw [if_pos h6] at h; simp at h
  rw [if_neg h6] at h ⊢
  have h3 : wordV ((M.drop 4).take 4) = crcV (M.take 4) := by simpa using h3
  have h6 : wordV ((M.drop (8 + wordV (M.take 4))).take 4) = crcV ((M.drop 8).take (wordV (M.take 4))) := by simpa using h6
  generalize hn : wordV (M.take 4) = n at h4 h5 h6 ⊢
  have hbl : ((M.drop 8).take n).length = n := by rw [List.length_take, List.length_drop]; omega
  have hfl := frameB_len ((M.drop 8).take n)
  rw [hbl] at hfl
  simp only [hfl]
  refine ⟨by omega, by omega, by push_cast; omega, by omega, ?_⟩
  have ht4 : le4 n = M.take 4 := by rw [← hn]; exact le4_wordV _ (by rw [List.length_take]; omega)
  have ht8 : le4 (crcV (M.take 4)) = (M.drop 4).take 4 := by rw [← h3]; exact le4_wordV _ (by rw [List.length_take, List.length_drop]; omega)
  have htn : le4 (crcV ((M.drop 8).take n)) = (M.drop (8 + n)).take 4 := by rw [← h6]; exact le4_wordV _ (by rw [List.length_take, List.length_drop]; omega)
  unfold frameB
  rw [hbl, ht4, ht8, htn]
  rw [show n + 12 = 4 + (4 + (n + 4)) by omega, List.take_add, List.take_add, List.take_add, List.drop_drop, List.drop_drop]
  simp only [List.append_assoc]
end Go.Proofs.YtpeomdobcobdiaaDoor
