/- Plain words for chapter 1: code points. No program in sight; no condition. -/
import Derived.Test.YtpeomdobcobdiaaDoorW8
namespace Go.Proofs.YtpeomdobcobdiaaDoor
set_option linter.unusedVariables false
set_option linter.unusedSimpArgs false
/-- The form of a code point. -/
def pointB (p : Int) : List UInt8 :=
  if p < 0 ∨ 1114111 < p ∨ (55296 ≤ p ∧ p ≤ 57343) then []
  else if p < 128 then [toB p]
  else if p < 2048 then [toB (192 + p / 64), toB (128 + p % 64)]
  else if p < 65536 then [toB (224 + p / 4096), toB (128 + p / 64 % 64), toB (128 + p % 64)]
  else [toB (240 + p / 262144), toB (128 + p / 4096 % 64), toB (128 + p / 64 % 64), toB (128 + p % 64)]
/-- The byte at a place, as a number. -/
def bN (s : ByteArray) (i : Nat) : Nat := (s.data.toList.getD i 0).toNat
theorem bN_lt (s : ByteArray) (i : Nat) : bN s i < 256 := (s.data.toList.getD i 0).toNat_lt
theorem bN_get (s : ByteArray) (i : Nat) : (s.get! i).toNat = bN s i := by
  unfold bN
  have e2 : s.get! i = s.data[i]! := rfl
  rw [e2, Array.getElem!_eq_getD, Array.getD_eq_getD_getElem?, List.getD_eq_getElem?_getD, Array.getElem?_toList]
  rfl
/-- What goes on at a place. -/
def lowV (s : ByteArray) (i : Nat) : Int := if s.size ≤ i ∨ bN s i < 128 ∨ 191 < bN s i then -1099511627776 else bN s i - 128
/-- What stands at a place, by its form: the number and the length. -/
def atP (s : ByteArray) (i : Nat) : Int × Nat :=
  let c : Int := bN s i
  if 240 ≤ c then ((c - 240) * 262144 + lowV s (i + 1) * 4096 + lowV s (i + 2) * 64 + lowV s (i + 3), 4)
  else if 224 ≤ c then ((c - 224) * 4096 + lowV s (i + 1) * 64 + lowV s (i + 2), 3)
  else if 192 ≤ c then ((c - 192) * 64 + lowV s (i + 1), 2)
  else (c, 1)
def sub (s : ByteArray) (i n : Nat) : List UInt8 := (s.data.toList.drop i).take n
def atV (s : ByteArray) (i : Nat) : Int × Int :=
  if s.size < i + (atP s i).2 ∨ (pointB (atP s i).1).length ≠ (atP s i).2 ∨ pointB (atP s i).1 ≠ sub s i (atP s i).2 then (0, 0) else ((atP s i).1, (atP s i).2)
/-- The decoder's word for it. -/
def badAt (s : ByteArray) (i : Nat) : Prop := (Utf8.decode s i).1 = 65533 ∧ (Utf8.decode s i).2 = 1
theorem toB_bN (s : ByteArray) (i : Nat) (x : Int) (h : x = bN s i) : toB x = s.data.toList.getD i 0 := by
  subst h
  unfold toB bN
  apply UInt8.toNat_inj.1
  rw [UInt8.toNat_ofNat']
  have := (s.data.toList.getD i 0).toNat_lt
  omega
theorem sub_cons (s : ByteArray) (i n : Nat) (h : i < s.size) : sub s i (n + 1) = s.data.toList.getD i 0 :: sub s (i + 1) n := by
  have hl : i < s.data.toList.length := by rw [Array.length_toList]; exact h
  unfold sub
  rw [List.drop_eq_getElem_cons hl, List.take_succ_cons, List.getD_eq_getElem?_getD, List.getElem?_eq_getElem hl]
  rfl
theorem sub_zero (s : ByteArray) (i : Nat) : sub s i 0 = [] := by simp [sub]
theorem valid_iff (c : Nat) : Utf8.valid (c : Int) = true ↔ (c < 55296 ∨ (57344 ≤ c ∧ c ≤ 1114111)) := by
  simp [Utf8.valid]; omega
theorem decode_bN (s : ByteArray) (i : Nat) : Utf8.decode s i =
    (if bN s i < 128 then (bN s i, 1)
    else if bN s i / 32 = 6 ∧ (i + 1 < s.size ∧ bN s (i + 1) / 64 = 2) then
      (if 128 ≤ (bN s i % 32) * 64 + bN s (i + 1) % 64 then ((bN s i % 32) * 64 + bN s (i + 1) % 64, 2) else (65533, 1))
    else if bN s i / 16 = 14 ∧ (i + 1 < s.size ∧ bN s (i + 1) / 64 = 2) ∧ (i + 2 < s.size ∧ bN s (i + 2) / 64 = 2) then
      (if 2048 ≤ (bN s i % 16) * 4096 + (bN s (i + 1) % 64) * 64 + bN s (i + 2) % 64 ∧ Utf8.valid (((bN s i % 16) * 4096 + (bN s (i + 1) % 64) * 64 + bN s (i + 2) % 64 : Nat) : Int) = true then ((bN s i % 16) * 4096 + (bN s (i + 1) % 64) * 64 + bN s (i + 2) % 64, 3) else (65533, 1))
    else if bN s i / 8 = 30 ∧ (i + 1 < s.size ∧ bN s (i + 1) / 64 = 2) ∧ (i + 2 < s.size ∧ bN s (i + 2) / 64 = 2) ∧ (i + 3 < s.size ∧ bN s (i + 3) / 64 = 2) then
      (if 65536 ≤ (bN s i % 8) * 262144 + (bN s (i + 1) % 64) * 4096 + (bN s (i + 2) % 64) * 64 + bN s (i + 3) % 64 ∧ Utf8.valid (((bN s i % 8) * 262144 + (bN s (i + 1) % 64) * 4096 + (bN s (i + 2) % 64) * 64 + bN s (i + 3) % 64 : Nat) : Int) = true then ((bN s i % 8) * 262144 + (bN s (i + 1) % 64) * 4096 + (bN s (i + 2) % 64) * 64 + bN s (i + 3) % 64, 4) else (65533, 1))
    else (65533, 1)) := by
  unfold Utf8.decode
  simp only [bN_get, Nat.add_zero, Bool.and_eq_true, beq_iff_eq, decide_eq_true_eq, and_assoc, ge_iff_le, Utf8.runeError]
theorem pointB_none {p : Int} (h : p < 0 ∨ 1114111 < p ∨ (55296 ≤ p ∧ p ≤ 57343)) : pointB p = [] := by unfold pointB; rw [if_pos h]
theorem pointB_1 {p : Int} (h0 : 0 ≤ p) (h : p < 128) : pointB p = [toB p] := by unfold pointB; rw [if_neg (by omega), if_pos h]
theorem pointB_2 {p : Int} (h0 : 128 ≤ p) (h : p < 2048) : pointB p = [toB (192 + p / 64), toB (128 + p % 64)] := by unfold pointB; rw [if_neg (by omega), if_neg (by omega), if_pos h]
theorem pointB_3 {p : Int} (h0 : 2048 ≤ p) (h : p < 65536) (h2 : ¬ (55296 ≤ p ∧ p ≤ 57343)) : pointB p = [toB (224 + p / 4096), toB (128 + p / 64 % 64), toB (128 + p % 64)] := by
  unfold pointB; rw [if_neg (by omega), if_neg (by omega), if_neg (by omega), if_pos h]
theorem pointB_4 {p : Int} (h0 : 65536 ≤ p) (h : p ≤ 1114111) : pointB p = [toB (240 + p / 262144), toB (128 + p / 4096 % 64), toB (128 + p / 64 % 64), toB (128 + p % 64)] := by
  unfold pointB; rw [if_neg (by omega), if_neg (by omega), if_neg (by omega), if_neg (by omega)]
theorem atV_bad {s : ByteArray} {i : Nat} (h : (pointB (atP s i).1).length ≠ (atP s i).2) : atV s i = (0, 0) := by
  unfold atV; rw [if_pos (.inr (.inl h))]
theorem atV_good {s : ByteArray} {i : Nat} {p : Int} {n : Nat} (h : atP s i = (p, n)) (h1 : i + n ≤ s.size) (h2 : pointB p = sub s i n) (h3 : (pointB p).length = n) : atV s i = (p, (n : Int)) := by
  unfold atV; rw [h]; simp only; rw [if_neg (by simp only [h2, ne_eq, not_true_eq_false, or_false, not_or]; rw [← h2]; omega)]
theorem lowV_in {s : ByteArray} {i : Nat} (h : i < s.size ∧ bN s i / 64 = 2) : lowV s i = bN s i - 128 ∧ bN s i % 64 = bN s i - 128 ∧ 128 ≤ bN s i ∧ bN s i < 192 := by
  unfold lowV; rw [if_neg (by omega)]; omega
theorem lowV_out {s : ByteArray} {i : Nat} (h : ¬ (i < s.size ∧ bN s i / 64 = 2)) : lowV s i = -1099511627776 := by
  unfold lowV; rw [if_pos (by omega)]
theorem lowV_le (s : ByteArray) (i : Nat) : lowV s i ≤ 63 ∧ -1099511627776 ≤ lowV s i := by
  unfold lowV; split <;> omega
/-- What the document's forms say of a place is what the decoder says. -/
theorem atV_decode (s : ByteArray) (i : Nat) (h : i < s.size) : (badAt s i ∧ atV s i = (0, 0)) ∨ (¬ badAt s i ∧ atV s i = (((Utf8.decode s i).1 : Int), ((Utf8.decode s i).2 : Int))) := by
  have hd := decode_bN s i
  have h0 := bN_lt s i; have h1 := bN_lt s (i + 1); have h2 := bN_lt s (i + 2); have h3 := bN_lt s (i + 3)
  have l1 := lowV_le s (i + 1); have l2 := lowV_le s (i + 2); have l3 := lowV_le s (i + 3)
  by_cases c0 : bN s i < 128
  · rw [if_pos c0] at hd
    refine .inr ⟨by unfold badAt; rw [hd]; simp only; omega, ?_⟩
    rw [hd]
    refine atV_good (by unfold atP; simp only; rw [if_neg (by omega), if_neg (by omega), if_neg (by omega)]) (by omega) ?_ ?_
    · rw [pointB_1 (by omega) (by omega), sub_cons s i 0 h, sub_zero, toB_bN s i _ rfl]
    · rw [pointB_1 (by omega) (by omega)]; rfl
  rw [if_neg c0] at hd
  by_cases c1 : bN s i < 192
  · refine .inl ?_
    rw [if_neg (by omega), if_neg (by omega), if_neg (by omega)] at hd
    refine ⟨⟨by rw [hd], by rw [hd]⟩, atV_bad ?_⟩
    have e : atP s i = ((bN s i : Int), 1) := by unfold atP; simp only; rw [if_neg (by omega), if_neg (by omega), if_neg (by omega)]
    rw [e]; simp only
    rw [pointB_2 (by omega) (by omega)]; simp
  by_cases c2 : bN s i < 224
  · have e : atP s i = (((bN s i : Int) - 192) * 64 + lowV s (i + 1), 2) := by unfold atP; simp only; rw [if_neg (by omega), if_neg (by omega), if_pos (by omega)]
    by_cases k1 : i + 1 < s.size ∧ bN s (i + 1) / 64 = 2
    · rw [if_pos ⟨by omega, k1⟩] at hd
      obtain ⟨q1, q2, q3, q4⟩ := lowV_in k1
      by_cases c3 : 128 ≤ (bN s i % 32) * 64 + bN s (i + 1) % 64
      · rw [if_pos c3] at hd
        refine .inr ⟨by unfold badAt; rw [hd]; simp, ?_⟩
        rw [hd]
        have e2 : ((bN s i : Int) - 192) * 64 + lowV s (i + 1) = ((bN s i % 32 * 64 + bN s (i + 1) % 64 : Nat) : Int) := by omega
        rw [e2] at e
        refine atV_good e (by omega) ?_ ?_
        · rw [pointB_2 (by omega) (by omega), sub_cons s i 1 h, sub_cons s (i + 1) 0 k1.1, sub_zero, toB_bN s i _ (by omega), toB_bN s (i + 1) _ (by omega)]
        · rw [pointB_2 (by omega) (by omega)]; rfl
      · rw [if_neg c3] at hd
        refine .inl ⟨⟨by rw [hd], by rw [hd]⟩, atV_bad ?_⟩
        rw [e]; simp only
        rw [pointB_1 (by omega) (by omega)]; simp
    · rw [if_neg (fun h => k1 h.2), if_neg (by omega), if_neg (by omega)] at hd
      refine .inl ⟨⟨by rw [hd], by rw [hd]⟩, atV_bad ?_⟩
      have q := lowV_out k1
      rw [e]; simp only
      rw [pointB_none (.inl (by omega))]; simp
  by_cases c3 : bN s i < 240
  · have e : atP s i = (((bN s i : Int) - 224) * 4096 + lowV s (i + 1) * 64 + lowV s (i + 2), 3) := by unfold atP; simp only; rw [if_neg (by omega), if_pos (by omega)]
    rw [if_neg (by omega)] at hd
    by_cases k1 : i + 1 < s.size ∧ bN s (i + 1) / 64 = 2
    · by_cases k2 : i + 2 < s.size ∧ bN s (i + 2) / 64 = 2
      · rw [if_pos ⟨by omega, k1, k2⟩] at hd
        obtain ⟨q1, q2, q3, q4⟩ := lowV_in k1
        obtain ⟨r1, r2, r3, r4⟩ := lowV_in k2
        have e2 : ((bN s i : Int) - 224) * 4096 + lowV s (i + 1) * 64 + lowV s (i + 2) = ((bN s i % 16 * 4096 + bN s (i + 1) % 64 * 64 + bN s (i + 2) % 64 : Nat) : Int) := by omega
        rw [e2] at e
        simp only [valid_iff] at hd
        generalize hP : bN s i % 16 * 4096 + bN s (i + 1) % 64 * 64 + bN s (i + 2) % 64 = P at hd e
        by_cases c4 : 2048 ≤ P ∧ (P < 55296 ∨ (57344 ≤ P ∧ P ≤ 1114111))
        · rw [if_pos c4] at hd
          refine .inr ⟨by unfold badAt; rw [hd]; simp, ?_⟩
          rw [hd]
          have hpt := pointB_3 (p := (P : Int)) (by omega) (by omega) (by omega)
          refine atV_good e (by omega) ?_ ?_
          · rw [hpt, sub_cons s i 2 h, sub_cons s (i + 1) 1 k1.1, sub_cons s (i + 2) 0 k2.1, sub_zero, toB_bN s i _ (by omega), toB_bN s (i + 1) _ (by omega), toB_bN s (i + 2) _ (by omega)]
          · rw [hpt]; rfl
        · rw [if_neg c4] at hd
          refine .inl ⟨⟨by rw [hd], by rw [hd]⟩, atV_bad ?_⟩
          rw [e]; simp only
          by_cases c5 : P < 128
          · rw [pointB_1 (by omega) (by omega)]; simp
          · by_cases c6 : P < 2048
            · rw [pointB_2 (by omega) (by omega)]; simp
            · rw [pointB_none (.inr (.inr (by omega)))]; simp
      · rw [if_neg (fun h => k2 h.2.2), if_neg (by omega)] at hd
        refine .inl ⟨⟨by rw [hd], by rw [hd]⟩, atV_bad ?_⟩
        have q := lowV_out k2
        rw [e]; simp only
        rw [pointB_none (.inl (by omega))]; simp
    · rw [if_neg (fun h => k1 h.2.1), if_neg (by omega)] at hd
      refine .inl ⟨⟨by rw [hd], by rw [hd]⟩, atV_bad ?_⟩
      have q := lowV_out k1
      rw [e]; simp only
      rw [pointB_none (.inl (by omega))]; simp
  have e : atP s i = (((bN s i : Int) - 240) * 262144 + lowV s (i + 1) * 4096 + lowV s (i + 2) * 64 + lowV s (i + 3), 4) := by unfold atP; simp only; rw [if_pos (by omega)]
  rw [if_neg (by omega), if_neg (by omega)] at hd
  by_cases k1 : i + 1 < s.size ∧ bN s (i + 1) / 64 = 2
  · by_cases k2 : i + 2 < s.size ∧ bN s (i + 2) / 64 = 2
    · by_cases k3 : i + 3 < s.size ∧ bN s (i + 3) / 64 = 2
      · obtain ⟨q1, q2, q3, q4⟩ := lowV_in k1
        obtain ⟨r1, r2, r3, r4⟩ := lowV_in k2
        obtain ⟨t1, t2, t3, t4⟩ := lowV_in k3
        by_cases c7 : bN s i / 8 = 30
        · rw [if_pos ⟨c7, k1, k2, k3⟩] at hd
          have e2 : ((bN s i : Int) - 240) * 262144 + lowV s (i + 1) * 4096 + lowV s (i + 2) * 64 + lowV s (i + 3) = ((bN s i % 8 * 262144 + bN s (i + 1) % 64 * 4096 + bN s (i + 2) % 64 * 64 + bN s (i + 3) % 64 : Nat) : Int) := by omega
          rw [e2] at e
          simp only [valid_iff] at hd
          generalize hP : bN s i % 8 * 262144 + bN s (i + 1) % 64 * 4096 + bN s (i + 2) % 64 * 64 + bN s (i + 3) % 64 = P at hd e
          by_cases c4 : 65536 ≤ P ∧ (P < 55296 ∨ (57344 ≤ P ∧ P ≤ 1114111))
          · rw [if_pos c4] at hd
            refine .inr ⟨by unfold badAt; rw [hd]; simp, ?_⟩
            rw [hd]
            have hpt := pointB_4 (p := (P : Int)) (by omega) (by omega)
            refine atV_good e (by omega) ?_ ?_
            · rw [hpt, sub_cons s i 3 h, sub_cons s (i + 1) 2 k1.1, sub_cons s (i + 2) 1 k2.1, sub_cons s (i + 3) 0 k3.1, sub_zero, toB_bN s i _ (by omega), toB_bN s (i + 1) _ (by omega), toB_bN s (i + 2) _ (by omega), toB_bN s (i + 3) _ (by omega)]
            · rw [hpt]; rfl
          · rw [if_neg c4] at hd
            refine .inl ⟨⟨by rw [hd], by rw [hd]⟩, atV_bad ?_⟩
            rw [e]; simp only
            by_cases c5 : P < 128
            · rw [pointB_1 (by omega) (by omega)]; simp
            · by_cases c6 : P < 2048
              · rw [pointB_2 (by omega) (by omega)]; simp
              · by_cases c8 : 55296 ≤ P ∧ P ≤ 57343
                · rw [pointB_none (.inr (.inr (by omega)))]; simp
                · by_cases c9 : P < 65536
                  · rw [pointB_3 (by omega) (by omega) (by omega)]; simp
                  · rw [pointB_none (.inr (.inl (by omega)))]; simp
        · rw [if_neg (fun h => c7 h.1)] at hd
          refine .inl ⟨⟨by rw [hd], by rw [hd]⟩, atV_bad ?_⟩
          rw [e]; simp only
          rw [pointB_none (.inr (.inl (by omega)))]; simp
      · rw [if_neg (fun h => k3 h.2.2.2)] at hd
        refine .inl ⟨⟨by rw [hd], by rw [hd]⟩, atV_bad ?_⟩
        have q := lowV_out k3
        rw [e]; simp only
        rw [pointB_none (.inl (by omega))]; simp
    · rw [if_neg (fun h => k2 h.2.2.1)] at hd
      refine .inl ⟨⟨by rw [hd], by rw [hd]⟩, atV_bad ?_⟩
      have q := lowV_out k2
      rw [e]; simp only
      rw [pointB_none (.inl (by omega))]; simp
  · rw [if_neg (fun h => k1 h.2.1)] at hd
    refine .inl ⟨⟨by rw [hd], by rw [hd]⟩, atV_bad ?_⟩
    have q := lowV_out k1
    rw [e]; simp only
    rw [pointB_none (.inl (by omega))]; simp
end Go.Proofs.YtpeomdobcobdiaaDoor
