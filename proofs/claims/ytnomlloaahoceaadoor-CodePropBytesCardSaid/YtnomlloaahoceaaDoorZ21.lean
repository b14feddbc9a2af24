/- Contracts of functions that CodePropBytes reaches, and words to say them. No condition. -/
import Derived.Test.YtnomlloaahoceaaDoorZ20
import Derived.Test.YtnomlloaahoceaaDoorZ17
/- What a reader that goes on tells. No condition. -/
namespace Go.Proofs.YtnomlloaahoceaaDoor
open Go.RowKit
set_option linter.unusedVariables false
set_option linter.unusedSimpArgs false
def Lv (l : List UInt8) (s : RS) (V : Ex Px) : Prop := (s.e = 0 → decPropV l = V) ∧ (s.e ≠ 0 → decPropV l = .error (s.e, s.i))
theorem Lv.dead {l : List UInt8} {s : RS} {V W : Ex Px} (h : Lv l s V) (he : s.e ≠ 0) : Lv l s W := ⟨fun h0 => absurd h0 he, h.2⟩
theorem lvH (l : List UInt8) : Lv l (rsH [65, 77, 66, 80] l) (dpN l) := by
  unfold rsH Lv
  cases h : hdV [65, 77, 66, 80] l with
  | none => exact ⟨fun _ => decPropV_0 h, fun h0 => absurd rfl h0⟩
  | some x =>
    obtain ⟨x, y⟩ := x
    refine ⟨fun h0 => ?_, fun _ => decPropV_h h⟩
    unfold hdV at h
    have hx : x = 0 := h0
    subst hx
    split at h
    · injection h with h; injection h with h; omega
    split at h
    · injection h with h; injection h with h; omega
    split at h
    · injection h with h; injection h with h; omega
    · cases h
theorem rU_cases (l : List UInt8) (s : RS) (he : s.e = 0) : (∃ v a, rU l s.a = .ok (v, a) ∧ rsU l s = (v, ⟨a, 0, s.i⟩)) ∨ (∃ x, x ≠ 0 ∧ rU l s.a = .error (x, s.a) ∧ (rsU l s).2.e = x ∧ (rsU l s).2.i = s.a) := by
  by_cases h : (readUV l s.a).2.2 = 0
  · refine .inl ⟨_, _, by unfold rU; rw [if_pos h], ?_⟩
    unfold rsU
    rw [if_neg (fun h0 => h0 he)]
    unfold RS.fl
    rw [if_neg (fun h0 => h0.2 h), he]
  · refine .inr ⟨_, h, by unfold rU; rw [if_neg h], ?_⟩
    unfold rsU
    rw [if_neg (fun h0 => h0 he)]
    unfold RS.fl
    rw [if_pos ⟨he, h⟩]
    exact ⟨rfl, rfl⟩
theorem lvU {l : List UInt8} {s : RS} {f : Int → Int → Ex Px} (h : Lv l s (match rU l s.a with | .error x => .error x | .ok (v, a) => f v a)) : Lv l (rsU l s).2 (f (rsU l s).1 (rsU l s).2.a) := by
  by_cases he : s.e = 0
  · have h0 := h.1 he
    rcases rU_cases l s he with ⟨v, a, h1, h2⟩ | ⟨x, hx, h1, h2, h3⟩
    · rw [h2]
      rw [h1] at h0
      exact ⟨fun _ => h0, fun h0 => absurd rfl h0⟩
    · rw [h1] at h0
      exact ⟨fun h4 => absurd (h2.symm.trans h4) hx, fun _ => by rw [h2, h3]; exact h0⟩
  · have : rsU l s = (0, s) := if_pos he
    rw [this]
    exact h.dead he
theorem rdGo_bad (l : List UInt8) (at_ : Nat) : ∀ k i v, (rdGo l at_ k i v).2.2 ≠ 0 → (rdGo l at_ k i v).1 = 0 ∧ (rdGo l at_ k i v).2.1 = 0 := by
  intro k
  induction k with
  | zero => intro i v _; exact ⟨rfl, rfl⟩
  | succ k ih =>
    intro i v h
    by_cases hl : l.length ≤ at_ + i
    · rw [rdGo_short hl]; exact ⟨rfl, rfl⟩
    · by_cases hc : (l.getD (at_ + i) 0).toNat < 128
      · by_cases h0 : (l.getD (at_ + i) 0).toNat = 0 ∧ 0 < i
        · rw [rdGo_form (by omega) h0.1 h0.2]; exact ⟨rfl, rfl⟩
        · rw [rdGo_end (by omega) hc h0] at h; exact absurd rfl h
      · rw [rdGo_more (by omega) (by omega)] at h ⊢
        exact ih (i + 1) _ h
theorem readUV_bad {l : List UInt8} {at_ : Int} (h : (readUV l at_).2.2 ≠ 0) : (readUV l at_).1 = 0 ∧ (readUV l at_).2.1 = 0 := by
  unfold readUV at h ⊢
  split
  · exact ⟨rfl, rfl⟩
  · rename_i hn
    rw [if_neg hn] at h
    exact rdGo_bad l _ _ _ _ h
theorem rsU_ok (l : List UInt8) (s : RS) : 0 ≤ (rsU l s).1 ∧ (rsU l s).1 < 9223372036854775808 ∧ ((rsU l s).2.e = 0 → s.e = 0 ∧ 0 ≤ (rsU l s).2.a ∧ (rsU l s).2.a ≤ l.length) ∧ (0 ≤ s.a → 0 ≤ (rsU l s).2.a) := by
  by_cases he : s.e = 0
  · rcases rU_cases l s he with ⟨v, a, h1, h2⟩ | ⟨x, hx, h1, h2, h3⟩
    · have := rU_ok h1
      rw [h2]
      exact ⟨this.2.1, this.2.2.1, fun _ => ⟨he, by show 0 ≤ a; omega, this.2.2.2.2⟩, fun _ => by show 0 ≤ a; omega⟩
    · have h4 : (readUV l s.a).2.2 ≠ 0 := by
        intro h4
        unfold rU at h1
        rw [if_pos h4] at h1
        cases h1
      have h5 := readUV_bad h4
      unfold rsU at h2 ⊢
      rw [if_neg (fun h0 => h0 he)] at h2 ⊢
      simp only at h2 ⊢
      rw [h5.1, h5.2]
      exact ⟨by omega, by omega, fun h6 => absurd (h2.symm.trans h6) hx, fun _ => Int.le_refl 0⟩
  · have : rsU l s = (0, s) := if_pos he
    rw [this]
    exact ⟨Int.le_refl 0, (by show (0 : Int) < _; omega), fun h0 => absurd h0 he, id⟩
theorem lvB {l : List UInt8} {s : RS} {lo hi : Int} {c : Int → Prop} [DecidablePred c] {f : Int → Int → Ex Px} (hc : ∀ v, 0 ≤ v → (c v ↔ (v < lo ∨ hi < v)))
    (h : Lv l s (match rU l s.a with | .error x => .error x | .ok (v, a) => if c v then .error (65, s.a) else f v a)) : Lv l (rsB l lo hi s).2 (f (rsB l lo hi s).1 (rsB l lo hi s).2.a) := by
  have h1 := lvU (f := fun v a => if c v then .error (65, s.a) else f v a) h
  have hv := (rsU_ok l s).1
  unfold rsB
  by_cases hd : (rsU l s).2.e = 0 ∧ ((rsU l s).1 < lo ∨ hi < (rsU l s).1)
  · simp only [if_pos hd]
    have h2 : decPropV l = .error (65, s.a) := (h1.1 hd.1).trans (if_pos ((hc _ hv).2 hd.2))
    unfold RS.fl
    rw [if_pos ⟨hd.1, by decide⟩]
    exact ⟨fun h0 => absurd h0 (show ¬ (65 : Int) = 0 by decide), fun _ => h2⟩
  · simp only [if_neg hd]
    exact ⟨fun h0 => (h1.1 h0).trans (if_neg fun h3 => hd ⟨h0, (hc _ hv).1 h3⟩), h1.2⟩
theorem rsB_ok (l : List UInt8) (lo hi : Int) (s : RS) : 0 ≤ (rsB l lo hi s).1 ∧ (rsB l lo hi s).1 < 9223372036854775808 ∧ ((rsB l lo hi s).2.e = 0 → s.e = 0 ∧ lo ≤ (rsB l lo hi s).1 ∧ (rsB l lo hi s).1 ≤ hi ∧ 0 ≤ (rsB l lo hi s).2.a ∧ (rsB l lo hi s).2.a ≤ l.length) ∧ (0 ≤ s.a → 0 ≤ (rsB l lo hi s).2.a) := by
  obtain ⟨h1, h2, h3, h4⟩ := rsU_ok l s
  unfold rsB
  refine ⟨h1, h2, ?_⟩
  by_cases hd : (rsU l s).2.e = 0 ∧ ((rsU l s).1 < lo ∨ hi < (rsU l s).1)
  · simp only [if_pos hd]
    unfold RS.fl
    rw [if_pos ⟨hd.1, by decide⟩]
    exact ⟨fun h0 => absurd h0 (show ¬ (65 : Int) = 0 by decide), h4⟩
  · simp only [if_neg hd]
    exact ⟨fun h0 => ⟨(h3 h0).1, by omega, by omega, (h3 h0).2⟩, h4⟩
theorem lvF {l : List UInt8} : ∀ {n : Nat} {s : RS} {f : List Nat → Int → Ex Px}, Lv l s (match rFs l n s.a with | .error x => .error x | .ok (us, b) => f us b) → Lv l (rsFs l n s).2 (f (rsFs l n s).1 (rsFs l n s).2.a)
  | 0, s, f, h => h
  | n + 1, s, f, h => by
    by_cases he : s.e = 0
    · rw [rsFs_succ (fun h0 => h0 he)]
      have h0 := h.1 he
      by_cases hx : (readFloatV l s.a).2.2 = 0
      · have hr : rF l s.a = .ok ((rsF1 l s).1, (rsF1 l s).2.a) := by unfold rF; rw [if_pos hx]; rfl
        have h2 : (rsF1 l s).2.e = 0 := by
          show (s.fl (readFloatV l s.a).2.2 s.a).e = 0
          unfold RS.fl
          rw [if_neg (fun h3 => h3.2 hx)]
          exact he
        refine lvF (f := fun us b => f ((rsF1 l s).1 :: us) b) ⟨fun _ => ?_, fun h3 => absurd h2 h3⟩
        rw [h0]
        show (match (match rF l s.a with | .error x => Except.error x | .ok (u, a) => match rFs l n a with | .error x => .error x | .ok (us, b) => .ok (u :: us, b)) with | .error x => Except.error x | .ok (us, b) => f us b) = _
        rw [hr]
        show (match (match rFs l n (rsF1 l s).2.a with | .error x => Except.error x | .ok (us, b) => .ok ((rsF1 l s).1 :: us, b)) with | .error x => Except.error x | .ok (us, b) => f us b) = _
        cases rFs l n (rsF1 l s).2.a with
        | error x => rfl
        | ok q => rfl
      · have hr : rF l s.a = .error ((readFloatV l s.a).2.2, s.a) := by unfold rF; rw [if_neg hx]
        have h2 : (rsF1 l s).2.e = (readFloatV l s.a).2.2 ∧ (rsF1 l s).2.i = s.a := by
          show (s.fl (readFloatV l s.a).2.2 s.a).e = _ ∧ (s.fl (readFloatV l s.a).2.2 s.a).i = _
          unfold RS.fl
          rw [if_pos ⟨he, hx⟩]
          exact ⟨rfl, rfl⟩
        have h3 : (rsF1 l s).2.e ≠ 0 := by rw [h2.1]; exact hx
        rw [rsFs_dead h3]
        refine ⟨fun h4 => absurd h4 h3, fun _ => ?_⟩
        rw [h0]
        show (match (match rF l s.a with | .error x => Except.error x | .ok (u, a) => match rFs l n a with | .error x => .error x | .ok (us, b) => .ok (u :: us, b)) with | .error x => Except.error x | .ok (us, b) => f us b) = _
        rw [hr]
        show Except.error ((readFloatV l s.a).2.2, s.a) = Except.error ((rsF1 l s).2.e, (rsF1 l s).2.i)
        rw [h2.1, h2.2]
    · rw [rsFs_dead he]
      exact h.dead he
theorem rsFs_live (l : List UInt8) : ∀ (n : Nat) (s : RS), (s.e = 0 → 0 ≤ s.a ∧ s.a ≤ l.length) → (rsFs l n s).2.e = 0 → (rsFs l n s).1.length = n ∧ 0 ≤ (rsFs l n s).2.a ∧ (rsFs l n s).2.a ≤ l.length
  | 0, s, h, he => ⟨rfl, h he⟩
  | n + 1, s, h, he => by
    have h0 := (rsFs_ok l (n + 1) s).2.2.2 he
    rw [rsFs_succ (fun h3 => h3 h0)] at he ⊢
    have h1 := (rsFs_ok l n (rsF1 l s).2).2.2.2 he
    have hx : (readFloatV l s.a).2.2 = 0 := by
      have h2 : (s.fl (readFloatV l s.a).2.2 s.a).e = 0 := h1
      by_cases hx : (readFloatV l s.a).2.2 = 0
      · exact hx
      · unfold RS.fl at h2
        rw [if_pos ⟨h0, hx⟩] at h2
        exact absurd h2 hx
    have hr : rF l s.a = .ok ((rsF1 l s).1, (rsF1 l s).2.a) := by unfold rF; rw [if_pos hx]; rfl
    have h2 := rF_ok hr
    have h3 := rsFs_live l n (rsF1 l s).2 (fun _ => ⟨by omega, h2.2.2.1⟩) he
    exact ⟨by simp only [List.length_cons]; omega, h3.2⟩
theorem lvI {l : List UInt8} {s : RS} {c : Prop} [Decidable c] {x y : Int} {V : Ex Px} (hx : x ≠ 0) (h : Lv l s (if c then .error (x, y) else V)) : (s.e = 0 ∧ c → ∀ W, Lv l (s.fl x y) W) ∧ (¬ (s.e = 0 ∧ c) → Lv l s V) := by
  refine ⟨fun hc W => ?_, fun hc => ⟨fun h0 => (h.1 h0).trans (if_neg fun h2 => hc ⟨h0, h2⟩), h.2⟩⟩
  unfold RS.fl
  rw [if_pos ⟨hc.1, hx⟩]
  exact ⟨fun h0 => absurd h0 hx, fun _ => (h.1 hc.1).trans (if_pos hc.2)⟩
theorem lvC {l : List UInt8} {s : RS} {p : Px} {tgt at_ : Int} (h : Lv l s (dpTail l p tgt at_)) : Lv l (s.fl (formV p).1 tgt) (match tlV l at_ with | some x => .error x | none => .ok p) := by
  unfold RS.fl
  by_cases hx : (formV p).1 ≠ 0
  · by_cases he : s.e = 0
    · rw [if_pos ⟨he, hx⟩]
      exact ⟨fun h0 => absurd h0 hx, fun _ => (h.1 he).trans (dpTail_b hx)⟩
    · rw [if_neg (fun h0 => he h0.1)]
      exact h.dead he
  · rw [if_neg (fun h0 => hx h0.2)]
    refine ⟨fun h0 => (h.1 h0).trans ?_, h.2⟩
    unfold dpTail
    exact if_neg hx
theorem lvT {l : List UInt8} {s : RS} {p : Px} (h : Lv l s (match tlV l s.a with | some x => .error x | none => .ok p)) : Lv l (rsT l s) (.ok p) := by
  unfold rsT
  by_cases he : s.e ≠ 0
  · rw [if_pos he]; exact h.dead he
  · rw [if_neg he]
    have h0 := h.1 (by omega)
    cases ht : tlV l s.a with
    | none => rw [ht] at h0; exact ⟨fun _ => h0, fun h1 => absurd h1 he⟩
    | some x =>
      obtain ⟨x, y⟩ := x
      rw [ht] at h0
      refine ⟨fun h1 => ?_, fun _ => h0⟩
      have h1 : x = 0 := h1
      subst h1
      unfold tlV at ht
      split at ht
      · injection ht with ht; injection ht with ht; omega
      split at ht
      · injection ht with ht; injection ht with ht; omega
      split at ht
      · injection ht with ht; injection ht with ht; omega
      · cases ht
theorem fl_a (s : RS) (x y : Int) : (s.fl x y).a = s.a := by unfold RS.fl; split <;> rfl
theorem fl_live {s : RS} {x y : Int} (h : (s.fl x y).e = 0) : s.e = 0 := by
  unfold RS.fl at h
  split at h
  · rename_i h5; exact absurd h h5.2
  · exact h
def dpN2 (l : List UInt8) (n a : Int) : Ex Px := match rFs l n.toNat a with | .error x => .error x | .ok (C, b) => dpG l ⟨C, [], 0, [], 0, 0, 0⟩ b
theorem dpN_lv {l : List UInt8} {s : RS} (h : Lv l s (dpN l)) (ha : s.e = 0 → s.a = 5) : Lv l s (match rU l s.a with | .error x => .error x | .ok (n, a) => if n = 0 ∨ 256 < n then .error (65, s.a) else dpN2 l n a) :=
  ⟨fun he => (h.1 he).trans (by rw [ha he]; rfl), h.2⟩
theorem dpRows_lv {l : List UInt8} {s : RS} {p : Px} {n k k' : Nat} {G : List (List Nat)} (h : Lv l s (dpRows l p k G s.a)) (hC : p.C.length = n) (hk : k = k' + 1) : Lv l s (match rFs l n s.a with | .error x => .error x | .ok (us, b) => dpRows l p k' (G ++ [us]) b) := by
  subst hk hC
  exact h
def dpClaim2 (l : List UInt8) (p : Px) (tgt : Int) (k : Nat) (M : List (List Nat)) (m a : Int) : Ex Px := match rFs l m.toNat a with | .error x => .error x | .ok (us, b) => dpClaims l p tgt k (M ++ [us]) b
def dpClaim1 (l : List UInt8) (p : Px) (tgt : Int) (k : Nat) (M : List (List Nat)) (at_ m a : Int) : Ex Px := if m < 2 ∨ 257 < m ∨ (0 < M.length ∧ m ≠ (M.getD 0 []).length) then .error (63, at_) else dpClaim2 l p tgt k M m a
theorem dpClaims_lv {l : List UInt8} {s : RS} {p : Px} {tgt : Int} {n k : Nat} {M : List (List Nat)} (h : Lv l s (dpClaims l p tgt n M s.a)) (hn : n = k + 1) : Lv l s (match rU l s.a with | .error x => .error x | .ok (m, a) => dpClaim1 l p tgt k M s.a m a) := by
  subst hn
  exact h
def dpNums3 (l : List UInt8) (p : Px) (tgt k d b : Int) : Ex Px := match rU l b with | .error x => .error x | .ok (s, c) => dpTail l ⟨p.C, p.G, p.T, p.M, k, d, s⟩ tgt c
def dpNums2 (l : List UInt8) (p : Px) (tgt k a : Int) : Ex Px := match rU l a with | .error x => .error x | .ok (d, b) => dpNums3 l p tgt k d b
theorem dpNums_lv {l : List UInt8} {s : RS} {p : Px} {tgt : Int} (h : Lv l s (dpNums l p tgt s.a)) : Lv l s (match rU l s.a with | .error x => .error x | .ok (k, a) => dpNums2 l p tgt k a) := h
theorem rsT_live (l : List UInt8) (s : RS) : (rsT l s).e = 0 → s.e = 0 := by
  intro h
  by_cases he : s.e = 0
  · exact he
  · unfold rsT at h
    rw [if_pos he] at h
    exact h
end Go.Proofs.YtnomlloaahoceaaDoor

