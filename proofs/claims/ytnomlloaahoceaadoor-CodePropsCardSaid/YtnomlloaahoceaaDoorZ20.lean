/- Contracts of functions that CodeProps reaches, and words to say them. No condition. -/
import Derived.Test.YtnomlloaahoceaaDoorZ19
/- What is read of bytes is small. No condition. -/
namespace Go.Proofs.YtnomlloaahoceaaDoor
open Go.RowKit
set_option linter.unusedVariables false
set_option linter.unusedSimpArgs false
def Few (ls : List (List Nat)) : Prop := ls.length ≤ 1048576 ∧ ∀ x ∈ ls, x.length ≤ 1048576
theorem dpTail_p {l : List UInt8} {p q : Px} {tgt at_ : Int} (h : dpTail l p tgt at_ = .ok q) : q = p := by
  unfold dpTail at h
  split at h
  · cases h
  split at h
  · cases h
  · injection h with h; exact h.symm
theorem dpNums_p {l : List UInt8} {p q : Px} {tgt at_ : Int} (h : dpNums l p tgt at_ = .ok q) : q.C = p.C ∧ q.G = p.G ∧ q.M = p.M := by
  unfold dpNums at h
  split at h
  · cases h
  split at h
  · cases h
  split at h
  · cases h
  · have := dpTail_p h
    subst this
    exact ⟨rfl, rfl, rfl⟩
theorem dpClaims_p {l : List UInt8} {p q : Px} {tgt : Int} : ∀ {k : Nat} {M : List (List Nat)} {at_ : Int}, dpClaims l p tgt k M at_ = .ok q → (∀ x ∈ M, x.length ≤ 1048576) → M.length + k ≤ 1048576 → q.C = p.C ∧ q.G = p.G ∧ Few q.M
  | 0, M, at_, h, h1, h2 => by
    have := dpNums_p (show dpNums l ⟨p.C, p.G, p.T, M, p.K, p.D, p.S⟩ tgt at_ = .ok q from h)
    exact ⟨this.1, this.2.1, by rw [this.2.2]; exact ⟨by show M.length ≤ _; omega, h1⟩⟩
  | k + 1, M, at_, h, h1, h2 => by
    unfold dpClaims at h
    split at h
    · cases h
    split at h
    · cases h
    split at h
    · cases h
    · rename_i m a hu hc us b hf
      refine dpClaims_p h (fun x hx => ?_) (by rw [List.length_append]; simp; omega)
      rcases List.mem_append.1 hx with hx | hx
      · exact h1 x hx
      · rw [List.mem_singleton.1 hx, (rFs_ok hf).1]
        omega
theorem dpM_p {l : List UInt8} {p q : Px} {tgt at_ : Int} (h : dpM l p tgt at_ = .ok q) : q.C = p.C ∧ q.G = p.G ∧ Few q.M := by
  unfold dpM at h
  split at h
  · cases h
  split at h
  · cases h
  · rename_i c a hu hc
    exact dpClaims_p h (fun x hx => by cases hx) (by simp; omega)
theorem dpT_p {l : List UInt8} {p q : Px} {at_ : Int} (h : dpT l p at_ = .ok q) : q.C = p.C ∧ q.G = p.G ∧ Few q.M := by
  unfold dpT at h
  split at h
  · cases h
  · have h2 := dpM_p h
    exact h2
theorem dpRows_p {l : List UInt8} {p q : Px} (hC : p.C.length ≤ 1048576) : ∀ {k : Nat} {G : List (List Nat)} {at_ : Int}, dpRows l p k G at_ = .ok q → (∀ x ∈ G, x.length ≤ 1048576) → G.length + k ≤ 1048576 → q.C = p.C ∧ Few q.G ∧ Few q.M
  | 0, G, at_, h, h1, h2 => by
    have := dpT_p (show dpT l ⟨p.C, G, p.T, p.M, p.K, p.D, p.S⟩ at_ = .ok q from h)
    exact ⟨this.1, by rw [this.2.1]; exact ⟨by show G.length ≤ _; omega, h1⟩, this.2.2⟩
  | k + 1, G, at_, h, h1, h2 => by
    unfold dpRows at h
    split at h
    · cases h
    · rename_i us b hf
      refine dpRows_p hC h (fun x hx => ?_) (by rw [List.length_append]; simp; omega)
      rcases List.mem_append.1 hx with hx | hx
      · exact h1 x hx
      · rw [List.mem_singleton.1 hx, (rFs_ok hf).1]
        exact hC
theorem decPropV_few {l : List UInt8} {q : Px} (h : decPropV l = .ok q) : q.C.length ≤ 1048576 ∧ Few q.G ∧ Few q.M := by
  unfold decPropV at h
  split at h
  · cases h
  unfold dpN at h
  split at h
  · cases h
  split at h
  · cases h
  split at h
  · cases h
  · rename_i n a hu hc C b hf
    have hl := (rFs_ok hf).1
    unfold dpG at h
    split at h
    · cases h
    split at h
    · cases h
    · have h3 := dpRows_p (p := ⟨C, [], 0, [], 0, 0, 0⟩) (show C.length ≤ _ by omega) h (fun x hx => by cases hx) (by simp; omega)
      exact ⟨by rw [h3.1]; show C.length ≤ _; omega, h3.2⟩
theorem PrM.small {w : World} {ok : Nat → Prop} {C G M : Sv} {SG SM : List Sv} {p : Px} (D : PrM w ok C G M SG SM p) (h : p.C.length ≤ 1048576 ∧ Few p.G ∧ Few p.M) : p.small := by
  have hf : ∀ {A : Option Addr} {S : List Sv} {ls : List (List Nat)}, LsM w ok A S ls → ∀ x ∈ ls, ∀ u ∈ x, u < 18446744073709551616 := by
    intro A S ls hm x hx u hu
    obtain ⟨i, hi, rfl⟩ := List.mem_iff_getElem.1 hx
    have hl := hm.len
    exact (hm.rd i S[i] ls[i] (List.getElem?_eq_getElem (by omega)) (List.getElem?_eq_getElem hi)).2.2.2 u hu
  exact ⟨Nat.le_trans h.1 (by decide), D.fC, Nat.le_trans h.2.1.1 (by decide), fun x hx => ⟨Nat.le_trans (h.2.1.2 x hx) (by decide), hf D.rG x hx⟩, Nat.le_trans h.2.2.1 (by decide), fun x hx => ⟨Nat.le_trans (h.2.2.2 x hx) (by decide), hf D.rM x hx⟩, D.iT, D.iK, D.iD, D.iS⟩
theorem i64_0 : i64 0 := by unfold i64; omega
theorem px0_small : (⟨[], [], 0, [], 0, 0, 0⟩ : Px).small := ⟨by simp, by simp, by simp, by simp, by simp, by simp, i64_0, i64_0, i64_0, i64_0⟩
theorem nilRd {α : Type} {enc : α → Value} {w : World} {ok : Nat → Prop} : RdE w ok enc none ([] : List α) := RdE.nil w none
theorem px0_prM (w : World) (ok : Nat → Prop) : PrM w ok (none, 0, 0) (none, 0, 0) (none, 0, 0) [] [] ⟨[], [], 0, [], 0, 0, 0⟩ :=
  ⟨nilRd, rfl, by simp, by simp, ⟨nilRd, rfl, by simp⟩, rfl, by simp, ⟨nilRd, rfl, by simp⟩, rfl, by simp, i64_0, i64_0, i64_0, i64_0⟩
def toldP (l : List UInt8) : Px × Int × Int := match decPropV l with | .error (x, y) => (⟨[], [], 0, [], 0, 0, 0⟩, x, y) | .ok p => (p, 0, 0)
theorem dpR_one {l : List UInt8} {w w' : World} {e : Ending} (h : dpR l w e w') : ∃ C G M SG SM K, e = .returned (.tuple #[.agg ⟨propC C G M (toldP l).1⟩, .int .i64 (toldP l).2.1, .int .i64 (toldP l).2.2]) ∧ St w.heap.size w w' [.keep K w'] ∧ PrM w' K C G M SG SM (toldP l).1 ∧ (toldP l).1.small := by
  rcases h with ⟨x, y, hx, rfl, hb⟩ | ⟨p, C, G, M, SG, SM, K, hx, rfl, hS, hP⟩
  · unfold toldP
    rw [hx]
    exact ⟨(none, 0, 0), (none, 0, 0), (none, 0, 0), [], [], _, rfl, ((St.start w).grown hb).keep0, px0_prM _ _, px0_small⟩
  · unfold toldP
    rw [hx]
    exact ⟨C, G, M, SG, SM, K, rfl, hS, hP, hP.small (decPropV_few hx)⟩
end Go.Proofs.YtnomlloaahoceaaDoor

