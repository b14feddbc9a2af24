/- Our own words: many pieces of memory that stay as they are. Nothing here speaks of a statement; no condition. -/
import Derived.Test.YtpeomdobcobdiaaDoorLibR
namespace Go.Proofs.YtpeomdobcobdiaaDoor
open Go.RowKit
set_option linter.unusedVariables false
set_option linter.unusedSimpArgs false
section
variable {B : Nat} {w0 w w1 : World} {L : List It}
theorem St.keep0 (h : St B w0 w L) : St B w0 w (L ++ [.keep (fun _ => False) w]) :=
  h.add rfl rfl rfl (Nat.le_refl _) (fun _ _ => rfl) (fun _ hb => hb.elim) (fun _ hb => hb.elim)
/-- The last two items as one that stays. -/
theorem St.fuse {x y : It} (h : St B w0 w (L ++ [x, y])) : St B w0 w (L ++ [.keep (fun b => x.fp b ∨ y.fp b) w]) := by
  obtain ⟨h1, h2, h3⟩ := h
  have hx : x.ok B w := h2 x (by simp)
  have hy : y.ok B w := h2 y (by simp)
  refine ⟨h1, fun it hi => ?_, ?_⟩
  · rcases List.mem_append.1 hi with hi | hi
    · exact h2 it (List.mem_append_left _ hi)
    · simp only [List.mem_singleton] at hi
      subst hi
      intro b hb
      have : B ≤ b ∧ b < w.heap.size := hb.elim (It.ok_lt hx) (It.ok_lt hy)
      exact ⟨this.1, this.2, this.2, rfl⟩
  · obtain ⟨g1, g2, g3⟩ := List.pairwise_append.1 h3
    refine List.pairwise_append.2 ⟨g1, List.pairwise_singleton _ _, fun z hz k hk b hb hkb => ?_⟩
    simp only [List.mem_singleton] at hk
    subst hk
    rcases hkb with hkb | hkb
    · exact g3 z hz x (by simp) b hb hkb
    · exact g3 z hz y (by simp) b hb hkb
theorem Rd.weaken {ok ok' : Nat → Prop} {A : Option Addr} {n sz : Nat} {cs : List Value} (h : Rd w ok A n sz cs) (hok : ∀ b, ok b → ok' b) : Rd w ok' A n sz cs :=
  ⟨h.1, fun hn => let ⟨a, h1, h2, h3⟩ := h.2 hn; ⟨a, h1, hok _ h2, h3⟩⟩
theorem St.keepRd (h : St B w0 w L) {i : Nat} {ok : Nat → Prop} {wk : World} (hi : L[i]? = some (.keep ok wk)) {A : Option Addr} {n sz : Nat} {cs : List Value} (hr : Rd wk ok A n sz cs) : Rd w ok A n sz cs := by
  have hk := h.at hi
  refine ⟨hr.1, fun hn => ?_⟩
  obtain ⟨ad, hA, ho, hc⟩ := hr.2 hn
  refine ⟨ad, hA, ho, fun j u hu => ?_⟩
  have hb : (ad.add j).block = ad.block := by unfold Addr.add; split <;> rfl
  have := hc j u hu
  unfold World.cell? at this ⊢
  rw [hb] at this ⊢
  rw [(hk ad.block ho).2.2.2]
  exact this
theorem Owns.rdFp {A : Option Addr} {c : Nat} {el : TypeId} {sz m : Nat} {cs : List Value} (ho : Owns w B A c el sz m cs) : Rd w (It.fp (.row A c el sz m cs)) A m sz cs := by
  refine ⟨ho.1, fun hm => ?_⟩
  rcases ho.2 with ⟨h1, h2, h3⟩ | ⟨g, cap, cur, hv, hg, hh, r⟩
  · omega
  · exact ⟨_, hv, ⟨_, hv, rfl⟩, ho.cells hv⟩
end
end Go.Proofs.YtpeomdobcobdiaaDoor
