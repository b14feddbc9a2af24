/- Contracts of functions that CodeProps reaches, and words to say them. No condition. -/
import Derived.Test.YtnomlloaahoceaaDoorZ35
/- Our own words for rows: a slice's elements, opened. No condition. -/
namespace Go.Proofs.YtnomlloaahoceaaDoor
open Go.ChangeShapes Go.WideShapes Go.ChangeAt Go.RowKit
set_option linter.unusedVariables false
section
variable {H : Type} {enc : TypeId × Value → H} {W W' : World}
theorem list_choose {β : Type} (z : β) {Pr : Nat → β → Prop} (n : Nat) (h : ∀ i, i < n → ∃ b, Pr i b) : ∃ l : List β, l.length = n ∧ ∀ i, i < n → Pr i (l.getD i z) := by
  induction n with
  | zero => exact ⟨[], rfl, fun i hi => absurd hi (Nat.not_lt_zero i)⟩
  | succ n ih =>
    obtain ⟨l, hl, hp⟩ := ih fun i hi => h i (by omega)
    obtain ⟨b, hb⟩ := h n (by omega)
    refine ⟨l ++ [b], by simp [hl], fun i hi => ?_⟩
    rcases Nat.lt_or_ge i n with hlt | hge
    · have : (l ++ [b]).getD i z = l.getD i z := by simp [List.getD_eq_getElem?_getD, List.getElem?_append_left (show i < l.length by omega)]
      rw [this]; exact hp i hlt
    · obtain rfl : i = n := by omega
      have : (l ++ [b]).getD i z = b := by simp [List.getD_eq_getElem?_getD, hl]
      rw [this]; exact hb
theorem open_elems {P : Program} {t e : TypeId} {fuel : Nat} {cs : List Value} {d : DataW H} {p : List MemPlace} (ht : P.underlying t = some (.slice e)) (hc : P.cellsOf e = 1) (h : DataW.trod enc P W 0 (fun _ => true) true fuel t cs = some (d, p)) :
    ∃ (A : Option Addr) (len cap : Nat) (us : List Value) (es : List (DataW H)), cs = [.slice A len cap] ∧ us.length = len ∧ es.length = len ∧ Rd W All A len 1 us ∧ len ≤ cap ∧ cap ≤ maxLen ∧ ((len = 0 ∧ cap = 0) ∨ ∃ sp, d = .slice es sp) ∧
      ∀ i, i < len → ∃ u di n pi, us[i]? = some u ∧ es[i]? = some di ∧ DataW.trod enc P W 0 (fun _ => true) true n e [u] = some (di, pi) := by
  rcases DataW.trod_slice ht h with ⟨rfl, h2⟩ | ⟨a, len, cap, elems, rest, n, _, rfl, hx, _, hl, hm, hlen, hel, _, _⟩
  · exact ⟨none, 0, 0, [], [], rfl, rfl, rfl, ⟨rfl, fun h => absurd h (by simp)⟩, by omega, by simp [maxLen], .inl ⟨rfl, rfl⟩, fun i hi => absurd hi (Nat.not_lt_zero i)⟩
  · have hd := (Prod.mk.inj hx).1
    have hi : ∀ i, i < len → ∃ u, W.cell? (a.add i) = some u ∧ ∃ y, elems[i]? = some y ∧ DataW.trod enc P W 0 (fun _ => true) true n e [u] = some y := by
      intro i hi
      have h1 := hel i hi
      rw [hc, Nat.mul_one] at h1
      have hlt : i < elems.length := by omega
      rw [List.getElem?_eq_getElem hlt, Option.bind_eq_some_iff] at h1
      obtain ⟨cs', hcs, hy'⟩ := h1
      obtain ⟨u, rfl⟩ : ∃ u, cs' = [u] := by
        have := hcs
        unfold World.cells? at this
        split at this
        · cases hcell : W.cell? ((a.add i).add 0) with
          | none => simp [List.range_succ, hcell] at this
          | some x => simp [List.range_succ, hcell] at this; exact ⟨x, this.symm⟩
        · cases this
      exact ⟨u, cell_of_cells?_one hcs, _, List.getElem?_eq_getElem hlt, hy'⟩
    obtain ⟨us, hul, hu⟩ := list_choose (undef : Value) len hi
    have hus : ∀ i, i < len → us[i]? = some (us.getD i undef) := fun i hi => by simp [List.getD_eq_getElem?_getD, show i < us.length by omega]
    refine ⟨some a, len, cap, us, elems.map (·.1), rfl, hul, by simp [hlen], ⟨by omega, fun _ => ⟨a, rfl, trivial, fun j u hj => ?_⟩⟩, hl, hm, .inr ⟨_, hd⟩, fun i hi => ?_⟩
    · have hj2 : j < len := by have := (List.getElem?_eq_some_iff.1 hj).1; omega
      rw [hus j hj2] at hj
      injection hj with hj; subst hj
      exact (hu j hj2).1
    · obtain ⟨_, y, hy, ht⟩ := hu i hi
      exact ⟨_, y.1, n, y.2, hus i hi, by simp [hy], ht⟩
theorem weights_elem {P : Program} {e : TypeId} : ∀ {es : List (DataW H)} {i : Nat} {d : DataW H}, es[i]? = some d → ∀ n ∈ d.weights P e, n ∈ DataW.weightsAll P e es
  | d0 :: es, 0, d, h, n, hn => by simp at h; subst h; simp only [DataW.weightsAll, List.mem_append]; exact .inl hn
  | d0 :: es, i + 1, d, h, n, hn => by simp only [List.getElem?_cons_succ] at h; simp only [DataW.weightsAll, List.mem_append]; exact .inr (weights_elem h n hn)
  | [], _, _, h, _, _ => by simp at h
end
end Go.Proofs.YtnomlloaahoceaaDoor

