/- Contracts of functions that CodePropBytes reaches, and words to say them. No condition. -/
import Derived.Test.YtnomlloaahoceaaDoorZ04
import Derived.Test.YtnomlloaahoceaaDoorRows
import Derived.ProofKit
import Derived.OpenShut
import Derived.ShutString
import Derived.ChangeOld
import Derived.Below
import Derived.SizedLaws
import Derived.SevenTiedAt
/- Our own words for rows: an argument that reads as data, opened to what the walks ask. No condition. -/
namespace Go.Proofs.YtnomlloaahoceaaDoor
open Go.ChangeShapes Go.WideShapes Go.ChangeAt Go.RowKit
set_option linter.unusedVariables false
theorem own : ownKnob Tryd.prog.godebug = none := by kernel_rfl
theorem laidOut : laidOutB Tryd.prog = true := by kernel_rfl
section
variable {H : Type} {enc : TypeId × Value → H} {W W' : World}
theorem trod_blocks {P : Program} {t : TypeId} {v : Value} {d : DataW H} {p : List MemPlace} (h : DataW.Trod enc P W 0 (fun _ => true) true t v d p) : ∀ x ∈ p, x.block < W.heap.size := by
  obtain ⟨m, hm⟩ := h; exact DataW.trod_lt m _ _ _ hm
theorem trod_stays {t : TypeId} {v : Value} {d : DataW H} {p : List MemPlace} (hr : Tryd.prog.readableRec t = true) (ht : t < Tryd.prog.types.size) (h : DataW.Trod enc Tryd.prog W 0 (fun _ => true) true t v d p) (hb : Below W.heap.size W W') :
    DataW.Trod enc Tryd.prog W' 0 (fun b => decide (b < W.heap.size)) true t v d p :=
  Below.trod laidOut hr ht h hb (trod_blocks h)
theorem noStandIn {P : Program} {ps : Array TypeId} (h : (ps.toList.all fun t => !P.wantsStandIn t) = true) {j : Nat} {t : TypeId} (ht : ps[j]? = some t) : P.wantsStandIn t = false := by
  have := List.all_eq_true.1 h t (by rw [← Array.getElem?_toList] at ht; exact List.mem_of_getElem? ht)
  simpa using this
theorem list_choose {β : Type} (z : β) {Pr : Nat → β → Prop} (n : Nat) (h : ∀ i, i < n → ∃ b, Pr i b) : ∃ l : List β, l.length = n ∧ ∀ i, i < n → Pr i (l.getD i z) := by
  induction n with
  | zero => exact ⟨[], rfl, fun i hi => absurd hi (Nat.not_lt_zero i)⟩
  | succ n ih =>
    obtain ⟨l, hl, hp⟩ := ih fun i hi => h i (by omega)
    obtain ⟨b, hb⟩ := h n (by omega)
    refine ⟨l ++ [b], by simp [hl], fun i hi => ?_⟩
    rcases Nat.lt_or_ge i n with hlt | hge
    · have : (l ++ [b]).getD i z = l.getD i z := by simp [List.getD_eq_getElem?_getD, List.getElem?_append_left (show i < l.length by omega)]
      rw [this]; exact hp i hlt
    · obtain rfl : i = n := by omega
      have : (l ++ [b]).getD i z = b := by simp [List.getD_eq_getElem?_getD, hl]
      rw [this]; exact hb
theorem open_elems {P : Program} {t e : TypeId} {fuel : Nat} {cs : List Value} {d : DataW H} {p : List MemPlace} (ht : P.underlying t = some (.slice e)) (hc : P.cellsOf e = 1) (h : DataW.trod enc P W 0 (fun _ => true) true fuel t cs = some (d, p)) :
    ∃ (A : Option Addr) (len cap : Nat) (us : List Value) (es : List (DataW H)), cs = [.slice A len cap] ∧ us.length = len ∧ es.length = len ∧ Rd W All A len 1 us ∧ len ≤ cap ∧ cap ≤ maxLen ∧ ((len = 0 ∧ cap = 0) ∨ ∃ sp, d = .slice es sp) ∧
      ∀ i, i < len → ∃ u di n pi, us[i]? = some u ∧ es[i]? = some di ∧ DataW.trod enc P W 0 (fun _ => true) true n e [u] = some (di, pi) := by
  rcases DataW.trod_slice ht h with ⟨rfl, h2⟩ | ⟨a, len, cap, elems, rest, n, _, rfl, hx, _, hl, hm, hlen, hel, _, _⟩
  · exact ⟨none, 0, 0, [], [], rfl, rfl, rfl, ⟨rfl, fun h => absurd h (by simp)⟩, by omega, by simp [maxLen], .inl ⟨rfl, rfl⟩, fun i hi => absurd hi (Nat.not_lt_zero i)⟩
  · have hd := (Prod.mk.inj hx).1
    have hi : ∀ i, i < len → ∃ u, W.cell? (a.add i) = some u ∧ ∃ y, elems[i]? = some y ∧ DataW.trod enc P W 0 (fun _ => true) true n e [u] = some y := by
      intro i hi
      have h1 := hel i hi
      rw [hc, Nat.mul_one] at h1
      have hlt : i < elems.length := by omega
      rw [List.getElem?_eq_getElem hlt, Option.bind_eq_some_iff] at h1
      obtain ⟨cs', hcs, hy'⟩ := h1
      obtain ⟨u, rfl⟩ : ∃ u, cs' = [u] := by
        have := hcs
        unfold World.cells? at this
        split at this
        · cases hcell : W.cell? ((a.add i).add 0) with
          | none => simp [List.range_succ, hcell] at this
          | some x => simp [List.range_succ, hcell] at this; exact ⟨x, this.symm⟩
        · cases this
      exact ⟨u, cell_of_cells?_one hcs, _, List.getElem?_eq_getElem hlt, hy'⟩
    obtain ⟨us, hul, hu⟩ := list_choose (undef : Value) len hi
    have hus : ∀ i, i < len → us[i]? = some (us.getD i undef) := fun i hi => by simp [List.getD_eq_getElem?_getD, show i < us.length by omega]
    refine ⟨some a, len, cap, us, elems.map (·.1), rfl, hul, by simp [hlen], ⟨by omega, fun _ => ⟨a, rfl, trivial, fun j u hj => ?_⟩⟩, hl, hm, .inr ⟨_, hd⟩, fun i hi => ?_⟩
    · have hj2 : j < len := by have := (List.getElem?_eq_some_iff.1 hj).1; omega
      rw [hus j hj2] at hj
      injection hj with hj; subst hj
      exact (hu j hj2).1
    · obtain ⟨_, y, hy, ht⟩ := hu i hi
      exact ⟨_, y.1, n, y.2, hus i hi, by simp [hy], ht⟩
theorem u8_of_trod {P : Program} {u8 : TypeId} {n : Nat} {u : Value} {d : DataW H} {p : List MemPlace} (he : P.underlying u8 = some (.int .u8)) (h : DataW.trod enc P W 0 (fun _ => true) true n u8 [u] = some (d, p)) : ∃ b : UInt8, u = uB b := by
  obtain ⟨m, hm, _, hw⟩ := DataW.trod_int he h
  simp only [List.cons.injEq, and_true] at hm
  have e1 : IntKind.u8.min = 0 := rfl
  have e2 : IntKind.u8.max = 255 := rfl
  simp [Lit.wf, e1, e2] at hw
  refine ⟨UInt8.ofNat m.toNat, ?_⟩
  rw [hm, uB]
  have : ((UInt8.ofNat m.toNat).toNat : Int) = m := by rw [UInt8.toNat_ofNat']; omega
  rw [this]
theorem open_u8t {P : Program} {t u8 : TypeId} {fuel : Nat} {cs : List Value} {d : DataW H} {p : List MemPlace} (ht : P.underlying t = some (.slice u8)) (he : P.underlying u8 = some (.int .u8)) (hc : P.cellsOf u8 = 1) (h : DataW.trod enc P W 0 (fun _ => true) true fuel t cs = some (d, p)) :
    ∃ (A : Option Addr) (c : Nat) (l : List UInt8), cs = [.slice A l.length c] ∧ RdE W All uB A l ∧ l.length ≤ c ∧ c ≤ maxLen ∧ ((l = [] ∧ c = 0) ∨ ∃ el sp, d = .slice el sp ∧ el.length = l.length) := by
  obtain ⟨A, len, cap, us, es, rfl, hul, hel, hr, hl, hm, hd, hi⟩ := open_elems ht hc h
  obtain ⟨l, hll, hlp⟩ := list_choose (0 : UInt8) len (Pr := fun i b => us[i]? = some (uB b)) fun i hi2 => by
    obtain ⟨u, di, n, pi, hu, _, htr⟩ := hi i hi2
    obtain ⟨b, rfl⟩ := u8_of_trod he htr
    exact ⟨b, hu⟩
  have hus : us = l.map uB := by
    apply List.ext_getElem?
    intro i
    rcases Nat.lt_or_ge i len with h | h
    · rw [hlp i h]; simp [List.getD_eq_getElem?_getD, show i < l.length by omega]
    · rw [List.getElem?_eq_none (by omega), List.getElem?_eq_none (by simp; omega)]
  subst hll
  refine ⟨A, cap, l, rfl, by unfold RdE; rw [← hus]; exact hr, hl, hm, ?_⟩
  rcases hd with ⟨h1, h2⟩ | ⟨sp, rfl⟩
  · exact .inl ⟨List.eq_nil_of_length_eq_zero h1, h2⟩
  · exact .inr ⟨es, sp, rfl, hel⟩
theorem open_u8s {P : Program} {t u8 : TypeId} {v : Value} {d : DataW H} {p : List MemPlace} {base : Nat} (ht : P.underlying t = some (.slice u8)) (he : P.underlying u8 = some (.int .u8)) (hc : P.cellsOf u8 = 1)
    (hok : Value.okWide P W .any base t v) (h : DataW.Trod enc P W 0 (fun _ => true) true t v d p) :
    ∃ (A : Option Addr) (c : Nat) (l : List UInt8), v = .slice A l.length c ∧ RdE W All uB A l ∧ l.length ≤ c ∧ c ≤ maxLen ∧ ((l = [] ∧ c = 0) ∨ ∃ el sp, d = .slice el sp ∧ el.length = l.length) := by
  obtain ⟨A, len, cap, rfl⟩ := okWide_slice ht hok
  obtain ⟨fuel, hf⟩ := h
  obtain ⟨A', c, l, hcs, h2⟩ := open_u8t ht he hc hf
  simp [Value.cells] at hcs
  obtain ⟨rfl, rfl, rfl⟩ := hcs
  exact ⟨_, _, l, rfl, h2⟩
end
end Go.Proofs.YtnomlloaahoceaaDoor

