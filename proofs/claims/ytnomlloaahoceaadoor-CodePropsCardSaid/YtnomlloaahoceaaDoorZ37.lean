/- Contracts of functions that CodeProps reaches, and words to say them. No condition. -/
import Derived.Test.YtnomlloaahoceaaDoorZ36
/- Our own words for rows: a struct among the arguments, opened field by field. No condition. -/
namespace Go.Proofs.YtnomlloaahoceaaDoor
open Go.ChangeShapes Go.WideShapes Go.ChangeAt Go.RowKit
set_option linter.unusedVariables false
section
variable {H : Type} {enc : TypeId × Value → H} {W W' : World}
theorem open_structT {P : Program} {t : TypeId} {fs : Array Field} {fuel : Nat} {cs : List Value} {d : DataW H} {p : List MemPlace} (hs : P.underlying t = some (.struct fs)) (h : DataW.trod enc P W 0 (fun _ => true) true fuel t cs = some (d, p)) (hwt : ∀ n ∈ d.weights P t, n ≤ reachBytes) :
    cs.length = P.cellsOf t ∧ ∃ n, ∀ (j : Nat) (ty off k : Nat), (fs[j]?).map (fun f => (f.type, f.offset)) = some (ty, off) → P.cellsOf ty = k → ∃ (y : DataW H) (q : List MemPlace), DataW.trod enc P W 0 (fun _ => true) true n ty ((cs.drop off).take k) = some (y, q) ∧ ∀ m ∈ y.weights P ty, m ≤ reachBytes := by
  obtain ⟨xs, n, _, hx, hl, hxl, hf⟩ := DataW.trod_struct hs h
  refine ⟨hl, n, fun j ty off k hm hk => ?_⟩
  obtain ⟨f, hj, hm⟩ := Option.map_eq_some_iff.1 hm
  obtain ⟨rfl, rfl⟩ := Prod.mk.inj hm
  subst hk
  have hj2 : j < fs.size := (Array.getElem?_eq_some_iff.1 hj).1
  have hxj : xs[j]? = some (xs[j]'(by omega)) := List.getElem?_eq_getElem (by omega)
  refine ⟨(xs[j]'(by omega)).1, (xs[j]'(by omega)).2, by rw [hf j f hj, hxj], fun m hm => hwt m ?_⟩
  have hd : d = .agg (xs.map (·.1)) := (Prod.mk.inj hx).1
  rw [hd]
  simp only [DataW.weights, hs]
  exact DataW.weights_mem_each (j := j) (t := f.type) (by rw [List.getElem?_map, Array.getElem?_toList, hj]; rfl) (by rw [List.getElem?_map, hxj]; rfl) m hm
theorem open_struct {P : Program} {t : TypeId} {fs : Array Field} {v : Value} {d : DataW H} {p : List MemPlace} {base : Nat} (hs : P.underlying t = some (.struct fs)) (hok : Value.okWide P W .any base t v) (h : DataW.Trod enc P W 0 (fun _ => true) true t v d p) (hwt : ∀ n ∈ d.weights P t, n ≤ reachBytes) :
    ∃ cs : List Value, v = .agg ⟨cs⟩ ∧ cs.length = P.cellsOf t ∧ ∃ n, ∀ (j : Nat) (ty off k : Nat), (fs[j]?).map (fun f => (f.type, f.offset)) = some (ty, off) → P.cellsOf ty = k → ∃ (y : DataW H) (q : List MemPlace), DataW.trod enc P W 0 (fun _ => true) true n ty ((cs.drop off).take k) = some (y, q) ∧ ∀ m ∈ y.weights P ty, m ≤ reachBytes := by
  obtain ⟨⟨cs⟩, rfl, hsz⟩ := okWide_struct hs hok
  obtain ⟨fuel, hf⟩ := h
  have hf : DataW.trod enc P W 0 (fun _ => true) true fuel t cs = some (d, p) := hf
  obtain ⟨h1, n, h2⟩ := open_structT hs hf hwt
  exact ⟨cs, rfl, h1, n, h2⟩
theorem int_of_trod {P : Program} {t : TypeId} {n : Nat} {c : Value} {y : DataW H} {q : List MemPlace} (ht : P.underlying t = some (.int .i64)) (h : DataW.trod enc P W 0 (fun _ => true) true n t [c] = some (y, q)) : ∃ x : Int, c = .int .i64 x ∧ -9223372036854775808 ≤ x ∧ x ≤ 9223372036854775807 := by
  obtain ⟨x, hx, _, hw⟩ := DataW.trod_int ht h
  simp only [List.cons.injEq, and_true] at hx
  have e1 : IntKind.i64.min = -9223372036854775808 := rfl
  have e2 : IntKind.i64.max = 9223372036854775807 := rfl
  simp [Lit.wf, e1, e2] at hw
  exact ⟨x, hx, hw⟩
end
end Go.Proofs.YtnomlloaahoceaaDoor

