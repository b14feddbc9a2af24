/- Shapes and layers of whole numbers among a row's arguments, opened. No condition. -/
import Derived.Test.YtkfhablonnjgeaaRowV
import Derived.Test.YtkfhablonnjgeaaMk1
namespace Go.Proofs.Ytkfhablonnjgeaa
open Go.ChangeShapes Go.WideShapes Go.ChangeAt Go.RowKit
set_option linter.unusedVariables false
section
variable {H : Type} {enc : TypeId × Value → H} {W : World}
set_option maxRecDepth 100000 in
theorem open_shape {v : Value} {d : DataW H} {p : List MemPlace} {base : Nat} (hok : Value.okWide Try.prog W .any base 27 v) (h : DataW.Trod enc Try.prog W 0 (fun _ => true) true 27 v d p) (hwt : ∀ n ∈ d.weights Try.prog 27, n ≤ reachBytes) :
    ∃ s : Sh, v = .agg ⟨shC s⟩ ∧ s.ok := by
  obtain ⟨cs, rfl, hl, n, hf⟩ := open_struct Try.underlying27 hok h hwt
  have hc : Try.prog.cellsOf 27 = 3 := by kernel_rfl
  rw [hc] at hl
  have c1 : Try.prog.cellsOf 3 = 1 := by kernel_rfl
  match cs, hl with
  | [v0, v1, v2], _ =>
    obtain ⟨y0, q0, h0, _⟩ := hf 0 3 0 1 rfl c1
    obtain ⟨y1, q1, h1, _⟩ := hf 1 3 1 1 rfl c1
    obtain ⟨y2, q2, h2, _⟩ := hf 2 3 2 1 rfl c1
    obtain ⟨x0, rfl, hx0⟩ := int_of_trod Try.underlying3 h0
    obtain ⟨x1, rfl, hx1⟩ := int_of_trod Try.underlying3 h1
    obtain ⟨x2, rfl, hx2⟩ := int_of_trod Try.underlying3 h2
    exact ⟨⟨x0, x1, x2⟩, rfl, hx0, hx1, hx2⟩
set_option maxRecDepth 100000 in
theorem open_whole {v : Value} {d : DataW H} {p : List MemPlace} {base : Nat} (hok : Value.okWide Try.prog W .any base 25 v) (h : DataW.Trod enc Try.prog W 0 (fun _ => true) true 25 v d p) (hwt : ∀ n ∈ d.weights Try.prog 25, n ≤ reachBytes) :
    ∃ k out kh kw sh sw ph pw seed : Int, v = .agg ⟨whC k out kh kw sh sw ph pw seed⟩ ∧ (i64 k ∧ i64 out ∧ i64 kh ∧ i64 kw ∧ i64 sh ∧ i64 sw ∧ i64 ph ∧ i64 pw) ∧ i64 seed := by
  obtain ⟨cs, rfl, hl, n, hf⟩ := open_struct Try.underlying25 hok h hwt
  have hc : Try.prog.cellsOf 25 = 9 := by kernel_rfl
  rw [hc] at hl
  have c1 : Try.prog.cellsOf 3 = 1 := by kernel_rfl
  match cs, hl with
  | [v0, v1, v2, v3, v4, v5, v6, v7, v8], _ =>
    obtain ⟨y0, q0, h0, _⟩ := hf 0 3 0 1 rfl c1
    obtain ⟨y1, q1, h1, _⟩ := hf 1 3 1 1 rfl c1
    obtain ⟨y2, q2, h2, _⟩ := hf 2 3 2 1 rfl c1
    obtain ⟨y3, q3, h3, _⟩ := hf 3 3 3 1 rfl c1
    obtain ⟨y4, q4, h4, _⟩ := hf 4 3 4 1 rfl c1
    obtain ⟨y5, q5, h5, _⟩ := hf 5 3 5 1 rfl c1
    obtain ⟨y6, q6, h6, _⟩ := hf 6 3 6 1 rfl c1
    obtain ⟨y7, q7, h7, _⟩ := hf 7 3 7 1 rfl c1
    obtain ⟨y8, q8, h8, _⟩ := hf 8 3 8 1 rfl c1
    obtain ⟨x0, rfl, hx0⟩ := int_of_trod Try.underlying3 h0
    obtain ⟨x1, rfl, hx1⟩ := int_of_trod Try.underlying3 h1
    obtain ⟨x2, rfl, hx2⟩ := int_of_trod Try.underlying3 h2
    obtain ⟨x3, rfl, hx3⟩ := int_of_trod Try.underlying3 h3
    obtain ⟨x4, rfl, hx4⟩ := int_of_trod Try.underlying3 h4
    obtain ⟨x5, rfl, hx5⟩ := int_of_trod Try.underlying3 h5
    obtain ⟨x6, rfl, hx6⟩ := int_of_trod Try.underlying3 h6
    obtain ⟨x7, rfl, hx7⟩ := int_of_trod Try.underlying3 h7
    obtain ⟨x8, rfl, hx8⟩ := int_of_trod Try.underlying3 h8
    exact ⟨x0, x1, x2, x3, x4, x5, x6, x7, x8, rfl, ⟨hx0, hx1, hx2, hx3, hx4, hx5, hx6, hx7⟩, hx8⟩
end
end Go.Proofs.Ytkfhablonnjgeaa
