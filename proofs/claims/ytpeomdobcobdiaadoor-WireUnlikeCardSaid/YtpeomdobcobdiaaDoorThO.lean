/- A thing among a row's arguments, opened. No condition. -/
import Derived.Test.YtpeomdobcobdiaaDoorWB
import Derived.Test.YtpeomdobcobdiaaDoorRowT
namespace Go.Proofs.YtpeomdobcobdiaaDoor
open Go.ChangeShapes Go.WideShapes Go.ChangeAt Go.RowKit
set_option linter.unusedVariables false
set_option maxRecDepth 100000 in
theorem open_thing {H : Type} {enc : TypeId × Value → H} {W : World} {v : Value} {d : DataW H} {p : List MemPlace} {base : Nat} (hok : Value.okWide Tryd.prog W .any base 85 v) (h : DataW.Trod enc Tryd.prog W 0 (fun _ => true) true 85 v d p) (hwt : ∀ n ∈ d.weights Tryd.prog 85, n ≤ reachBytes) :
    ∃ (t : Th) (A : Option Addr) (c : Nat), v = thV t A c ∧ (-9223372036854775808 ≤ t.k ∧ t.k ≤ 9223372036854775807) ∧ (-9223372036854775808 ≤ t.n ∧ t.n ≤ 9223372036854775807) ∧ t.u < 18446744073709551616 ∧ t.s.size ≤ 140737488351232 ∧ RdE W All uB A t.b ∧ t.b.length ≤ c := by
  obtain ⟨cs, rfl, hl, n, hf⟩ := open_struct Tryd.underlying85 hok h hwt
  have hc : Tryd.prog.cellsOf 85 = 5 := by kernel_rfl
  rw [hc] at hl
  have c1 : Tryd.prog.cellsOf 3 = 1 := by kernel_rfl
  have c2 : Tryd.prog.cellsOf 53 = 1 := by kernel_rfl
  have c3 : Tryd.prog.cellsOf 9 = 1 := by kernel_rfl
  have c4 : Tryd.prog.cellsOf 22 = 1 := by kernel_rfl
  match cs, hl with
  | [v0, v1, v2, v3, v4], _ =>
    obtain ⟨y0, q0, h0, _⟩ := hf 0 3 0 1 rfl c1
    obtain ⟨y1, q1, h1, _⟩ := hf 1 3 1 1 rfl c1
    obtain ⟨y2, q2, h2, _⟩ := hf 2 53 2 1 rfl c2
    obtain ⟨y3, q3, h3, w3⟩ := hf 3 9 3 1 rfl c3
    obtain ⟨y4, q4, h4, _⟩ := hf 4 22 4 1 rfl c4
    obtain ⟨k, rfl, hk⟩ := int_of_trod Tryd.underlying3 h0
    obtain ⟨m, rfl, hm⟩ := int_of_trod Tryd.underlying3 h1
    obtain ⟨u, rfl, hu⟩ := u64_of_trod Tryd.underlying53 h2
    obtain ⟨s, rfl, hs⟩ := string_of_trod Tryd.underlying9 h3 w3
    obtain ⟨A, c, b, hcs, hr, hlc, _, _⟩ := open_u8t Tryd.underlying22 Tryd.underlying5 (by kernel_rfl) h4
    have hcs : [v4] = [Value.slice A b.length c] := hcs
    simp only [List.cons.injEq, and_true] at hcs
    subst hcs
    exact ⟨⟨k, m, u, s, b⟩, A, c, rfl, hk, hm, hu, hs, hr, hlc⟩
end Go.Proofs.YtpeomdobcobdiaaDoor
