/-
  No cell of these rows narrows 'for every input' (looked for: loops, veiled, ifaces, maps, wideKeys, modest, calm, conditions, laid).
  DERIVED. THE GIVEN ROWS OF THIS SEAT. 4 by the template 'for every input the law returns true; each argument reads behind the call as it read before'; 0 by the template 'total and deterministic' (their statements: YtkfhablonnjgeaaTotals.lean).
  GIVEN WITH THE SEED: the statements are not yours to turn. If you find one false, say at which input.
  Laid BY PROGRAM, IN A SANDBOX (cutbox-rows.mjs): the forced cells as the released guide's own fill.sh prints them over the translation e4b8576769d9ec7a… (all of the seat's roots in one cut). By AI agents, Wed Nov 11 2026. No macro, syntax, notation, axiom, sorry.
-/
import Derived.Test.YtkfhablonnjgeaaChecked
import GoSem.Claim
import GoSem.ClaimJoined
import GoSem.ClaimMapViews
import Derived.JoinedTies
import Derived.KernelRfl
namespace Go.Proofs.Ytkfhablonnjgeaa
/- THE CELL 'sum', in the pinned program and in every row, IS THE sha256 OF THE DUMP (.gsa) THAT YtkfhablonnjgeaaProg.lean LOADS. Nothing in Lean hashes anything: it is a label: what it is worth is what the hold of that sum in a sandbox is worth. -/
noncomputable def Try.pinned : Pinned := { name := "ytkfhablonnjgeaa", sum := "e4b8576769d9ec7ab8b10b093dc8d095386ceb8f91a902ac5872c41d5866bf0d", checked := Try.checked }
namespace Rows
def none {H : Type} : Left H := { results := [], args := [] }

/-- 'ambitlaw7.RowsKinds': WHATEVER THE INPUT: true; the input reads as it did. -/
def rowsKindsSpec : ChangeSpec := { name := "rowsKinds", fn := fun _ => fun
  | [d] => { results := [.lit (.bool true)], args := [d] }
  | _ => none }
def rowsKindsRow : OpenClaim := { program := "ytkfhablonnjgeaa", sum := "e4b8576769d9ec7ab8b10b093dc8d095386ceb8f91a902ac5872c41d5866bf0d", func := "ambit/ambitlaw7.RowsKinds", spec := "rowsKinds", inPlace := ["math.Float64bits", "math.Float64frombits"], apart := false }
def RowsKindsSaid : Prop := rowsKindsRow.holds Try.pinned (OpenSpec.ofChange rowsKindsSpec)

/-- ITS FALSE NEIGHBOUR: 'it returns false'. Refute it at one input. -/
def rowsKindsWrong : ChangeSpec := { name := "rowsKinds", fn := fun _ => fun
  | [d] => { results := [.lit (.bool false)], args := [d] }
  | _ => none }
def RowsKindsWrongFalsely : Prop := rowsKindsRow.holds Try.pinned (OpenSpec.ofChange rowsKindsWrong)

/-- 'ambitlaw7.RowsMatrix': WHATEVER THE INPUT: true; the input reads as it did. -/
def rowsMatrixSpec : ChangeSpec := { name := "rowsMatrix", fn := fun _ => fun
  | [d1, d2] => { results := [.lit (.bool true)], args := [d1, d2] }
  | _ => none }
def rowsMatrixRow : OpenClaim := { program := "ytkfhablonnjgeaa", sum := "e4b8576769d9ec7ab8b10b093dc8d095386ceb8f91a902ac5872c41d5866bf0d", func := "ambit/ambitlaw7.RowsMatrix", spec := "rowsMatrix", inPlace := ["math.Float64bits", "math.Float64frombits"], apart := false }
def RowsMatrixSaid : Prop := rowsMatrixRow.holds Try.pinned (OpenSpec.ofChange rowsMatrixSpec)

/-- ITS FALSE NEIGHBOUR: 'it returns false'. Refute it at one input. -/
def rowsMatrixWrong : ChangeSpec := { name := "rowsMatrix", fn := fun _ => fun
  | [d1, d2] => { results := [.lit (.bool false)], args := [d1, d2] }
  | _ => none }
def RowsMatrixWrongFalsely : Prop := rowsMatrixRow.holds Try.pinned (OpenSpec.ofChange rowsMatrixWrong)

/-- 'ambitlaw7.RowsAlike': WHATEVER THE INPUT: true; the input reads as it did. -/
def rowsAlikeSpec : ChangeSpec := { name := "rowsAlike", fn := fun _ => fun
  | [d1, d2, d3, d4] => { results := [.lit (.bool true)], args := [d1, d2, d3, d4] }
  | _ => none }
def rowsAlikeRow : OpenClaim := { program := "ytkfhablonnjgeaa", sum := "e4b8576769d9ec7ab8b10b093dc8d095386ceb8f91a902ac5872c41d5866bf0d", func := "ambit/ambitlaw7.RowsAlike", spec := "rowsAlike", inPlace := ["math.Float64bits", "math.Float64frombits"], apart := false }
def RowsAlikeSaid : Prop := rowsAlikeRow.holds Try.pinned (OpenSpec.ofChange rowsAlikeSpec)

/-- ITS FALSE NEIGHBOUR: 'it returns false'. Refute it at one input. -/
def rowsAlikeWrong : ChangeSpec := { name := "rowsAlike", fn := fun _ => fun
  | [d1, d2, d3, d4] => { results := [.lit (.bool false)], args := [d1, d2, d3, d4] }
  | _ => none }
def RowsAlikeWrongFalsely : Prop := rowsAlikeRow.holds Try.pinned (OpenSpec.ofChange rowsAlikeWrong)

/-- 'ambitlaw7.RowsWindows': WHATEVER THE INPUT: true; the input reads as it did. -/
def rowsWindowsSpec : ChangeSpec := { name := "rowsWindows", fn := fun _ => fun
  | [d1, d2] => { results := [.lit (.bool true)], args := [d1, d2] }
  | _ => none }
def rowsWindowsRow : OpenClaim := { program := "ytkfhablonnjgeaa", sum := "e4b8576769d9ec7ab8b10b093dc8d095386ceb8f91a902ac5872c41d5866bf0d", func := "ambit/ambitlaw7.RowsWindows", spec := "rowsWindows", inPlace := ["math.Float64bits", "math.Float64frombits"], apart := false }
def RowsWindowsSaid : Prop := rowsWindowsRow.holds Try.pinned (OpenSpec.ofChange rowsWindowsSpec)

/-- ITS FALSE NEIGHBOUR: 'it returns false'. Refute it at one input. -/
def rowsWindowsWrong : ChangeSpec := { name := "rowsWindows", fn := fun _ => fun
  | [d1, d2] => { results := [.lit (.bool false)], args := [d1, d2] }
  | _ => none }
def RowsWindowsWrongFalsely : Prop := rowsWindowsRow.holds Try.pinned (OpenSpec.ofChange rowsWindowsWrong)

/- THE SECOND FORM. 'bulk': how many values and letters a reading holds, each counted each time it is reached (what is shared counts as often as it is met; a slice's spare places count too). A statement '..UptoSaid' is the law's where the arguments, and the package variables that the reading takes, are together of bulk at most 1048576: NARROWER than '..Said'. Prove '..Said' where nothing that the law and all that it calls make is longer than what came in: it says more and counts as full. Else prove '..UptoSaid'. A law counts once. -/
mutual
def uptoBulk {H : Type} : DataW H → Nat
  | .lit (.string bytes) => bytes.length + 1
  | .lit _ => 1
  | .nil => 1
  | .ptr d => uptoBulk d + 1
  | .slice elems spare => uptoBulkAll elems + uptoBulkAll spare + 1
  | .agg parts => uptoBulkAll parts + 1
  | .iface _ d => uptoBulk d + 1
  | .map entries => uptoBulkEntries entries + 1
  | .held _ => 1
def uptoBulkAll {H : Type} : List (DataW H) → Nat
  | [] => 0
  | d :: r => uptoBulk d + uptoBulkAll r
def uptoBulkEntries {H : Type} : List (Lit × DataW H) → Nat
  | [] => 0
  | x :: r => uptoBulkEntry x + uptoBulkEntries r
def uptoBulkEntry {H : Type} : Lit × DataW H → Nat
  | (.string bytes, d) => bytes.length + uptoBulk d + 1
  | (_, d) => uptoBulk d + 1
 end
def uptoSmall : (H : Type) → List (DataW H) → Bool := fun _ ds => decide (uptoBulkAll ds ≤ 1048576)
def OpenSpec.upto (s : _root_.Go.ChangeSpec) : _root_.Go.OpenSpec := { _root_.Go.OpenSpec.ofChange s with cond := some uptoSmall }

/-- 'ambitlaw7.RowsKinds', WHERE WHAT IT READS IS OF BULK AT MOST 1048576: true; the input reads as it did. -/
def rowsKindsUptoRow : OpenClaim := { program := "ytkfhablonnjgeaa", sum := "e4b8576769d9ec7ab8b10b093dc8d095386ceb8f91a902ac5872c41d5866bf0d", func := "ambit/ambitlaw7.RowsKinds", spec := "rowsKinds", inPlace := ["math.Float64bits", "math.Float64frombits"], apart := false, narrowed := true }
def RowsKindsUptoSaid : Prop := rowsKindsUptoRow.holds Try.pinned (OpenSpec.upto rowsKindsSpec)

/-- 'ambitlaw7.RowsMatrix', WHERE WHAT IT READS IS OF BULK AT MOST 1048576: true; the input reads as it did. -/
def rowsMatrixUptoRow : OpenClaim := { program := "ytkfhablonnjgeaa", sum := "e4b8576769d9ec7ab8b10b093dc8d095386ceb8f91a902ac5872c41d5866bf0d", func := "ambit/ambitlaw7.RowsMatrix", spec := "rowsMatrix", inPlace := ["math.Float64bits", "math.Float64frombits"], apart := false, narrowed := true }
def RowsMatrixUptoSaid : Prop := rowsMatrixUptoRow.holds Try.pinned (OpenSpec.upto rowsMatrixSpec)

/-- 'ambitlaw7.RowsAlike', WHERE WHAT IT READS IS OF BULK AT MOST 1048576: true; the input reads as it did. -/
def rowsAlikeUptoRow : OpenClaim := { program := "ytkfhablonnjgeaa", sum := "e4b8576769d9ec7ab8b10b093dc8d095386ceb8f91a902ac5872c41d5866bf0d", func := "ambit/ambitlaw7.RowsAlike", spec := "rowsAlike", inPlace := ["math.Float64bits", "math.Float64frombits"], apart := false, narrowed := true }
def RowsAlikeUptoSaid : Prop := rowsAlikeUptoRow.holds Try.pinned (OpenSpec.upto rowsAlikeSpec)

/-- 'ambitlaw7.RowsWindows', WHERE WHAT IT READS IS OF BULK AT MOST 1048576: true; the input reads as it did. -/
def rowsWindowsUptoRow : OpenClaim := { program := "ytkfhablonnjgeaa", sum := "e4b8576769d9ec7ab8b10b093dc8d095386ceb8f91a902ac5872c41d5866bf0d", func := "ambit/ambitlaw7.RowsWindows", spec := "rowsWindows", inPlace := ["math.Float64bits", "math.Float64frombits"], apart := false, narrowed := true }
def RowsWindowsUptoSaid : Prop := rowsWindowsUptoRow.holds Try.pinned (OpenSpec.upto rowsWindowsSpec)

end Rows
end Go.Proofs.Ytkfhablonnjgeaa
