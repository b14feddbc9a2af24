/-
  NARROWER THAN 'FOR EVERY INPUT', by the rows' own cells (each row's printed sentence says how): ModelNames: laid · ModelProps: laid · ModelLimits: laid.
  DERIVED. THE GIVEN ROWS OF THIS SEAT. 3 by the template 'for every input the law returns true; each argument reads behind the call as it read before'; 0 by the template 'total and deterministic' (their statements: YtkfhablonnjgeaaDoorTotals.lean).
  GIVEN WITH THE SEED: the statements are not yours to turn. If you find one false, say at which input.
  Laid BY PROGRAM, IN A SANDBOX (cutbox-rows.mjs): the forced cells as the released guide's own fill.sh prints them over the translation 3e668dd6e6cbbab8… (all of the seat's roots in one cut). By AI agents, Wed Nov 11 2026. No macro, syntax, notation, axiom, sorry.
-/
import Derived.Test.YtkfhablonnjgeaaDoorChecked
import GoSem.PinnedTables
import GoSem.Claim
import GoSem.ClaimJoined
import GoSem.ClaimMapViews
import Derived.JoinedTies
import Derived.KernelRfl
namespace Go.Proofs.YtkfhablonnjgeaaDoor
/- THE CELL 'sum', in the pinned program and in every row, IS THE sha256 OF THE DUMP (.gsa) THAT YtkfhablonnjgeaaDoorProg.lean LOADS. Nothing in Lean hashes anything: it is a label: what it is worth is what the hold of that sum in a sandbox is worth. -/
noncomputable def Tryd.pinned : Pinned := { name := "ytkfhablonnjgeaadoor", sum := "3e668dd6e6cbbab8b7e7131c4ba4accb6a06b00b014e55c44776e2b4da687b3e", checked := Tryd.checked }
namespace Rows
def none {H : Type} : Left H := { results := [], args := [] }

/- WHAT THE LISTED PACKAGE-LEVEL VARIABLES READ AS WHEN THE CALL BEGINS. Each datum BY PROGRAM (the guide's laid-datum.mjs) off the statement by which the dump's own 'gosem.cut.vars' lays the variable. In a bare row this is a premise. The card (YtkfhablonnjgeaaDoorCards.lean) ties it to the program's text. -/
def laid_unicode_utf8_acceptRanges {H : Type} : DataW H := .agg [.agg [.lit (.int .u8 128), .lit (.int .u8 191)], .agg [.lit (.int .u8 160), .lit (.int .u8 191)], .agg [.lit (.int .u8 128), .lit (.int .u8 159)], .agg [.lit (.int .u8 144), .lit (.int .u8 191)], .agg [.lit (.int .u8 128), .lit (.int .u8 143)], .agg [.lit (.int .u8 0), .lit (.int .u8 0)], .agg [.lit (.int .u8 0), .lit (.int .u8 0)], .agg [.lit (.int .u8 0), .lit (.int .u8 0)], .agg [.lit (.int .u8 0), .lit (.int .u8 0)], .agg [.lit (.int .u8 0), .lit (.int .u8 0)], .agg [.lit (.int .u8 0), .lit (.int .u8 0)], .agg [.lit (.int .u8 0), .lit (.int .u8 0)], .agg [.lit (.int .u8 0), .lit (.int .u8 0)], .agg [.lit (.int .u8 0), .lit (.int .u8 0)], .agg [.lit (.int .u8 0), .lit (.int .u8 0)], .agg [.lit (.int .u8 0), .lit (.int .u8 0)]]
/-- One of Go's own tables, pinned by name: the form's constant. -/
def laid_unicode_utf8_first : DataW Unit := Go.Pinned.utf8First

/-- 'ambitlaw6.ModelNames': WHATEVER THE INPUT: true; the input reads as it did. -/
def modelNamesSpec : ChangeSpec := { name := "modelNames", fn := fun _ => fun
  | [d] => { results := [.lit (.bool true)], args := [d] }
  | _ => none }
def modelNamesRow : OpenClaim := { program := "ytkfhablonnjgeaadoor", sum := "3e668dd6e6cbbab8b7e7131c4ba4accb6a06b00b014e55c44776e2b4da687b3e", func := "ambit/ambitlaw6.ModelNames", spec := "modelNames", inPlace := ["math.Float64bits"], named := ["unicode/utf8.first", "unicode/utf8.acceptRanges"], apart := false, laid := [("unicode/utf8.acceptRanges", laid_unicode_utf8_acceptRanges), ("unicode/utf8.first", laid_unicode_utf8_first)] }
def ModelNamesSaid : Prop := modelNamesRow.holds Tryd.pinned (OpenSpec.ofChange modelNamesSpec)

/-- ITS FALSE NEIGHBOUR: 'it returns false'. Refute it at one input. -/
def modelNamesWrong : ChangeSpec := { name := "modelNames", fn := fun _ => fun
  | [d] => { results := [.lit (.bool false)], args := [d] }
  | _ => none }
def ModelNamesWrongFalsely : Prop := modelNamesRow.holds Tryd.pinned (OpenSpec.ofChange modelNamesWrong)

/-- 'ambitlaw6.ModelProps': WHATEVER THE INPUT: true; the input reads as it did. -/
def modelPropsSpec : ChangeSpec := { name := "modelProps", fn := fun _ => fun
  | [d1, d2, d3] => { results := [.lit (.bool true)], args := [d1, d2, d3] }
  | _ => none }
def modelPropsRow : OpenClaim := { program := "ytkfhablonnjgeaadoor", sum := "3e668dd6e6cbbab8b7e7131c4ba4accb6a06b00b014e55c44776e2b4da687b3e", func := "ambit/ambitlaw6.ModelProps", spec := "modelProps", inPlace := ["math.Float64bits"], named := ["unicode/utf8.first", "unicode/utf8.acceptRanges"], apart := false, laid := [("unicode/utf8.acceptRanges", laid_unicode_utf8_acceptRanges), ("unicode/utf8.first", laid_unicode_utf8_first)] }
def ModelPropsSaid : Prop := modelPropsRow.holds Tryd.pinned (OpenSpec.ofChange modelPropsSpec)

/-- ITS FALSE NEIGHBOUR: 'it returns false'. Refute it at one input. -/
def modelPropsWrong : ChangeSpec := { name := "modelProps", fn := fun _ => fun
  | [d1, d2, d3] => { results := [.lit (.bool false)], args := [d1, d2, d3] }
  | _ => none }
def ModelPropsWrongFalsely : Prop := modelPropsRow.holds Tryd.pinned (OpenSpec.ofChange modelPropsWrong)

/-- 'ambitlaw6.ModelLimits': WHATEVER THE INPUT: true; the input reads as it did. -/
def modelLimitsSpec : ChangeSpec := { name := "modelLimits", fn := fun _ => fun
  | [d] => { results := [.lit (.bool true)], args := [d] }
  | _ => none }
def modelLimitsRow : OpenClaim := { program := "ytkfhablonnjgeaadoor", sum := "3e668dd6e6cbbab8b7e7131c4ba4accb6a06b00b014e55c44776e2b4da687b3e", func := "ambit/ambitlaw6.ModelLimits", spec := "modelLimits", inPlace := ["math.Float64bits"], named := ["unicode/utf8.first", "unicode/utf8.acceptRanges"], apart := false, laid := [("unicode/utf8.acceptRanges", laid_unicode_utf8_acceptRanges), ("unicode/utf8.first", laid_unicode_utf8_first)] }
def ModelLimitsSaid : Prop := modelLimitsRow.holds Tryd.pinned (OpenSpec.ofChange modelLimitsSpec)

/-- ITS FALSE NEIGHBOUR: 'it returns false'. Refute it at one input. -/
def modelLimitsWrong : ChangeSpec := { name := "modelLimits", fn := fun _ => fun
  | [d] => { results := [.lit (.bool false)], args := [d] }
  | _ => none }
def ModelLimitsWrongFalsely : Prop := modelLimitsRow.holds Tryd.pinned (OpenSpec.ofChange modelLimitsWrong)

/- THE SECOND FORM. 'bulk': how many values and letters a reading holds, each counted each time it is reached (what is shared counts as often as it is met; a slice's spare places count too). A statement '..UptoSaid' is the law's where the arguments, and the package variables that the reading takes, are together of bulk at most 1048576: NARROWER than '..Said'. Prove '..Said' where nothing that the law and all that it calls make is longer than what came in: it says more and counts as full. Else prove '..UptoSaid'. A law counts once. -/
mutual
def uptoBulk {H : Type} : DataW H → Nat
  | .lit (.string bytes) => bytes.length + 1
  | .lit _ => 1
  | .nil => 1
  | .ptr d => uptoBulk d + 1
  | .slice elems spare => uptoBulkAll elems + uptoBulkAll spare + 1
  | .agg parts => uptoBulkAll parts + 1
  | .iface _ d => uptoBulk d + 1
  | .map entries => uptoBulkEntries entries + 1
  | .held _ => 1
def uptoBulkAll {H : Type} : List (DataW H) → Nat
  | [] => 0
  | d :: r => uptoBulk d + uptoBulkAll r
def uptoBulkEntries {H : Type} : List (Lit × DataW H) → Nat
  | [] => 0
  | x :: r => uptoBulkEntry x + uptoBulkEntries r
def uptoBulkEntry {H : Type} : Lit × DataW H → Nat
  | (.string bytes, d) => bytes.length + uptoBulk d + 1
  | (_, d) => uptoBulk d + 1
 end
def uptoSmall : (H : Type) → List (DataW H) → Bool := fun _ ds => decide (uptoBulkAll ds ≤ 1048576)
def OpenSpec.upto (s : _root_.Go.ChangeSpec) : _root_.Go.OpenSpec := { _root_.Go.OpenSpec.ofChange s with cond := some uptoSmall }

/-- 'ambitlaw6.ModelNames', WHERE WHAT IT READS IS OF BULK AT MOST 1048576: true; the input reads as it did. -/
def modelNamesUptoRow : OpenClaim := { program := "ytkfhablonnjgeaadoor", sum := "3e668dd6e6cbbab8b7e7131c4ba4accb6a06b00b014e55c44776e2b4da687b3e", func := "ambit/ambitlaw6.ModelNames", spec := "modelNames", inPlace := ["math.Float64bits"], named := ["unicode/utf8.first", "unicode/utf8.acceptRanges"], apart := false, laid := [("unicode/utf8.acceptRanges", laid_unicode_utf8_acceptRanges), ("unicode/utf8.first", laid_unicode_utf8_first)], narrowed := true }
def ModelNamesUptoSaid : Prop := modelNamesUptoRow.holds Tryd.pinned (OpenSpec.upto modelNamesSpec)

/-- 'ambitlaw6.ModelProps', WHERE WHAT IT READS IS OF BULK AT MOST 1048576: true; the input reads as it did. -/
def modelPropsUptoRow : OpenClaim := { program := "ytkfhablonnjgeaadoor", sum := "3e668dd6e6cbbab8b7e7131c4ba4accb6a06b00b014e55c44776e2b4da687b3e", func := "ambit/ambitlaw6.ModelProps", spec := "modelProps", inPlace := ["math.Float64bits"], named := ["unicode/utf8.first", "unicode/utf8.acceptRanges"], apart := false, laid := [("unicode/utf8.acceptRanges", laid_unicode_utf8_acceptRanges), ("unicode/utf8.first", laid_unicode_utf8_first)], narrowed := true }
def ModelPropsUptoSaid : Prop := modelPropsUptoRow.holds Tryd.pinned (OpenSpec.upto modelPropsSpec)

/-- 'ambitlaw6.ModelLimits', WHERE WHAT IT READS IS OF BULK AT MOST 1048576: true; the input reads as it did. -/
def modelLimitsUptoRow : OpenClaim := { program := "ytkfhablonnjgeaadoor", sum := "3e668dd6e6cbbab8b7e7131c4ba4accb6a06b00b014e55c44776e2b4da687b3e", func := "ambit/ambitlaw6.ModelLimits", spec := "modelLimits", inPlace := ["math.Float64bits"], named := ["unicode/utf8.first", "unicode/utf8.acceptRanges"], apart := false, laid := [("unicode/utf8.acceptRanges", laid_unicode_utf8_acceptRanges), ("unicode/utf8.first", laid_unicode_utf8_first)], narrowed := true }
def ModelLimitsUptoSaid : Prop := modelLimitsUptoRow.holds Tryd.pinned (OpenSpec.upto modelLimitsSpec)

end Rows
end Go.Proofs.YtkfhablonnjgeaaDoor
