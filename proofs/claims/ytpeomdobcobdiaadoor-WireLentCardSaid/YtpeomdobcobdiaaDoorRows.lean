/-
  NARROWER THAN 'FOR EVERY INPUT', by the rows' own cells (each row's printed sentence says how): WireNumbers: laid · WireJoined: laid · WirePoints: laid · WireTexts: laid · WireFloats: laid · WireFrames: laid · WireLong: laid · WireTurned: laid · WireAgain: laid · WireLent: laid · WireBack: laid · WireUnlike: laid.
  DERIVED. THE GIVEN ROWS OF THIS SEAT. 12 by the template 'for every input the law returns true; each argument reads behind the call as it read before'; 0 by the template 'total and deterministic' (their statements: YtpeomdobcobdiaaDoorTotals.lean).
  GIVEN WITH THE SEED: the statements are not yours to turn. If you find one false, say at which input.
  Laid BY PROGRAM, IN A SANDBOX (cutbox-rows.mjs): the forced cells as the released guide's own fill.sh prints them over the translation d1ba056ae5928c10… (all of the seat's roots in one cut). By AI agents, Wed Nov 11 2026. No macro, syntax, notation, axiom, sorry.
-/
import Derived.Test.YtpeomdobcobdiaaDoorChecked
import GoSem.PinnedTables
import GoSem.Claim
import GoSem.ClaimJoined
import GoSem.ClaimMapViews
import Derived.JoinedTies
import Derived.KernelRfl
namespace Go.Proofs.YtpeomdobcobdiaaDoor
/- THE CELL 'sum', in the pinned program and in every row, IS THE sha256 OF THE DUMP (.gsa) THAT YtpeomdobcobdiaaDoorProg.lean LOADS. Nothing in Lean hashes anything: it is a label: what it is worth is what the hold of that sum in a sandbox is worth. -/
noncomputable def Tryd.pinned : Pinned := { name := "ytpeomdobcobdiaadoor", sum := "d1ba056ae5928c10cf00b36bb790f17258e38f4f6317e803828515b0fc26d61c", checked := Tryd.checked }
namespace Rows
def none {H : Type} : Left H := { results := [], args := [] }

/- WHAT THE LISTED PACKAGE-LEVEL VARIABLES READ AS WHEN THE CALL BEGINS. Each datum BY PROGRAM (the guide's laid-datum.mjs) off the statement by which the dump's own 'gosem.cut.vars' lays the variable. In a bare row this is a premise. The card (YtpeomdobcobdiaaDoorCards.lean) ties it to the program's text. -/
def laid_unicode_utf8_acceptRanges {H : Type} : DataW H := .agg [.agg [.lit (.int .u8 128), .lit (.int .u8 191)], .agg [.lit (.int .u8 160), .lit (.int .u8 191)], .agg [.lit (.int .u8 128), .lit (.int .u8 159)], .agg [.lit (.int .u8 144), .lit (.int .u8 191)], .agg [.lit (.int .u8 128), .lit (.int .u8 143)], .agg [.lit (.int .u8 0), .lit (.int .u8 0)], .agg [.lit (.int .u8 0), .lit (.int .u8 0)], .agg [.lit (.int .u8 0), .lit (.int .u8 0)], .agg [.lit (.int .u8 0), .lit (.int .u8 0)], .agg [.lit (.int .u8 0), .lit (.int .u8 0)], .agg [.lit (.int .u8 0), .lit (.int .u8 0)], .agg [.lit (.int .u8 0), .lit (.int .u8 0)], .agg [.lit (.int .u8 0), .lit (.int .u8 0)], .agg [.lit (.int .u8 0), .lit (.int .u8 0)], .agg [.lit (.int .u8 0), .lit (.int .u8 0)], .agg [.lit (.int .u8 0), .lit (.int .u8 0)]]
/-- One of Go's own tables, pinned by name: the form's constant. -/
def laid_unicode_utf8_first : DataW Unit := Go.Pinned.utf8First

/-- 'ambitlaw1.WireNumbers': WHATEVER THE INPUT: true; the input reads as it did. -/
def wireNumbersSpec : ChangeSpec := { name := "wireNumbers", fn := fun _ => fun
  | [d1, d2, d3] => { results := [.lit (.bool true)], args := [d1, d2, d3] }
  | _ => none }
def wireNumbersRow : OpenClaim := { program := "ytpeomdobcobdiaadoor", sum := "d1ba056ae5928c10cf00b36bb790f17258e38f4f6317e803828515b0fc26d61c", func := "ambit/ambitlaw1.WireNumbers", spec := "wireNumbers", named := ["unicode/utf8.first", "unicode/utf8.acceptRanges"], apart := false, laid := [("unicode/utf8.acceptRanges", laid_unicode_utf8_acceptRanges), ("unicode/utf8.first", laid_unicode_utf8_first)] }
def WireNumbersSaid : Prop := wireNumbersRow.holds Tryd.pinned (OpenSpec.ofChange wireNumbersSpec)

/-- ITS FALSE NEIGHBOUR: 'it returns false'. Refute it at one input. -/
def wireNumbersWrong : ChangeSpec := { name := "wireNumbers", fn := fun _ => fun
  | [d1, d2, d3] => { results := [.lit (.bool false)], args := [d1, d2, d3] }
  | _ => none }
def WireNumbersWrongFalsely : Prop := wireNumbersRow.holds Tryd.pinned (OpenSpec.ofChange wireNumbersWrong)

/-- 'ambitlaw1.WireJoined': WHATEVER THE INPUT: true; the input reads as it did. -/
def wireJoinedSpec : ChangeSpec := { name := "wireJoined", fn := fun _ => fun
  | [d] => { results := [.lit (.bool true)], args := [d] }
  | _ => none }
def wireJoinedRow : OpenClaim := { program := "ytpeomdobcobdiaadoor", sum := "d1ba056ae5928c10cf00b36bb790f17258e38f4f6317e803828515b0fc26d61c", func := "ambit/ambitlaw1.WireJoined", spec := "wireJoined", named := ["unicode/utf8.first", "unicode/utf8.acceptRanges"], apart := false, laid := [("unicode/utf8.acceptRanges", laid_unicode_utf8_acceptRanges), ("unicode/utf8.first", laid_unicode_utf8_first)] }
def WireJoinedSaid : Prop := wireJoinedRow.holds Tryd.pinned (OpenSpec.ofChange wireJoinedSpec)

/-- ITS FALSE NEIGHBOUR: 'it returns false'. Refute it at one input. -/
def wireJoinedWrong : ChangeSpec := { name := "wireJoined", fn := fun _ => fun
  | [d] => { results := [.lit (.bool false)], args := [d] }
  | _ => none }
def WireJoinedWrongFalsely : Prop := wireJoinedRow.holds Tryd.pinned (OpenSpec.ofChange wireJoinedWrong)

/-- 'ambitlaw1.WirePoints': WHATEVER THE INPUT: true; the input reads as it did. -/
def wirePointsSpec : ChangeSpec := { name := "wirePoints", fn := fun _ => fun
  | [d1, d2, d3, d4] => { results := [.lit (.bool true)], args := [d1, d2, d3, d4] }
  | _ => none }
def wirePointsRow : OpenClaim := { program := "ytpeomdobcobdiaadoor", sum := "d1ba056ae5928c10cf00b36bb790f17258e38f4f6317e803828515b0fc26d61c", func := "ambit/ambitlaw1.WirePoints", spec := "wirePoints", named := ["unicode/utf8.first", "unicode/utf8.acceptRanges"], apart := false, laid := [("unicode/utf8.acceptRanges", laid_unicode_utf8_acceptRanges), ("unicode/utf8.first", laid_unicode_utf8_first)] }
def WirePointsSaid : Prop := wirePointsRow.holds Tryd.pinned (OpenSpec.ofChange wirePointsSpec)

/-- ITS FALSE NEIGHBOUR: 'it returns false'. Refute it at one input. -/
def wirePointsWrong : ChangeSpec := { name := "wirePoints", fn := fun _ => fun
  | [d1, d2, d3, d4] => { results := [.lit (.bool false)], args := [d1, d2, d3, d4] }
  | _ => none }
def WirePointsWrongFalsely : Prop := wirePointsRow.holds Tryd.pinned (OpenSpec.ofChange wirePointsWrong)

/-- 'ambitlaw1.WireTexts': WHATEVER THE INPUT: true; the input reads as it did. -/
def wireTextsSpec : ChangeSpec := { name := "wireTexts", fn := fun _ => fun
  | [d1, d2, d3, d4] => { results := [.lit (.bool true)], args := [d1, d2, d3, d4] }
  | _ => none }
def wireTextsRow : OpenClaim := { program := "ytpeomdobcobdiaadoor", sum := "d1ba056ae5928c10cf00b36bb790f17258e38f4f6317e803828515b0fc26d61c", func := "ambit/ambitlaw1.WireTexts", spec := "wireTexts", named := ["unicode/utf8.first", "unicode/utf8.acceptRanges"], apart := false, laid := [("unicode/utf8.acceptRanges", laid_unicode_utf8_acceptRanges), ("unicode/utf8.first", laid_unicode_utf8_first)] }
def WireTextsSaid : Prop := wireTextsRow.holds Tryd.pinned (OpenSpec.ofChange wireTextsSpec)

/-- ITS FALSE NEIGHBOUR: 'it returns false'. Refute it at one input. -/
def wireTextsWrong : ChangeSpec := { name := "wireTexts", fn := fun _ => fun
  | [d1, d2, d3, d4] => { results := [.lit (.bool false)], args := [d1, d2, d3, d4] }
  | _ => none }
def WireTextsWrongFalsely : Prop := wireTextsRow.holds Tryd.pinned (OpenSpec.ofChange wireTextsWrong)

/-- 'ambitlaw1.WireFloats': WHATEVER THE INPUT: true; the input reads as it did. -/
def wireFloatsSpec : ChangeSpec := { name := "wireFloats", fn := fun _ => fun
  | [d1, d2, d3] => { results := [.lit (.bool true)], args := [d1, d2, d3] }
  | _ => none }
def wireFloatsRow : OpenClaim := { program := "ytpeomdobcobdiaadoor", sum := "d1ba056ae5928c10cf00b36bb790f17258e38f4f6317e803828515b0fc26d61c", func := "ambit/ambitlaw1.WireFloats", spec := "wireFloats", inPlace := ["math.Float64frombits", "math.Float64bits"], named := ["unicode/utf8.first", "unicode/utf8.acceptRanges"], apart := false, laid := [("unicode/utf8.acceptRanges", laid_unicode_utf8_acceptRanges), ("unicode/utf8.first", laid_unicode_utf8_first)] }
def WireFloatsSaid : Prop := wireFloatsRow.holds Tryd.pinned (OpenSpec.ofChange wireFloatsSpec)

/-- ITS FALSE NEIGHBOUR: 'it returns false'. Refute it at one input. -/
def wireFloatsWrong : ChangeSpec := { name := "wireFloats", fn := fun _ => fun
  | [d1, d2, d3] => { results := [.lit (.bool false)], args := [d1, d2, d3] }
  | _ => none }
def WireFloatsWrongFalsely : Prop := wireFloatsRow.holds Tryd.pinned (OpenSpec.ofChange wireFloatsWrong)

/-- 'ambitlaw1.WireFrames': WHATEVER THE INPUT: true; the input reads as it did. -/
def wireFramesSpec : ChangeSpec := { name := "wireFrames", fn := fun _ => fun
  | [d1, d2, d3, d4] => { results := [.lit (.bool true)], args := [d1, d2, d3, d4] }
  | _ => none }
def wireFramesRow : OpenClaim := { program := "ytpeomdobcobdiaadoor", sum := "d1ba056ae5928c10cf00b36bb790f17258e38f4f6317e803828515b0fc26d61c", func := "ambit/ambitlaw1.WireFrames", spec := "wireFrames", named := ["unicode/utf8.first", "unicode/utf8.acceptRanges"], apart := false, laid := [("unicode/utf8.acceptRanges", laid_unicode_utf8_acceptRanges), ("unicode/utf8.first", laid_unicode_utf8_first)] }
def WireFramesSaid : Prop := wireFramesRow.holds Tryd.pinned (OpenSpec.ofChange wireFramesSpec)

/-- ITS FALSE NEIGHBOUR: 'it returns false'. Refute it at one input. -/
def wireFramesWrong : ChangeSpec := { name := "wireFrames", fn := fun _ => fun
  | [d1, d2, d3, d4] => { results := [.lit (.bool false)], args := [d1, d2, d3, d4] }
  | _ => none }
def WireFramesWrongFalsely : Prop := wireFramesRow.holds Tryd.pinned (OpenSpec.ofChange wireFramesWrong)

/-- 'ambitlaw1.WireLong': WHATEVER THE INPUT: true; the input reads as it did. -/
def wireLongSpec : ChangeSpec := { name := "wireLong", fn := fun _ => fun
  | [d] => { results := [.lit (.bool true)], args := [d] }
  | _ => none }
def wireLongRow : OpenClaim := { program := "ytpeomdobcobdiaadoor", sum := "d1ba056ae5928c10cf00b36bb790f17258e38f4f6317e803828515b0fc26d61c", func := "ambit/ambitlaw1.WireLong", spec := "wireLong", named := ["unicode/utf8.first", "unicode/utf8.acceptRanges"], apart := false, laid := [("unicode/utf8.acceptRanges", laid_unicode_utf8_acceptRanges), ("unicode/utf8.first", laid_unicode_utf8_first)] }
def WireLongSaid : Prop := wireLongRow.holds Tryd.pinned (OpenSpec.ofChange wireLongSpec)

/-- ITS FALSE NEIGHBOUR: 'it returns false'. Refute it at one input. -/
def wireLongWrong : ChangeSpec := { name := "wireLong", fn := fun _ => fun
  | [d] => { results := [.lit (.bool false)], args := [d] }
  | _ => none }
def WireLongWrongFalsely : Prop := wireLongRow.holds Tryd.pinned (OpenSpec.ofChange wireLongWrong)

/-- 'ambitlaw1.WireTurned': WHATEVER THE INPUT: true; the input reads as it did. -/
def wireTurnedSpec : ChangeSpec := { name := "wireTurned", fn := fun _ => fun
  | [d1, d2, d3, d4, d5] => { results := [.lit (.bool true)], args := [d1, d2, d3, d4, d5] }
  | _ => none }
def wireTurnedRow : OpenClaim := { program := "ytpeomdobcobdiaadoor", sum := "d1ba056ae5928c10cf00b36bb790f17258e38f4f6317e803828515b0fc26d61c", func := "ambit/ambitlaw1.WireTurned", spec := "wireTurned", named := ["unicode/utf8.first", "unicode/utf8.acceptRanges"], apart := false, laid := [("unicode/utf8.acceptRanges", laid_unicode_utf8_acceptRanges), ("unicode/utf8.first", laid_unicode_utf8_first)] }
def WireTurnedSaid : Prop := wireTurnedRow.holds Tryd.pinned (OpenSpec.ofChange wireTurnedSpec)

/-- ITS FALSE NEIGHBOUR: 'it returns false'. Refute it at one input. -/
def wireTurnedWrong : ChangeSpec := { name := "wireTurned", fn := fun _ => fun
  | [d1, d2, d3, d4, d5] => { results := [.lit (.bool false)], args := [d1, d2, d3, d4, d5] }
  | _ => none }
def WireTurnedWrongFalsely : Prop := wireTurnedRow.holds Tryd.pinned (OpenSpec.ofChange wireTurnedWrong)

/-- 'ambitlaw1.WireAgain': WHATEVER THE INPUT: true; the input reads as it did. -/
def wireAgainSpec : ChangeSpec := { name := "wireAgain", fn := fun _ => fun
  | [d1, d2, d3] => { results := [.lit (.bool true)], args := [d1, d2, d3] }
  | _ => none }
def wireAgainRow : OpenClaim := { program := "ytpeomdobcobdiaadoor", sum := "d1ba056ae5928c10cf00b36bb790f17258e38f4f6317e803828515b0fc26d61c", func := "ambit/ambitlaw1.WireAgain", spec := "wireAgain", named := ["unicode/utf8.first", "unicode/utf8.acceptRanges"], apart := false, laid := [("unicode/utf8.acceptRanges", laid_unicode_utf8_acceptRanges), ("unicode/utf8.first", laid_unicode_utf8_first)] }
def WireAgainSaid : Prop := wireAgainRow.holds Tryd.pinned (OpenSpec.ofChange wireAgainSpec)

/-- ITS FALSE NEIGHBOUR: 'it returns false'. Refute it at one input. -/
def wireAgainWrong : ChangeSpec := { name := "wireAgain", fn := fun _ => fun
  | [d1, d2, d3] => { results := [.lit (.bool false)], args := [d1, d2, d3] }
  | _ => none }
def WireAgainWrongFalsely : Prop := wireAgainRow.holds Tryd.pinned (OpenSpec.ofChange wireAgainWrong)

/-- 'ambitlaw1.WireLent': WHATEVER THE INPUT: true; the input reads as it did. -/
def wireLentSpec : ChangeSpec := { name := "wireLent", fn := fun _ => fun
  | [d1, d2, d3, d4] => { results := [.lit (.bool true)], args := [d1, d2, d3, d4] }
  | _ => none }
def wireLentRow : OpenClaim := { program := "ytpeomdobcobdiaadoor", sum := "d1ba056ae5928c10cf00b36bb790f17258e38f4f6317e803828515b0fc26d61c", func := "ambit/ambitlaw1.WireLent", spec := "wireLent", inPlace := ["math.Float64frombits", "math.Float64bits"], named := ["unicode/utf8.first", "unicode/utf8.acceptRanges"], apart := false, laid := [("unicode/utf8.acceptRanges", laid_unicode_utf8_acceptRanges), ("unicode/utf8.first", laid_unicode_utf8_first)] }
def WireLentSaid : Prop := wireLentRow.holds Tryd.pinned (OpenSpec.ofChange wireLentSpec)

/-- ITS FALSE NEIGHBOUR: 'it returns false'. Refute it at one input. -/
def wireLentWrong : ChangeSpec := { name := "wireLent", fn := fun _ => fun
  | [d1, d2, d3, d4] => { results := [.lit (.bool false)], args := [d1, d2, d3, d4] }
  | _ => none }
def WireLentWrongFalsely : Prop := wireLentRow.holds Tryd.pinned (OpenSpec.ofChange wireLentWrong)

/-- 'ambitlaw1.WireBack': WHATEVER THE INPUT: true; the input reads as it did. -/
def wireBackSpec : ChangeSpec := { name := "wireBack", fn := fun _ => fun
  | [d1, d2, d3, d4, d5] => { results := [.lit (.bool true)], args := [d1, d2, d3, d4, d5] }
  | _ => none }
def wireBackRow : OpenClaim := { program := "ytpeomdobcobdiaadoor", sum := "d1ba056ae5928c10cf00b36bb790f17258e38f4f6317e803828515b0fc26d61c", func := "ambit/ambitlaw1.WireBack", spec := "wireBack", inPlace := ["math.Float64frombits", "math.Float64bits"], named := ["unicode/utf8.first", "unicode/utf8.acceptRanges"], apart := false, laid := [("unicode/utf8.acceptRanges", laid_unicode_utf8_acceptRanges), ("unicode/utf8.first", laid_unicode_utf8_first)] }
def WireBackSaid : Prop := wireBackRow.holds Tryd.pinned (OpenSpec.ofChange wireBackSpec)

/-- ITS FALSE NEIGHBOUR: 'it returns false'. Refute it at one input. -/
def wireBackWrong : ChangeSpec := { name := "wireBack", fn := fun _ => fun
  | [d1, d2, d3, d4, d5] => { results := [.lit (.bool false)], args := [d1, d2, d3, d4, d5] }
  | _ => none }
def WireBackWrongFalsely : Prop := wireBackRow.holds Tryd.pinned (OpenSpec.ofChange wireBackWrong)

/-- 'ambitlaw1.WireUnlike': WHATEVER THE INPUT: true; the input reads as it did. -/
def wireUnlikeSpec : ChangeSpec := { name := "wireUnlike", fn := fun _ => fun
  | [d1, d2, d3] => { results := [.lit (.bool true)], args := [d1, d2, d3] }
  | _ => none }
def wireUnlikeRow : OpenClaim := { program := "ytpeomdobcobdiaadoor", sum := "d1ba056ae5928c10cf00b36bb790f17258e38f4f6317e803828515b0fc26d61c", func := "ambit/ambitlaw1.WireUnlike", spec := "wireUnlike", inPlace := ["math.Float64frombits", "math.Float64bits"], named := ["unicode/utf8.first", "unicode/utf8.acceptRanges"], apart := false, laid := [("unicode/utf8.acceptRanges", laid_unicode_utf8_acceptRanges), ("unicode/utf8.first", laid_unicode_utf8_first)] }
def WireUnlikeSaid : Prop := wireUnlikeRow.holds Tryd.pinned (OpenSpec.ofChange wireUnlikeSpec)

/-- ITS FALSE NEIGHBOUR: 'it returns false'. Refute it at one input. -/
def wireUnlikeWrong : ChangeSpec := { name := "wireUnlike", fn := fun _ => fun
  | [d1, d2, d3] => { results := [.lit (.bool false)], args := [d1, d2, d3] }
  | _ => none }
def WireUnlikeWrongFalsely : Prop := wireUnlikeRow.holds Tryd.pinned (OpenSpec.ofChange wireUnlikeWrong)

/- THE SECOND FORM. 'bulk': how many values and letters a reading holds, each counted each time it is reached (what is shared counts as often as it is met; a slice's spare places count too). A statement '..UptoSaid' is the law's where the arguments, and the package variables that the reading takes, are together of bulk at most 1048576: NARROWER than '..Said'. Prove '..Said' where nothing that the law and all that it calls make is longer than what came in: it says more and counts as full. Else prove '..UptoSaid'. A law counts once. -/
mutual
def uptoBulk {H : Type} : DataW H → Nat
  | .lit (.string bytes) => bytes.length + 1
  | .lit _ => 1
  | .nil => 1
  | .ptr d => uptoBulk d + 1
  | .slice elems spare => uptoBulkAll elems + uptoBulkAll spare + 1
  | .agg parts => uptoBulkAll parts + 1
  | .iface _ d => uptoBulk d + 1
  | .map entries => uptoBulkEntries entries + 1
  | .held _ => 1
def uptoBulkAll {H : Type} : List (DataW H) → Nat
  | [] => 0
  | d :: r => uptoBulk d + uptoBulkAll r
def uptoBulkEntries {H : Type} : List (Lit × DataW H) → Nat
  | [] => 0
  | x :: r => uptoBulkEntry x + uptoBulkEntries r
def uptoBulkEntry {H : Type} : Lit × DataW H → Nat
  | (.string bytes, d) => bytes.length + uptoBulk d + 1
  | (_, d) => uptoBulk d + 1
 end
def uptoSmall : (H : Type) → List (DataW H) → Bool := fun _ ds => decide (uptoBulkAll ds ≤ 1048576)
def OpenSpec.upto (s : _root_.Go.ChangeSpec) : _root_.Go.OpenSpec := { _root_.Go.OpenSpec.ofChange s with cond := some uptoSmall }

/-- 'ambitlaw1.WireNumbers', WHERE WHAT IT READS IS OF BULK AT MOST 1048576: true; the input reads as it did. -/
def wireNumbersUptoRow : OpenClaim := { program := "ytpeomdobcobdiaadoor", sum := "d1ba056ae5928c10cf00b36bb790f17258e38f4f6317e803828515b0fc26d61c", func := "ambit/ambitlaw1.WireNumbers", spec := "wireNumbers", named := ["unicode/utf8.first", "unicode/utf8.acceptRanges"], apart := false, laid := [("unicode/utf8.acceptRanges", laid_unicode_utf8_acceptRanges), ("unicode/utf8.first", laid_unicode_utf8_first)], narrowed := true }
def WireNumbersUptoSaid : Prop := wireNumbersUptoRow.holds Tryd.pinned (OpenSpec.upto wireNumbersSpec)

/-- 'ambitlaw1.WireJoined', WHERE WHAT IT READS IS OF BULK AT MOST 1048576: true; the input reads as it did. -/
def wireJoinedUptoRow : OpenClaim := { program := "ytpeomdobcobdiaadoor", sum := "d1ba056ae5928c10cf00b36bb790f17258e38f4f6317e803828515b0fc26d61c", func := "ambit/ambitlaw1.WireJoined", spec := "wireJoined", named := ["unicode/utf8.first", "unicode/utf8.acceptRanges"], apart := false, laid := [("unicode/utf8.acceptRanges", laid_unicode_utf8_acceptRanges), ("unicode/utf8.first", laid_unicode_utf8_first)], narrowed := true }
def WireJoinedUptoSaid : Prop := wireJoinedUptoRow.holds Tryd.pinned (OpenSpec.upto wireJoinedSpec)

/-- 'ambitlaw1.WirePoints', WHERE WHAT IT READS IS OF BULK AT MOST 1048576: true; the input reads as it did. -/
def wirePointsUptoRow : OpenClaim := { program := "ytpeomdobcobdiaadoor", sum := "d1ba056ae5928c10cf00b36bb790f17258e38f4f6317e803828515b0fc26d61c", func := "ambit/ambitlaw1.WirePoints", spec := "wirePoints", named := ["unicode/utf8.first", "unicode/utf8.acceptRanges"], apart := false, laid := [("unicode/utf8.acceptRanges", laid_unicode_utf8_acceptRanges), ("unicode/utf8.first", laid_unicode_utf8_first)], narrowed := true }
def WirePointsUptoSaid : Prop := wirePointsUptoRow.holds Tryd.pinned (OpenSpec.upto wirePointsSpec)

/-- 'ambitlaw1.WireTexts', WHERE WHAT IT READS IS OF BULK AT MOST 1048576: true; the input reads as it did. -/
def wireTextsUptoRow : OpenClaim := { program := "ytpeomdobcobdiaadoor", sum := "d1ba056ae5928c10cf00b36bb790f17258e38f4f6317e803828515b0fc26d61c", func := "ambit/ambitlaw1.WireTexts", spec := "wireTexts", named := ["unicode/utf8.first", "unicode/utf8.acceptRanges"], apart := false, laid := [("unicode/utf8.acceptRanges", laid_unicode_utf8_acceptRanges), ("unicode/utf8.first", laid_unicode_utf8_first)], narrowed := true }
def WireTextsUptoSaid : Prop := wireTextsUptoRow.holds Tryd.pinned (OpenSpec.upto wireTextsSpec)

/-- 'ambitlaw1.WireFloats', WHERE WHAT IT READS IS OF BULK AT MOST 1048576: true; the input reads as it did. -/
def wireFloatsUptoRow : OpenClaim := { program := "ytpeomdobcobdiaadoor", sum := "d1ba056ae5928c10cf00b36bb790f17258e38f4f6317e803828515b0fc26d61c", func := "ambit/ambitlaw1.WireFloats", spec := "wireFloats", inPlace := ["math.Float64frombits", "math.Float64bits"], named := ["unicode/utf8.first", "unicode/utf8.acceptRanges"], apart := false, laid := [("unicode/utf8.acceptRanges", laid_unicode_utf8_acceptRanges), ("unicode/utf8.first", laid_unicode_utf8_first)], narrowed := true }
def WireFloatsUptoSaid : Prop := wireFloatsUptoRow.holds Tryd.pinned (OpenSpec.upto wireFloatsSpec)

/-- 'ambitlaw1.WireFrames', WHERE WHAT IT READS IS OF BULK AT MOST 1048576: true; the input reads as it did. -/
def wireFramesUptoRow : OpenClaim := { program := "ytpeomdobcobdiaadoor", sum := "d1ba056ae5928c10cf00b36bb790f17258e38f4f6317e803828515b0fc26d61c", func := "ambit/ambitlaw1.WireFrames", spec := "wireFrames", named := ["unicode/utf8.first", "unicode/utf8.acceptRanges"], apart := false, laid := [("unicode/utf8.acceptRanges", laid_unicode_utf8_acceptRanges), ("unicode/utf8.first", laid_unicode_utf8_first)], narrowed := true }
def WireFramesUptoSaid : Prop := wireFramesUptoRow.holds Tryd.pinned (OpenSpec.upto wireFramesSpec)

/-- 'ambitlaw1.WireLong', WHERE WHAT IT READS IS OF BULK AT MOST 1048576: true; the input reads as it did. -/
def wireLongUptoRow : OpenClaim := { program := "ytpeomdobcobdiaadoor", sum := "d1ba056ae5928c10cf00b36bb790f17258e38f4f6317e803828515b0fc26d61c", func := "ambit/ambitlaw1.WireLong", spec := "wireLong", named := ["unicode/utf8.first", "unicode/utf8.acceptRanges"], apart := false, laid := [("unicode/utf8.acceptRanges", laid_unicode_utf8_acceptRanges), ("unicode/utf8.first", laid_unicode_utf8_first)], narrowed := true }
def WireLongUptoSaid : Prop := wireLongUptoRow.holds Tryd.pinned (OpenSpec.upto wireLongSpec)

/-- 'ambitlaw1.WireTurned', WHERE WHAT IT READS IS OF BULK AT MOST 1048576: true; the input reads as it did. -/
def wireTurnedUptoRow : OpenClaim := { program := "ytpeomdobcobdiaadoor", sum := "d1ba056ae5928c10cf00b36bb790f17258e38f4f6317e803828515b0fc26d61c", func := "ambit/ambitlaw1.WireTurned", spec := "wireTurned", named := ["unicode/utf8.first", "unicode/utf8.acceptRanges"], apart := false, laid := [("unicode/utf8.acceptRanges", laid_unicode_utf8_acceptRanges), ("unicode/utf8.first", laid_unicode_utf8_first)], narrowed := true }
def WireTurnedUptoSaid : Prop := wireTurnedUptoRow.holds Tryd.pinned (OpenSpec.upto wireTurnedSpec)

/-- 'ambitlaw1.WireAgain', WHERE WHAT IT READS IS OF BULK AT MOST 1048576: true; the input reads as it did. -/
def wireAgainUptoRow : OpenClaim := { program := "ytpeomdobcobdiaadoor", sum := "d1ba056ae5928c10cf00b36bb790f17258e38f4f6317e803828515b0fc26d61c", func := "ambit/ambitlaw1.WireAgain", spec := "wireAgain", named := ["unicode/utf8.first", "unicode/utf8.acceptRanges"], apart := false, laid := [("unicode/utf8.acceptRanges", laid_unicode_utf8_acceptRanges), ("unicode/utf8.first", laid_unicode_utf8_first)], narrowed := true }
def WireAgainUptoSaid : Prop := wireAgainUptoRow.holds Tryd.pinned (OpenSpec.upto wireAgainSpec)

/-- 'ambitlaw1.WireLent', WHERE WHAT IT READS IS OF BULK AT MOST 1048576: true; the input reads as it did. -/
def wireLentUptoRow : OpenClaim := { program := "ytpeomdobcobdiaadoor", sum := "d1ba056ae5928c10cf00b36bb790f17258e38f4f6317e803828515b0fc26d61c", func := "ambit/ambitlaw1.WireLent", spec := "wireLent", inPlace := ["math.Float64frombits", "math.Float64bits"], named := ["unicode/utf8.first", "unicode/utf8.acceptRanges"], apart := false, laid := [("unicode/utf8.acceptRanges", laid_unicode_utf8_acceptRanges), ("unicode/utf8.first", laid_unicode_utf8_first)], narrowed := true }
def WireLentUptoSaid : Prop := wireLentUptoRow.holds Tryd.pinned (OpenSpec.upto wireLentSpec)

/-- 'ambitlaw1.WireBack', WHERE WHAT IT READS IS OF BULK AT MOST 1048576: true; the input reads as it did. -/
def wireBackUptoRow : OpenClaim := { program := "ytpeomdobcobdiaadoor", sum := "d1ba056ae5928c10cf00b36bb790f17258e38f4f6317e803828515b0fc26d61c", func := "ambit/ambitlaw1.WireBack", spec := "wireBack", inPlace := ["math.Float64frombits", "math.Float64bits"], named := ["unicode/utf8.first", "unicode/utf8.acceptRanges"], apart := false, laid := [("unicode/utf8.acceptRanges", laid_unicode_utf8_acceptRanges), ("unicode/utf8.first", laid_unicode_utf8_first)], narrowed := true }
def WireBackUptoSaid : Prop := wireBackUptoRow.holds Tryd.pinned (OpenSpec.upto wireBackSpec)

/-- 'ambitlaw1.WireUnlike', WHERE WHAT IT READS IS OF BULK AT MOST 1048576: true; the input reads as it did. -/
def wireUnlikeUptoRow : OpenClaim := { program := "ytpeomdobcobdiaadoor", sum := "d1ba056ae5928c10cf00b36bb790f17258e38f4f6317e803828515b0fc26d61c", func := "ambit/ambitlaw1.WireUnlike", spec := "wireUnlike", inPlace := ["math.Float64frombits", "math.Float64bits"], named := ["unicode/utf8.first", "unicode/utf8.acceptRanges"], apart := false, laid := [("unicode/utf8.acceptRanges", laid_unicode_utf8_acceptRanges), ("unicode/utf8.first", laid_unicode_utf8_first)], narrowed := true }
def WireUnlikeUptoSaid : Prop := wireUnlikeUptoRow.holds Tryd.pinned (OpenSpec.upto wireUnlikeSpec)

end Rows
end Go.Proofs.YtpeomdobcobdiaaDoor
