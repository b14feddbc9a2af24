/-
  DERIVED. GIVEN WITH THE SEED: THE CARDS: each row of YtnomlloaahoceaaDoorRows.lean that lists a variable, with what it lists TIED to the program's text (the seventh form; the later family's looks); each row that meets fmt, with fmt's text TOLD by the authors' own Lean function (tested against real Go, not proved from fmt's source: count such statements apart). THE CARD IS WHAT COUNTS. Prove the row's statement (the work); the ties are given (YtnomlloaahoceaaDoorTie.lean); close each card by the builder's one call (the guide's Derived/Test/ToyasCard.lean, 'card_holds'). Laid BY PROGRAM, IN A SANDBOX (cutbox-door.mjs). By AI agents, Wed Nov 11 2026. No macro, syntax, notation, axiom, sorry.
-/
import Derived.Test.YtnomlloaahoceaaDoorRows
import GoSem.ClaimSeven
namespace Go.Proofs.YtnomlloaahoceaaDoor
namespace Rows

/-- THE TIED CARD OF 'ambitlaw8.CodeProps'. -/
def codePropsCard : Claim7 := { stood := { row := codePropsRow, standIns := [], harness := (true, "1d117f41470a16a90798cd8bcf0bf166d302920c9dc6637a12117cacc6c52bfd"), looks := true }, kinds := [], alts := [], laidByText := true, laidKinds := [.data, .pinned], laidTests := true, laidLooks := .later }
def CodePropsCardSaid : Prop := Claim7.holds Tryd.pinned (.plain (OpenSpec.ofChange codePropsSpec)) codePropsCard

/-- THE TIED CARD OF 'ambitlaw8.CodePropBytes'. -/
def codePropBytesCard : Claim7 := { stood := { row := codePropBytesRow, standIns := [], harness := (true, "1d117f41470a16a90798cd8bcf0bf166d302920c9dc6637a12117cacc6c52bfd"), looks := true }, kinds := [], alts := [], laidByText := true, laidKinds := [.data, .pinned], laidTests := true, laidLooks := .later }
def CodePropBytesCardSaid : Prop := Claim7.holds Tryd.pinned (.plain (OpenSpec.ofChange codePropBytesSpec)) codePropBytesCard

/-- THE SECOND FORM's CARD OF 'ambitlaw8.CodeProps'. -/
def codePropsUptoCard : Claim7 := { stood := { row := codePropsUptoRow, standIns := [], harness := (true, "1d117f41470a16a90798cd8bcf0bf166d302920c9dc6637a12117cacc6c52bfd"), looks := true }, kinds := [], alts := [], laidByText := true, laidKinds := [.data, .pinned], laidTests := true, laidLooks := .later }
def CodePropsUptoCardSaid : Prop := Claim7.holds Tryd.pinned (.plain (OpenSpec.upto codePropsSpec)) codePropsUptoCard

/-- THE SECOND FORM's CARD OF 'ambitlaw8.CodePropBytes'. -/
def codePropBytesUptoCard : Claim7 := { stood := { row := codePropBytesUptoRow, standIns := [], harness := (true, "1d117f41470a16a90798cd8bcf0bf166d302920c9dc6637a12117cacc6c52bfd"), looks := true }, kinds := [], alts := [], laidByText := true, laidKinds := [.data, .pinned], laidTests := true, laidLooks := .later }
def CodePropBytesUptoCardSaid : Prop := Claim7.holds Tryd.pinned (.plain (OpenSpec.upto codePropBytesSpec)) codePropBytesUptoCard
end Rows
end Go.Proofs.YtnomlloaahoceaaDoor
