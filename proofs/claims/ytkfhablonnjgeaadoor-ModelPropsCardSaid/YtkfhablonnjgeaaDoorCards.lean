/-
  DERIVED. GIVEN WITH THE SEED: THE CARDS: each row of YtkfhablonnjgeaaDoorRows.lean that lists a variable, with what it lists TIED to the program's text (the seventh form; the later family's looks); each row that meets fmt, with fmt's text TOLD by the authors' own Lean function (tested against real Go, not proved from fmt's source: count such statements apart). THE CARD IS WHAT COUNTS. Prove the row's statement (the work); the ties are given (YtkfhablonnjgeaaDoorTie.lean); close each card by the builder's one call (the guide's Derived/Test/ToyasCard.lean, 'card_holds'). Laid BY PROGRAM, IN A SANDBOX (cutbox-door.mjs). By AI agents, Wed Nov 11 2026. No macro, syntax, notation, axiom, sorry.
-/
import Derived.Test.YtkfhablonnjgeaaDoorRows
import GoSem.ClaimSeven
namespace Go.Proofs.YtkfhablonnjgeaaDoor
namespace Rows

/-- THE TIED CARD OF 'ambitlaw6.ModelNames'. -/
def modelNamesCard : Claim7 := { stood := { row := modelNamesRow, standIns := [], harness := (true, "b38a7b733bb2caac6a202f071c4b422846c1d238564dfc01884633eade92f3a7"), looks := false }, kinds := [], alts := [], laidByText := true, laidKinds := [.data, .pinned], laidTests := true, laidLooks := .later }
def ModelNamesCardSaid : Prop := Claim7.holds Tryd.pinned (.plain (OpenSpec.ofChange modelNamesSpec)) modelNamesCard

/-- THE TIED CARD OF 'ambitlaw6.ModelProps'. -/
def modelPropsCard : Claim7 := { stood := { row := modelPropsRow, standIns := [], harness := (true, "b38a7b733bb2caac6a202f071c4b422846c1d238564dfc01884633eade92f3a7"), looks := false }, kinds := [], alts := [], laidByText := true, laidKinds := [.data, .pinned], laidTests := true, laidLooks := .later }
def ModelPropsCardSaid : Prop := Claim7.holds Tryd.pinned (.plain (OpenSpec.ofChange modelPropsSpec)) modelPropsCard

/-- THE TIED CARD OF 'ambitlaw6.ModelLimits'. -/
def modelLimitsCard : Claim7 := { stood := { row := modelLimitsRow, standIns := [], harness := (true, "b38a7b733bb2caac6a202f071c4b422846c1d238564dfc01884633eade92f3a7"), looks := false }, kinds := [], alts := [], laidByText := true, laidKinds := [.data, .pinned], laidTests := true, laidLooks := .later }
def ModelLimitsCardSaid : Prop := Claim7.holds Tryd.pinned (.plain (OpenSpec.ofChange modelLimitsSpec)) modelLimitsCard

/-- THE SECOND FORM's CARD OF 'ambitlaw6.ModelNames'. -/
def modelNamesUptoCard : Claim7 := { stood := { row := modelNamesUptoRow, standIns := [], harness := (true, "b38a7b733bb2caac6a202f071c4b422846c1d238564dfc01884633eade92f3a7"), looks := false }, kinds := [], alts := [], laidByText := true, laidKinds := [.data, .pinned], laidTests := true, laidLooks := .later }
def ModelNamesUptoCardSaid : Prop := Claim7.holds Tryd.pinned (.plain (OpenSpec.upto modelNamesSpec)) modelNamesUptoCard

/-- THE SECOND FORM's CARD OF 'ambitlaw6.ModelProps'. -/
def modelPropsUptoCard : Claim7 := { stood := { row := modelPropsUptoRow, standIns := [], harness := (true, "b38a7b733bb2caac6a202f071c4b422846c1d238564dfc01884633eade92f3a7"), looks := false }, kinds := [], alts := [], laidByText := true, laidKinds := [.data, .pinned], laidTests := true, laidLooks := .later }
def ModelPropsUptoCardSaid : Prop := Claim7.holds Tryd.pinned (.plain (OpenSpec.upto modelPropsSpec)) modelPropsUptoCard

/-- THE SECOND FORM's CARD OF 'ambitlaw6.ModelLimits'. -/
def modelLimitsUptoCard : Claim7 := { stood := { row := modelLimitsUptoRow, standIns := [], harness := (true, "b38a7b733bb2caac6a202f071c4b422846c1d238564dfc01884633eade92f3a7"), looks := false }, kinds := [], alts := [], laidByText := true, laidKinds := [.data, .pinned], laidTests := true, laidLooks := .later }
def ModelLimitsUptoCardSaid : Prop := Claim7.holds Tryd.pinned (.plain (OpenSpec.upto modelLimitsSpec)) modelLimitsUptoCard
end Rows
end Go.Proofs.YtkfhablonnjgeaaDoor
