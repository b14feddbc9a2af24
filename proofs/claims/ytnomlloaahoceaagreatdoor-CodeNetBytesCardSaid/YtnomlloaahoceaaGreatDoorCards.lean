/-
  DERIVED. GIVEN WITH THE SEED: THE CARDS: each row of YtnomlloaahoceaaGreatDoorRows.lean that lists a variable, with what it lists TIED to the program's text (the seventh form; the later family's looks); each row that meets fmt, with fmt's text TOLD by the authors' own Lean function (tested against real Go, not proved from fmt's source: count such statements apart). THE CARD IS WHAT COUNTS. Prove the row's statement (the work); the ties are given (YtnomlloaahoceaaGreatDoorTie.lean); close each card by the builder's one call (the guide's Derived/Test/ToyasCard.lean, 'card_holds'). Laid BY PROGRAM, IN A SANDBOX (cutbox-door.mjs). By AI agents, Wed Nov 11 2026. No macro, syntax, notation, axiom, sorry.
-/
import Derived.Test.YtnomlloaahoceaaGreatDoorRows
import GoSem.ClaimSeven
namespace Go.Proofs.YtnomlloaahoceaaGreatDoor
namespace Rows

/-- THE TIED CARD OF 'ambitlaw8.CodeNetBytes'. -/
def codeNetBytesCard : Claim7 := { stood := { row := codeNetBytesRow, standIns := [], harness := (true, "12f9b151bcfd08b3eec4eb0e77ba9e05aad8c3551ec7b4de6a175cb5faaeaad2"), looks := true }, kinds := [], alts := [], laidByText := true, laidKinds := [.data, .pinned], laidTests := true, laidLooks := .later }
def CodeNetBytesCardSaid : Prop := Claim7.holds Tryz.pinned (.plain (OpenSpec.ofChange codeNetBytesSpec)) codeNetBytesCard

/-- THE SECOND FORM's CARD OF 'ambitlaw8.CodeNetBytes'. -/
def codeNetBytesUptoCard : Claim7 := { stood := { row := codeNetBytesUptoRow, standIns := [], harness := (true, "12f9b151bcfd08b3eec4eb0e77ba9e05aad8c3551ec7b4de6a175cb5faaeaad2"), looks := true }, kinds := [], alts := [], laidByText := true, laidKinds := [.data, .pinned], laidTests := true, laidLooks := .later }
def CodeNetBytesUptoCardSaid : Prop := Claim7.holds Tryz.pinned (.plain (OpenSpec.upto codeNetBytesSpec)) codeNetBytesUptoCard
end Rows
end Go.Proofs.YtnomlloaahoceaaGreatDoor
