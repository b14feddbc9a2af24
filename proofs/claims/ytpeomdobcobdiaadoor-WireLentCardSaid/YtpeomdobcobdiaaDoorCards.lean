/-
  DERIVED. GIVEN WITH THE SEED: THE CARDS: each row of YtpeomdobcobdiaaDoorRows.lean that lists a variable, with what it lists TIED to the program's text (the seventh form; the later family's looks); each row that meets fmt, with fmt's text TOLD by the authors' own Lean function (tested against real Go, not proved from fmt's source: count such statements apart). THE CARD IS WHAT COUNTS. Prove the row's statement (the work); the ties are given (YtpeomdobcobdiaaDoorTie.lean); close each card by the builder's one call (the guide's Derived/Test/ToyasCard.lean, 'card_holds'). Laid BY PROGRAM, IN A SANDBOX (cutbox-door.mjs). By AI agents, Wed Nov 11 2026. No macro, syntax, notation, axiom, sorry.
-/
import Derived.Test.YtpeomdobcobdiaaDoorRows
import GoSem.ClaimSeven
namespace Go.Proofs.YtpeomdobcobdiaaDoor
namespace Rows

/-- THE TIED CARD OF 'ambitlaw1.WireNumbers'. -/
def wireNumbersCard : Claim7 := { stood := { row := wireNumbersRow, standIns := [], harness := (true, "b39d8845e818edf87ae85891ff4defe9461ab3ee6fb0e654fcce38d20382c847"), looks := false }, kinds := [], alts := [], laidByText := true, laidKinds := [.data, .pinned], laidTests := true, laidLooks := .later }
def WireNumbersCardSaid : Prop := Claim7.holds Tryd.pinned (.plain (OpenSpec.ofChange wireNumbersSpec)) wireNumbersCard

/-- THE TIED CARD OF 'ambitlaw1.WireJoined'. -/
def wireJoinedCard : Claim7 := { stood := { row := wireJoinedRow, standIns := [], harness := (true, "b39d8845e818edf87ae85891ff4defe9461ab3ee6fb0e654fcce38d20382c847"), looks := false }, kinds := [], alts := [], laidByText := true, laidKinds := [.data, .pinned], laidTests := true, laidLooks := .later }
def WireJoinedCardSaid : Prop := Claim7.holds Tryd.pinned (.plain (OpenSpec.ofChange wireJoinedSpec)) wireJoinedCard

/-- THE TIED CARD OF 'ambitlaw1.WirePoints'. -/
def wirePointsCard : Claim7 := { stood := { row := wirePointsRow, standIns := [], harness := (true, "b39d8845e818edf87ae85891ff4defe9461ab3ee6fb0e654fcce38d20382c847"), looks := false }, kinds := [], alts := [], laidByText := true, laidKinds := [.data, .pinned], laidTests := true, laidLooks := .later }
def WirePointsCardSaid : Prop := Claim7.holds Tryd.pinned (.plain (OpenSpec.ofChange wirePointsSpec)) wirePointsCard

/-- THE TIED CARD OF 'ambitlaw1.WireTexts'. -/
def wireTextsCard : Claim7 := { stood := { row := wireTextsRow, standIns := [], harness := (true, "b39d8845e818edf87ae85891ff4defe9461ab3ee6fb0e654fcce38d20382c847"), looks := false }, kinds := [], alts := [], laidByText := true, laidKinds := [.data, .pinned], laidTests := true, laidLooks := .later }
def WireTextsCardSaid : Prop := Claim7.holds Tryd.pinned (.plain (OpenSpec.ofChange wireTextsSpec)) wireTextsCard

/-- THE TIED CARD OF 'ambitlaw1.WireFloats'. -/
def wireFloatsCard : Claim7 := { stood := { row := wireFloatsRow, standIns := [], harness := (true, "b39d8845e818edf87ae85891ff4defe9461ab3ee6fb0e654fcce38d20382c847"), looks := false }, kinds := [], alts := [], laidByText := true, laidKinds := [.data, .pinned], laidTests := true, laidLooks := .later }
def WireFloatsCardSaid : Prop := Claim7.holds Tryd.pinned (.plain (OpenSpec.ofChange wireFloatsSpec)) wireFloatsCard

/-- THE TIED CARD OF 'ambitlaw1.WireFrames'. -/
def wireFramesCard : Claim7 := { stood := { row := wireFramesRow, standIns := [], harness := (true, "b39d8845e818edf87ae85891ff4defe9461ab3ee6fb0e654fcce38d20382c847"), looks := false }, kinds := [], alts := [], laidByText := true, laidKinds := [.data, .pinned], laidTests := true, laidLooks := .later }
def WireFramesCardSaid : Prop := Claim7.holds Tryd.pinned (.plain (OpenSpec.ofChange wireFramesSpec)) wireFramesCard

/-- THE TIED CARD OF 'ambitlaw1.WireLong'. -/
def wireLongCard : Claim7 := { stood := { row := wireLongRow, standIns := [], harness := (true, "b39d8845e818edf87ae85891ff4defe9461ab3ee6fb0e654fcce38d20382c847"), looks := false }, kinds := [], alts := [], laidByText := true, laidKinds := [.data, .pinned], laidTests := true, laidLooks := .later }
def WireLongCardSaid : Prop := Claim7.holds Tryd.pinned (.plain (OpenSpec.ofChange wireLongSpec)) wireLongCard

/-- THE TIED CARD OF 'ambitlaw1.WireTurned'. -/
def wireTurnedCard : Claim7 := { stood := { row := wireTurnedRow, standIns := [], harness := (true, "b39d8845e818edf87ae85891ff4defe9461ab3ee6fb0e654fcce38d20382c847"), looks := false }, kinds := [], alts := [], laidByText := true, laidKinds := [.data, .pinned], laidTests := true, laidLooks := .later }
def WireTurnedCardSaid : Prop := Claim7.holds Tryd.pinned (.plain (OpenSpec.ofChange wireTurnedSpec)) wireTurnedCard

/-- THE TIED CARD OF 'ambitlaw1.WireAgain'. -/
def wireAgainCard : Claim7 := { stood := { row := wireAgainRow, standIns := [], harness := (true, "b39d8845e818edf87ae85891ff4defe9461ab3ee6fb0e654fcce38d20382c847"), looks := false }, kinds := [], alts := [], laidByText := true, laidKinds := [.data, .pinned], laidTests := true, laidLooks := .later }
def WireAgainCardSaid : Prop := Claim7.holds Tryd.pinned (.plain (OpenSpec.ofChange wireAgainSpec)) wireAgainCard

/-- THE TIED CARD OF 'ambitlaw1.WireLent'. -/
def wireLentCard : Claim7 := { stood := { row := wireLentRow, standIns := [], harness := (true, "b39d8845e818edf87ae85891ff4defe9461ab3ee6fb0e654fcce38d20382c847"), looks := false }, kinds := [], alts := [], laidByText := true, laidKinds := [.data, .pinned], laidTests := true, laidLooks := .later }
def WireLentCardSaid : Prop := Claim7.holds Tryd.pinned (.plain (OpenSpec.ofChange wireLentSpec)) wireLentCard

/-- THE TIED CARD OF 'ambitlaw1.WireBack'. -/
def wireBackCard : Claim7 := { stood := { row := wireBackRow, standIns := [], harness := (true, "b39d8845e818edf87ae85891ff4defe9461ab3ee6fb0e654fcce38d20382c847"), looks := false }, kinds := [], alts := [], laidByText := true, laidKinds := [.data, .pinned], laidTests := true, laidLooks := .later }
def WireBackCardSaid : Prop := Claim7.holds Tryd.pinned (.plain (OpenSpec.ofChange wireBackSpec)) wireBackCard

/-- THE TIED CARD OF 'ambitlaw1.WireUnlike'. -/
def wireUnlikeCard : Claim7 := { stood := { row := wireUnlikeRow, standIns := [], harness := (true, "b39d8845e818edf87ae85891ff4defe9461ab3ee6fb0e654fcce38d20382c847"), looks := false }, kinds := [], alts := [], laidByText := true, laidKinds := [.data, .pinned], laidTests := true, laidLooks := .later }
def WireUnlikeCardSaid : Prop := Claim7.holds Tryd.pinned (.plain (OpenSpec.ofChange wireUnlikeSpec)) wireUnlikeCard

/-- THE SECOND FORM's CARD OF 'ambitlaw1.WireNumbers'. -/
def wireNumbersUptoCard : Claim7 := { stood := { row := wireNumbersUptoRow, standIns := [], harness := (true, "b39d8845e818edf87ae85891ff4defe9461ab3ee6fb0e654fcce38d20382c847"), looks := false }, kinds := [], alts := [], laidByText := true, laidKinds := [.data, .pinned], laidTests := true, laidLooks := .later }
def WireNumbersUptoCardSaid : Prop := Claim7.holds Tryd.pinned (.plain (OpenSpec.upto wireNumbersSpec)) wireNumbersUptoCard

/-- THE SECOND FORM's CARD OF 'ambitlaw1.WireJoined'. -/
def wireJoinedUptoCard : Claim7 := { stood := { row := wireJoinedUptoRow, standIns := [], harness := (true, "b39d8845e818edf87ae85891ff4defe9461ab3ee6fb0e654fcce38d20382c847"), looks := false }, kinds := [], alts := [], laidByText := true, laidKinds := [.data, .pinned], laidTests := true, laidLooks := .later }
def WireJoinedUptoCardSaid : Prop := Claim7.holds Tryd.pinned (.plain (OpenSpec.upto wireJoinedSpec)) wireJoinedUptoCard

/-- THE SECOND FORM's CARD OF 'ambitlaw1.WirePoints'. -/
def wirePointsUptoCard : Claim7 := { stood := { row := wirePointsUptoRow, standIns := [], harness := (true, "b39d8845e818edf87ae85891ff4defe9461ab3ee6fb0e654fcce38d20382c847"), looks := false }, kinds := [], alts := [], laidByText := true, laidKinds := [.data, .pinned], laidTests := true, laidLooks := .later }
def WirePointsUptoCardSaid : Prop := Claim7.holds Tryd.pinned (.plain (OpenSpec.upto wirePointsSpec)) wirePointsUptoCard

/-- THE SECOND FORM's CARD OF 'ambitlaw1.WireTexts'. -/
def wireTextsUptoCard : Claim7 := { stood := { row := wireTextsUptoRow, standIns := [], harness := (true, "b39d8845e818edf87ae85891ff4defe9461ab3ee6fb0e654fcce38d20382c847"), looks := false }, kinds := [], alts := [], laidByText := true, laidKinds := [.data, .pinned], laidTests := true, laidLooks := .later }
def WireTextsUptoCardSaid : Prop := Claim7.holds Tryd.pinned (.plain (OpenSpec.upto wireTextsSpec)) wireTextsUptoCard

/-- THE SECOND FORM's CARD OF 'ambitlaw1.WireFloats'. -/
def wireFloatsUptoCard : Claim7 := { stood := { row := wireFloatsUptoRow, standIns := [], harness := (true, "b39d8845e818edf87ae85891ff4defe9461ab3ee6fb0e654fcce38d20382c847"), looks := false }, kinds := [], alts := [], laidByText := true, laidKinds := [.data, .pinned], laidTests := true, laidLooks := .later }
def WireFloatsUptoCardSaid : Prop := Claim7.holds Tryd.pinned (.plain (OpenSpec.upto wireFloatsSpec)) wireFloatsUptoCard

/-- THE SECOND FORM's CARD OF 'ambitlaw1.WireFrames'. -/
def wireFramesUptoCard : Claim7 := { stood := { row := wireFramesUptoRow, standIns := [], harness := (true, "b39d8845e818edf87ae85891ff4defe9461ab3ee6fb0e654fcce38d20382c847"), looks := false }, kinds := [], alts := [], laidByText := true, laidKinds := [.data, .pinned], laidTests := true, laidLooks := .later }
def WireFramesUptoCardSaid : Prop := Claim7.holds Tryd.pinned (.plain (OpenSpec.upto wireFramesSpec)) wireFramesUptoCard

/-- THE SECOND FORM's CARD OF 'ambitlaw1.WireLong'. -/
def wireLongUptoCard : Claim7 := { stood := { row := wireLongUptoRow, standIns := [], harness := (true, "b39d8845e818edf87ae85891ff4defe9461ab3ee6fb0e654fcce38d20382c847"), looks := false }, kinds := [], alts := [], laidByText := true, laidKinds := [.data, .pinned], laidTests := true, laidLooks := .later }
def WireLongUptoCardSaid : Prop := Claim7.holds Tryd.pinned (.plain (OpenSpec.upto wireLongSpec)) wireLongUptoCard

/-- THE SECOND FORM's CARD OF 'ambitlaw1.WireTurned'. -/
def wireTurnedUptoCard : Claim7 := { stood := { row := wireTurnedUptoRow, standIns := [], harness := (true, "b39d8845e818edf87ae85891ff4defe9461ab3ee6fb0e654fcce38d20382c847"), looks := false }, kinds := [], alts := [], laidByText := true, laidKinds := [.data, .pinned], laidTests := true, laidLooks := .later }
def WireTurnedUptoCardSaid : Prop := Claim7.holds Tryd.pinned (.plain (OpenSpec.upto wireTurnedSpec)) wireTurnedUptoCard

/-- THE SECOND FORM's CARD OF 'ambitlaw1.WireAgain'. -/
def wireAgainUptoCard : Claim7 := { stood := { row := wireAgainUptoRow, standIns := [], harness := (true, "b39d8845e818edf87ae85891ff4defe9461ab3ee6fb0e654fcce38d20382c847"), looks := false }, kinds := [], alts := [], laidByText := true, laidKinds := [.data, .pinned], laidTests := true, laidLooks := .later }
def WireAgainUptoCardSaid : Prop := Claim7.holds Tryd.pinned (.plain (OpenSpec.upto wireAgainSpec)) wireAgainUptoCard

/-- THE SECOND FORM's CARD OF 'ambitlaw1.WireLent'. -/
def wireLentUptoCard : Claim7 := { stood := { row := wireLentUptoRow, standIns := [], harness := (true, "b39d8845e818edf87ae85891ff4defe9461ab3ee6fb0e654fcce38d20382c847"), looks := false }, kinds := [], alts := [], laidByText := true, laidKinds := [.data, .pinned], laidTests := true, laidLooks := .later }
def WireLentUptoCardSaid : Prop := Claim7.holds Tryd.pinned (.plain (OpenSpec.upto wireLentSpec)) wireLentUptoCard

/-- THE SECOND FORM's CARD OF 'ambitlaw1.WireBack'. -/
def wireBackUptoCard : Claim7 := { stood := { row := wireBackUptoRow, standIns := [], harness := (true, "b39d8845e818edf87ae85891ff4defe9461ab3ee6fb0e654fcce38d20382c847"), looks := false }, kinds := [], alts := [], laidByText := true, laidKinds := [.data, .pinned], laidTests := true, laidLooks := .later }
def WireBackUptoCardSaid : Prop := Claim7.holds Tryd.pinned (.plain (OpenSpec.upto wireBackSpec)) wireBackUptoCard

/-- THE SECOND FORM's CARD OF 'ambitlaw1.WireUnlike'. -/
def wireUnlikeUptoCard : Claim7 := { stood := { row := wireUnlikeUptoRow, standIns := [], harness := (true, "b39d8845e818edf87ae85891ff4defe9461ab3ee6fb0e654fcce38d20382c847"), looks := false }, kinds := [], alts := [], laidByText := true, laidKinds := [.data, .pinned], laidTests := true, laidLooks := .later }
def WireUnlikeUptoCardSaid : Prop := Claim7.holds Tryd.pinned (.plain (OpenSpec.upto wireUnlikeSpec)) wireUnlikeUptoCard
end Rows
end Go.Proofs.YtpeomdobcobdiaaDoor
