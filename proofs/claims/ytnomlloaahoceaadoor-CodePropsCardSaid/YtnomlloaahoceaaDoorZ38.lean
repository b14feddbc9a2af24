/- Contracts of functions that CodeProps reaches, and words to say them. No condition. -/
import Derived.Test.YtnomlloaahoceaaDoorZ06
import Derived.Test.YtnomlloaahoceaaDoorZ35
import Derived.Test.YtnomlloaahoceaaDoorTie
import Derived.Test.YtnomlloaahoceaaDoorCards
import Derived.Handed
import Derived.LaidLaws
import Derived.Lay
import Derived.MakeChecks
import Derived.Lib.LaidU8
import Derived.SevenTiedAt
import Derived.JoinedOf
/- What the rows' listed tables read as. No condition. -/
namespace Go.Proofs.YtnomlloaahoceaaDoor
open Go.ChangeShapes Go.WideShapes Go.ChangeAt Go.RowKit
open Go.ChangeMaps (open_string shut_string)
set_option linter.unusedVariables false
def laid : List (String × DataW Unit) := [("unicode/utf8.acceptRanges", Rows.laid_unicode_utf8_acceptRanges), ("unicode/utf8.first", Rows.laid_unicode_utf8_first)]
theorem tabs_of_laid {W : World} (hL : laidMetH Tryd.prog laid W) : Tabs W := by
  rw [MakeChecks.laidMetH_plain _ _ _ (by kernel_rfl)] at hL
  have e1 : Rows.laid_unicode_utf8_first = Go.Lib.firstData := by kernel_rfl
  have e2 : (Rows.laid_unicode_utf8_acceptRanges : DataW Unit) = Go.Lib.acceptData := by kernel_rfl
  exact utf8Tabs_of_reads (ρ := decRen) { decLays with } ⟨by kernel_rfl, by kernel_rfl, by kernel_rfl, by kernel_rfl, by kernel_rfl, by kernel_rfl, by kernel_rfl⟩ (e1 ▸ Lib.laidMet.reads hL (.tail _ (.head _))) (e2 ▸ Lib.laidMet.reads hL (.head _))
end Go.Proofs.YtnomlloaahoceaaDoor

