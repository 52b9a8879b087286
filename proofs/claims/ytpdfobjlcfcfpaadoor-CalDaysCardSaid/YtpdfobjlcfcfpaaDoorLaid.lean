/- What a row's list of package cal's table gives the walks, and a world for the witness that holds the table. -/
import Derived.Test.YtpdfobjlcfcfpaaDoorCards
import Derived.Test.YtpdfobjlcfcfpaaDoorTie
import Derived.Test.YtpdfobjlcfcfpaaDoorLawKit
import Derived.Test.YtpdfobjlcfcfpaaDoorCal
set_option linter.unusedVariables false
set_option linter.unusedSimpArgs false
namespace Go.Proofs.YtpdfobjlcfcfpaaDoor
open Go.ChangeShapes Go.WideShapes Go.ChangeAt Go.RowKit
theorem own : ownKnob Tryd.prog.godebug = none := by kernel_rfl
theorem laidOut : laidOutB Tryd.prog = true := by kernel_rfl
theorem gTab : Tryd.prog.globalNamed "tabulary/cal.lengths" = some 0 := by kernel_rfl
theorem gTabType : (Tryd.prog.globals[0]?).map (·.type) = some 43 := by kernel_rfl
theorem cellsTab : Tryd.prog.cellsOf 43 = 13 := by kernel_rfl
theorem cellsInt : Tryd.prog.cellsOf 3 = 1 := by kernel_rfl
theorem tabIs {W : World} (h : laidMetH Tryd.prog [("tabulary/cal.lengths", Rows.laid_tabulary_cal_lengths)] W) : Tab W := by
  have ht : Lib.TabIs Tryd.prog W "tabulary/cal.lengths" .i64 tab := Lib.tabIs_of_head (rest := []) gTab gTabType Tryd.underlying43 Tryd.underlying3 cellsInt cellsTab h
  intro i hi
  exact ht.cell gTab i (by simpa [tab] using hi)
/-- the settled world, the table holding what its initialiser lays -/
noncomputable def laidWorld (os : Os) : World :=
  { World.holding Tryd.prog os ⟨#[], #[], []⟩ with heap := (World.holding Tryd.prog os ⟨#[], #[], []⟩).heap.modify 0 fun
      | .cells _ t frozen => .cells #[.int .i64 0, .int .i64 31, .int .i64 28, .int .i64 31, .int .i64 30, .int .i64 31, .int .i64 30, .int .i64 31, .int .i64 31, .int .i64 30, .int .i64 31, .int .i64 30, .int .i64 31] t frozen
      | o => o }
end Go.Proofs.YtpdfobjlcfcfpaaDoor
