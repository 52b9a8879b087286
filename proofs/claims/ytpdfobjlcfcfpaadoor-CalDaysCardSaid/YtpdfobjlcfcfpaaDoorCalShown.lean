/- The document's examples of chapter 4, that each law of it calls first: true. -/
import Derived.Test.YtpdfobjlcfcfpaaDoorCal
set_option linter.unusedVariables false
set_option linter.unusedSimpArgs false
namespace Go.Proofs.YtpdfobjlcfcfpaaDoor
open Go.RowKit
set_option maxHeartbeats 400000 in
theorem shown_true (w : World) (ht : Tab w) : Calls Tryd.prog 4 #[] w fun e w' => e = .returned (.bool true) ∧ w = w' := by
  have HT := Lib.hid ht; clear ht
  have h1 := Lib.hid (show daysI 1970 1 2 = 1 by decide)
  have h2 := Lib.hid (show daysI 2000 3 1 = 11017 by decide)
  go_enter Tryd.func4, Tryd.ntmps4
  go_wp2_with (go_at_call 5; refine (days_yes _ _ _ _ HT.out (by decide)).mono ?_; rintro e w' ⟨rfl, rfl⟩; first | rw [h1.out] | rw [h2.out])
  go_ret
  exact ⟨rfl, rfl⟩
end Go.Proofs.YtpdfobjlcfcfpaaDoor
