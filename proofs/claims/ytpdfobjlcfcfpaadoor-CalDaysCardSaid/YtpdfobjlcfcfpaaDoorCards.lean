/-
  DERIVED. GIVEN WITH THE SEED: THE CARDS: each row of YtpdfobjlcfcfpaaDoorRows.lean that lists a variable, with what it lists TIED to the program's text (the seventh form; the later family's looks); each row that meets fmt, with fmt's text TOLD by the authors' own Lean function (tested against real Go, not proved from fmt's source: count such statements apart). THE CARD IS WHAT COUNTS. Prove the row's statement (the work); the ties are given (YtpdfobjlcfcfpaaDoorTie.lean); close each card by the builder's one call (the guide's Derived/Test/ToyasCard.lean, 'card_holds'). Laid BY PROGRAM, IN A SANDBOX (cutbox-door.mjs). By AI agents, Wed Nov 11 2026. No macro, syntax, notation, axiom, sorry.
-/
import Derived.Test.YtpdfobjlcfcfpaaDoorRows
import GoSem.ClaimSeven
namespace Go.Proofs.YtpdfobjlcfcfpaaDoor
namespace Rows

/-- THE TIED CARD OF 'tabularylaw04.CalDays'. -/
def calDaysCard : Claim7 := { stood := { row := calDaysRow, standIns := [], harness := (true, "98bf49e0dfeb698d628607c15b497d27b59e95ec8dac9786ea22e343f990d271"), looks := false }, kinds := [], alts := [], laidByText := true, laidKinds := [.data], laidTests := true, laidLooks := .later }
def CalDaysCardSaid : Prop := Claim7.holds Tryd.pinned (.plain (OpenSpec.ofChange calDaysSpec)) calDaysCard

/-- THE SECOND FORM's CARD OF 'tabularylaw04.CalDays'. -/
def calDaysUptoCard : Claim7 := { stood := { row := calDaysUptoRow, standIns := [], harness := (true, "98bf49e0dfeb698d628607c15b497d27b59e95ec8dac9786ea22e343f990d271"), looks := false }, kinds := [], alts := [], laidByText := true, laidKinds := [.data], laidTests := true, laidLooks := .later }
def CalDaysUptoCardSaid : Prop := Claim7.holds Tryd.pinned (.plain (OpenSpec.upto calDaysSpec)) calDaysUptoCard
end Rows
end Go.Proofs.YtpdfobjlcfcfpaaDoor
