/-
  DERIVED. GIVEN WITH THE SEED: THE CARDS: each row of YtlnnnbbpilcgkaaDoorRRRRows.lean that lists a variable, with what it lists TIED to the program's text (the seventh form; the later family's looks); each row that meets fmt, with fmt's text TOLD by the authors' own Lean function (tested against real Go, not proved from fmt's source: count such statements apart). THE CARD IS WHAT COUNTS. Prove the row's statement (the work); the ties are given (YtlnnnbbpilcgkaaDoorRRRTie.lean); close each card by the builder's one call (the guide's Derived/Test/ToyasCard.lean, 'card_holds'). Laid BY PROGRAM, IN A SANDBOX (cutbox-door.mjs). By AI agents, Wed Nov 11 2026. No macro, syntax, notation, axiom, sorry.
-/
import Derived.Test.YtlnnnbbpilcgkaaDoorRRRRows
import GoSem.ClaimSeven
namespace Go.Proofs.YtlnnnbbpilcgkaaDoorRRR
namespace Rows

/-- THE TIED CARD OF 'tabularylaw04.CalRises'. -/
def calRisesCard : Claim7 := { stood := { row := calRisesRow, standIns := [], harness := (true, "a37e9105a9526ae9adcac852ed8739ef4aa0cceb64bdb5e9b2984f749f47acea"), looks := false }, kinds := [], alts := [], laidByText := true, laidKinds := [.data], laidTests := true, laidLooks := .later }
def CalRisesCardSaid : Prop := Claim7.holds Tryd.pinned (.plain (OpenSpec.ofChange calRisesSpec)) calRisesCard

/-- THE TIED CARD OF 'tabularylaw04.CalZones'. -/
def calZonesCard : Claim7 := { stood := { row := calZonesRow, standIns := [], harness := (true, "a37e9105a9526ae9adcac852ed8739ef4aa0cceb64bdb5e9b2984f749f47acea"), looks := false }, kinds := [], alts := [], laidByText := true, laidKinds := [.data], laidTests := true, laidLooks := .later }
def CalZonesCardSaid : Prop := Claim7.holds Tryd.pinned (.plain (OpenSpec.ofChange calZonesSpec)) calZonesCard

/-- THE TIED CARD OF 'tabularylaw04.CalMoments'. -/
def calMomentsCard : Claim7 := { stood := { row := calMomentsRow, standIns := [], harness := (true, "a37e9105a9526ae9adcac852ed8739ef4aa0cceb64bdb5e9b2984f749f47acea"), looks := false }, kinds := [], alts := [], laidByText := true, laidKinds := [.data], laidTests := true, laidLooks := .later }
def CalMomentsCardSaid : Prop := Claim7.holds Tryd.pinned (.plain (OpenSpec.ofChange calMomentsSpec)) calMomentsCard

/-- THE SECOND FORM's CARD OF 'tabularylaw04.CalRises'. -/
def calRisesUptoCard : Claim7 := { stood := { row := calRisesUptoRow, standIns := [], harness := (true, "a37e9105a9526ae9adcac852ed8739ef4aa0cceb64bdb5e9b2984f749f47acea"), looks := false }, kinds := [], alts := [], laidByText := true, laidKinds := [.data], laidTests := true, laidLooks := .later }
def CalRisesUptoCardSaid : Prop := Claim7.holds Tryd.pinned (.plain (OpenSpec.upto calRisesSpec)) calRisesUptoCard

/-- THE SECOND FORM's CARD OF 'tabularylaw04.CalZones'. -/
def calZonesUptoCard : Claim7 := { stood := { row := calZonesUptoRow, standIns := [], harness := (true, "a37e9105a9526ae9adcac852ed8739ef4aa0cceb64bdb5e9b2984f749f47acea"), looks := false }, kinds := [], alts := [], laidByText := true, laidKinds := [.data], laidTests := true, laidLooks := .later }
def CalZonesUptoCardSaid : Prop := Claim7.holds Tryd.pinned (.plain (OpenSpec.upto calZonesSpec)) calZonesUptoCard

/-- THE SECOND FORM's CARD OF 'tabularylaw04.CalMoments'. -/
def calMomentsUptoCard : Claim7 := { stood := { row := calMomentsUptoRow, standIns := [], harness := (true, "a37e9105a9526ae9adcac852ed8739ef4aa0cceb64bdb5e9b2984f749f47acea"), looks := false }, kinds := [], alts := [], laidByText := true, laidKinds := [.data], laidTests := true, laidLooks := .later }
def CalMomentsUptoCardSaid : Prop := Claim7.holds Tryd.pinned (.plain (OpenSpec.upto calMomentsSpec)) calMomentsUptoCard
end Rows
end Go.Proofs.YtlnnnbbpilcgkaaDoorRRR
