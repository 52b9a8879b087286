/-
  DERIVED. GIVEN WITH THE SEED: THE CARDS: each row of YtdkfgobbpadmgaaGreatDoorRows.lean that lists a variable, with what it lists TIED to the program's text (the seventh form; the later family's looks); each row that meets fmt, with fmt's text TOLD by the authors' own Lean function (tested against real Go, not proved from fmt's source: count such statements apart). THE CARD IS WHAT COUNTS. Prove the row's statement (the work); the ties are given (YtdkfgobbpadmgaaGreatDoorTie.lean); close each card by the builder's one call (the guide's Derived/Test/ToyasCard.lean, 'card_holds'). Laid BY PROGRAM, IN A SANDBOX (cutbox-door.mjs). By AI agents, Wed Nov 11 2026. No macro, syntax, notation, axiom, sorry.
-/
import Derived.Test.YtdkfgobbpadmgaaGreatDoorRows
import GoSem.ClaimSeven
namespace Go.Proofs.YtdkfgobbpadmgaaGreatDoor
namespace Rows

/-- THE TIED CARD OF 'tabularylaw05.SyslParses'. -/
def syslParsesCard : Claim7 := { stood := { row := syslParsesRow, standIns := [], harness := (true, "613de1821ec3a8b5ba0c2653e4d2136cb6797c1347794661c683197912a939c4"), looks := true }, kinds := [], alts := [], laidByText := true, laidKinds := [.data, .data, .data, .data, .sentinel, .sentinel, .data, .pinned], laidTests := true, laidLooks := .later }
def SyslParsesCardSaid : Prop := Claim7.holds Tryz.pinned (.plain (OpenSpec.ofChange syslParsesSpec)) syslParsesCard

/-- THE TIED CARD OF 'tabularylaw19.AuditFits'. -/
def auditFitsCard : Claim7 := { stood := { row := auditFitsRow, standIns := [], harness := (true, "613de1821ec3a8b5ba0c2653e4d2136cb6797c1347794661c683197912a939c4"), looks := true }, kinds := [], alts := [], laidByText := true, laidKinds := [.data, .data, .data, .data, .sentinel, .sentinel, .data, .pinned], laidTests := true, laidLooks := .later }
def AuditFitsCardSaid : Prop := Claim7.holds Tryz.pinned (.plain (OpenSpec.ofChange auditFitsSpec)) auditFitsCard

/-- THE SECOND FORM's CARD OF 'tabularylaw05.SyslParses'. -/
def syslParsesUptoCard : Claim7 := { stood := { row := syslParsesUptoRow, standIns := [], harness := (true, "613de1821ec3a8b5ba0c2653e4d2136cb6797c1347794661c683197912a939c4"), looks := true }, kinds := [], alts := [], laidByText := true, laidKinds := [.data, .data, .data, .data, .sentinel, .sentinel, .data, .pinned], laidTests := true, laidLooks := .later }
def SyslParsesUptoCardSaid : Prop := Claim7.holds Tryz.pinned (.plain (OpenSpec.upto syslParsesSpec)) syslParsesUptoCard

/-- THE SECOND FORM's CARD OF 'tabularylaw19.AuditFits'. -/
def auditFitsUptoCard : Claim7 := { stood := { row := auditFitsUptoRow, standIns := [], harness := (true, "613de1821ec3a8b5ba0c2653e4d2136cb6797c1347794661c683197912a939c4"), looks := true }, kinds := [], alts := [], laidByText := true, laidKinds := [.data, .data, .data, .data, .sentinel, .sentinel, .data, .pinned], laidTests := true, laidLooks := .later }
def AuditFitsUptoCardSaid : Prop := Claim7.holds Tryz.pinned (.plain (OpenSpec.upto auditFitsSpec)) auditFitsUptoCard
end Rows
end Go.Proofs.YtdkfgobbpadmgaaGreatDoor
