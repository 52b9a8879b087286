/-
  DERIVED. GIVEN WITH THE SEED: THE CARDS: each row of YtdkfgobbpadmgaaDoorRows.lean that lists a variable, with what it lists TIED to the program's text (the seventh form; the later family's looks); each row that meets fmt, with fmt's text TOLD by the authors' own Lean function (tested against real Go, not proved from fmt's source: count such statements apart). THE CARD IS WHAT COUNTS. Prove the row's statement (the work); the ties are given (YtdkfgobbpadmgaaDoorTie.lean); close each card by the builder's one call (the guide's Derived/Test/ToyasCard.lean, 'card_holds'). Laid BY PROGRAM, IN A SANDBOX (cutbox-door.mjs). By AI agents, Wed Nov 11 2026. No macro, syntax, notation, axiom, sorry.
-/
import Derived.Test.YtdkfgobbpadmgaaDoorRows
import GoSem.ClaimSeven
namespace Go.Proofs.YtdkfgobbpadmgaaDoor
namespace Rows

/-- THE TIED CARD OF 'tabularylaw05.SyslRight'. -/
def syslRightCard : Claim7 := { stood := { row := syslRightRow, standIns := [], harness := (true, "ed12c0dcb885beddbab03c318bf61b60dabbc594303b91e6f8a07dece9007c7c"), looks := true }, kinds := [], alts := [], laidByText := true, laidKinds := [.data, .data, .data, .data, .sentinel, .sentinel, .data, .pinned], laidTests := true, laidLooks := .later }
def SyslRightCardSaid : Prop := Claim7.holds Tryd.pinned (.plain (OpenSpec.ofChange syslRightSpec)) syslRightCard

/-- THE TIED CARD OF 'tabularylaw05.SyslGets'. -/
def syslGetsCard : Claim7 := { stood := { row := syslGetsRow, standIns := [], harness := (true, "ed12c0dcb885beddbab03c318bf61b60dabbc594303b91e6f8a07dece9007c7c"), looks := true }, kinds := [], alts := [], laidByText := true, laidKinds := [.data, .data, .data, .data, .sentinel, .sentinel, .data, .pinned], laidTests := true, laidLooks := .later }
def SyslGetsCardSaid : Prop := Claim7.holds Tryd.pinned (.plain (OpenSpec.ofChange syslGetsSpec)) syslGetsCard

/-- THE TIED CARD OF 'tabularylaw05.SyslValues'. -/
def syslValuesCard : Claim7 := { stood := { row := syslValuesRow, standIns := [], harness := (true, "ed12c0dcb885beddbab03c318bf61b60dabbc594303b91e6f8a07dece9007c7c"), looks := true }, kinds := [], alts := [], laidByText := true, laidKinds := [.data, .data, .data, .data, .sentinel, .sentinel, .data, .pinned], laidTests := true, laidLooks := .later }
def SyslValuesCardSaid : Prop := Claim7.holds Tryd.pinned (.plain (OpenSpec.ofChange syslValuesSpec)) syslValuesCard

/-- THE SECOND FORM's CARD OF 'tabularylaw05.SyslRight'. -/
def syslRightUptoCard : Claim7 := { stood := { row := syslRightUptoRow, standIns := [], harness := (true, "ed12c0dcb885beddbab03c318bf61b60dabbc594303b91e6f8a07dece9007c7c"), looks := true }, kinds := [], alts := [], laidByText := true, laidKinds := [.data, .data, .data, .data, .sentinel, .sentinel, .data, .pinned], laidTests := true, laidLooks := .later }
def SyslRightUptoCardSaid : Prop := Claim7.holds Tryd.pinned (.plain (OpenSpec.upto syslRightSpec)) syslRightUptoCard

/-- THE SECOND FORM's CARD OF 'tabularylaw05.SyslGets'. -/
def syslGetsUptoCard : Claim7 := { stood := { row := syslGetsUptoRow, standIns := [], harness := (true, "ed12c0dcb885beddbab03c318bf61b60dabbc594303b91e6f8a07dece9007c7c"), looks := true }, kinds := [], alts := [], laidByText := true, laidKinds := [.data, .data, .data, .data, .sentinel, .sentinel, .data, .pinned], laidTests := true, laidLooks := .later }
def SyslGetsUptoCardSaid : Prop := Claim7.holds Tryd.pinned (.plain (OpenSpec.upto syslGetsSpec)) syslGetsUptoCard

/-- THE SECOND FORM's CARD OF 'tabularylaw05.SyslValues'. -/
def syslValuesUptoCard : Claim7 := { stood := { row := syslValuesUptoRow, standIns := [], harness := (true, "ed12c0dcb885beddbab03c318bf61b60dabbc594303b91e6f8a07dece9007c7c"), looks := true }, kinds := [], alts := [], laidByText := true, laidKinds := [.data, .data, .data, .data, .sentinel, .sentinel, .data, .pinned], laidTests := true, laidLooks := .later }
def SyslValuesUptoCardSaid : Prop := Claim7.holds Tryd.pinned (.plain (OpenSpec.upto syslValuesSpec)) syslValuesUptoCard
end Rows
end Go.Proofs.YtdkfgobbpadmgaaDoor
