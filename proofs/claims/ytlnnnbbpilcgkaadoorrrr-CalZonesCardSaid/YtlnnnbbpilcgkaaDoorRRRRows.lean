/-
  NARROWER THAN 'FOR EVERY INPUT', by the rows' own cells (each row's printed sentence says how): CalRises: laid · CalZones: laid · CalMoments: laid.
  DERIVED. THE GIVEN ROWS OF THIS SEAT. 3 by the template 'for every input the law returns true; each argument reads behind the call as it read before'; 0 by the template 'total and deterministic' (their statements: YtlnnnbbpilcgkaaDoorRRRTotals.lean).
  GIVEN WITH THE SEED: the statements are not yours to turn. If you find one false, say at which input.
  Laid BY PROGRAM, IN A SANDBOX (cutbox-rows.mjs): the forced cells as the released guide's own fill.sh prints them over the translation 44f98aa62692676a… (all of the seat's roots in one cut). By AI agents, Wed Nov 11 2026. No macro, syntax, notation, axiom, sorry.
-/
import Derived.Test.YtlnnnbbpilcgkaaDoorRRRChecked
import GoSem.Claim
import GoSem.ClaimJoined
import GoSem.ClaimMapViews
import Derived.JoinedTies
import Derived.KernelRfl
namespace Go.Proofs.YtlnnnbbpilcgkaaDoorRRR
/- THE CELL 'sum', in the pinned program and in every row, IS THE sha256 OF THE DUMP (.gsa) THAT YtlnnnbbpilcgkaaDoorRRRProg.lean LOADS. Nothing in Lean hashes anything: it is a label: what it is worth is what the hold of that sum in a sandbox is worth. -/
noncomputable def Tryd.pinned : Pinned := { name := "ytlnnnbbpilcgkaadoorrrr", sum := "44f98aa62692676a982f192f92dc2e2bc7f452f600c7e8ae2ea187a117b26294", checked := Tryd.checked }
namespace Rows
def none {H : Type} : Left H := { results := [], args := [] }

/- WHAT THE LISTED PACKAGE-LEVEL VARIABLES READ AS WHEN THE CALL BEGINS. Each datum BY PROGRAM (the guide's laid-datum.mjs) off the statement by which the dump's own 'gosem.cut.vars' lays the variable. In a bare row this is a premise. The card (YtlnnnbbpilcgkaaDoorRRRCards.lean) ties it to the program's text. -/
def laid_tabulary_cal_lengths {H : Type} : DataW H := .agg [.lit (.int .i64 0), .lit (.int .i64 31), .lit (.int .i64 28), .lit (.int .i64 31), .lit (.int .i64 30), .lit (.int .i64 31), .lit (.int .i64 30), .lit (.int .i64 31), .lit (.int .i64 31), .lit (.int .i64 30), .lit (.int .i64 31), .lit (.int .i64 30), .lit (.int .i64 31)]

/-- 'tabularylaw04.CalRises': WHATEVER THE INPUT: true; the input reads as it did. -/
def calRisesSpec : ChangeSpec := { name := "calRises", fn := fun _ => fun
  | [d1, d2, d3] => { results := [.lit (.bool true)], args := [d1, d2, d3] }
  | _ => none }
def calRisesRow : OpenClaim := { program := "ytlnnnbbpilcgkaadoorrrr", sum := "44f98aa62692676a982f192f92dc2e2bc7f452f600c7e8ae2ea187a117b26294", func := "tabulary/tabularylaw04.CalRises", spec := "calRises", named := ["tabulary/cal.lengths"], apart := false, laid := [("tabulary/cal.lengths", laid_tabulary_cal_lengths)] }
def CalRisesSaid : Prop := calRisesRow.holds Tryd.pinned (OpenSpec.ofChange calRisesSpec)

/-- ITS FALSE NEIGHBOUR: 'it returns false'. Refute it at one input. -/
def calRisesWrong : ChangeSpec := { name := "calRises", fn := fun _ => fun
  | [d1, d2, d3] => { results := [.lit (.bool false)], args := [d1, d2, d3] }
  | _ => none }
def CalRisesWrongFalsely : Prop := calRisesRow.holds Tryd.pinned (OpenSpec.ofChange calRisesWrong)

/-- 'tabularylaw04.CalZones': WHATEVER THE INPUT: true; the input reads as it did. -/
def calZonesSpec : ChangeSpec := { name := "calZones", fn := fun _ => fun
  | [d1, d2] => { results := [.lit (.bool true)], args := [d1, d2] }
  | _ => none }
def calZonesRow : OpenClaim := { program := "ytlnnnbbpilcgkaadoorrrr", sum := "44f98aa62692676a982f192f92dc2e2bc7f452f600c7e8ae2ea187a117b26294", func := "tabulary/tabularylaw04.CalZones", spec := "calZones", named := ["tabulary/cal.lengths"], apart := false, laid := [("tabulary/cal.lengths", laid_tabulary_cal_lengths)] }
def CalZonesSaid : Prop := calZonesRow.holds Tryd.pinned (OpenSpec.ofChange calZonesSpec)

/-- ITS FALSE NEIGHBOUR: 'it returns false'. Refute it at one input. -/
def calZonesWrong : ChangeSpec := { name := "calZones", fn := fun _ => fun
  | [d1, d2] => { results := [.lit (.bool false)], args := [d1, d2] }
  | _ => none }
def CalZonesWrongFalsely : Prop := calZonesRow.holds Tryd.pinned (OpenSpec.ofChange calZonesWrong)

/-- 'tabularylaw04.CalMoments': WHATEVER THE INPUT: true; the input reads as it did. -/
def calMomentsSpec : ChangeSpec := { name := "calMoments", fn := fun _ => fun
  | [d1, d2] => { results := [.lit (.bool true)], args := [d1, d2] }
  | _ => none }
def calMomentsRow : OpenClaim := { program := "ytlnnnbbpilcgkaadoorrrr", sum := "44f98aa62692676a982f192f92dc2e2bc7f452f600c7e8ae2ea187a117b26294", func := "tabulary/tabularylaw04.CalMoments", spec := "calMoments", unfollowed := true, recurses := true, named := ["tabulary/cal.lengths"], apart := false, laid := [("tabulary/cal.lengths", laid_tabulary_cal_lengths)] }
def CalMomentsSaid : Prop := calMomentsRow.holds Tryd.pinned (OpenSpec.ofChange calMomentsSpec)

/-- ITS FALSE NEIGHBOUR: 'it returns false'. Refute it at one input. -/
def calMomentsWrong : ChangeSpec := { name := "calMoments", fn := fun _ => fun
  | [d1, d2] => { results := [.lit (.bool false)], args := [d1, d2] }
  | _ => none }
def CalMomentsWrongFalsely : Prop := calMomentsRow.holds Tryd.pinned (OpenSpec.ofChange calMomentsWrong)

/- THE SECOND FORM. 'bulk': how many values and letters a reading holds, each counted each time it is reached (what is shared counts as often as it is met; a slice's spare places count too). A statement '..UptoSaid' is the law's where the arguments, and the package variables that the reading takes, are together of bulk at most 1048576: NARROWER than '..Said'. Prove '..Said' where nothing that the law and all that it calls make is longer than what came in: it says more and counts as full. Else prove '..UptoSaid'. A law counts once. -/
mutual
def uptoBulk {H : Type} : DataW H → Nat
  | .lit (.string bytes) => bytes.length + 1
  | .lit _ => 1
  | .nil => 1
  | .ptr d => uptoBulk d + 1
  | .slice elems spare => uptoBulkAll elems + uptoBulkAll spare + 1
  | .agg parts => uptoBulkAll parts + 1
  | .iface _ d => uptoBulk d + 1
  | .map entries => uptoBulkEntries entries + 1
  | .held _ => 1
def uptoBulkAll {H : Type} : List (DataW H) → Nat
  | [] => 0
  | d :: r => uptoBulk d + uptoBulkAll r
def uptoBulkEntries {H : Type} : List (Lit × DataW H) → Nat
  | [] => 0
  | x :: r => uptoBulkEntry x + uptoBulkEntries r
def uptoBulkEntry {H : Type} : Lit × DataW H → Nat
  | (.string bytes, d) => bytes.length + uptoBulk d + 1
  | (_, d) => uptoBulk d + 1
 end
def uptoSmall : (H : Type) → List (DataW H) → Bool := fun _ ds => decide (uptoBulkAll ds ≤ 1048576)
def OpenSpec.upto (s : _root_.Go.ChangeSpec) : _root_.Go.OpenSpec := { _root_.Go.OpenSpec.ofChange s with cond := some uptoSmall }

/-- 'tabularylaw04.CalRises', WHERE WHAT IT READS IS OF BULK AT MOST 1048576: true; the input reads as it did. -/
def calRisesUptoRow : OpenClaim := { program := "ytlnnnbbpilcgkaadoorrrr", sum := "44f98aa62692676a982f192f92dc2e2bc7f452f600c7e8ae2ea187a117b26294", func := "tabulary/tabularylaw04.CalRises", spec := "calRises", named := ["tabulary/cal.lengths"], apart := false, laid := [("tabulary/cal.lengths", laid_tabulary_cal_lengths)], narrowed := true }
def CalRisesUptoSaid : Prop := calRisesUptoRow.holds Tryd.pinned (OpenSpec.upto calRisesSpec)

/-- 'tabularylaw04.CalZones', WHERE WHAT IT READS IS OF BULK AT MOST 1048576: true; the input reads as it did. -/
def calZonesUptoRow : OpenClaim := { program := "ytlnnnbbpilcgkaadoorrrr", sum := "44f98aa62692676a982f192f92dc2e2bc7f452f600c7e8ae2ea187a117b26294", func := "tabulary/tabularylaw04.CalZones", spec := "calZones", named := ["tabulary/cal.lengths"], apart := false, laid := [("tabulary/cal.lengths", laid_tabulary_cal_lengths)], narrowed := true }
def CalZonesUptoSaid : Prop := calZonesUptoRow.holds Tryd.pinned (OpenSpec.upto calZonesSpec)

/-- 'tabularylaw04.CalMoments', WHERE WHAT IT READS IS OF BULK AT MOST 1048576: true; the input reads as it did. -/
def calMomentsUptoRow : OpenClaim := { program := "ytlnnnbbpilcgkaadoorrrr", sum := "44f98aa62692676a982f192f92dc2e2bc7f452f600c7e8ae2ea187a117b26294", func := "tabulary/tabularylaw04.CalMoments", spec := "calMoments", unfollowed := true, recurses := true, named := ["tabulary/cal.lengths"], apart := false, laid := [("tabulary/cal.lengths", laid_tabulary_cal_lengths)], narrowed := true }
def CalMomentsUptoSaid : Prop := calMomentsUptoRow.holds Tryd.pinned (OpenSpec.upto calMomentsSpec)

end Rows
end Go.Proofs.YtlnnnbbpilcgkaaDoorRRR
