/-
  DERIVED. GIVEN WITH THE SEED: THE CARDS: each row of YthnglpojbfkpoaaDoorRows.lean that lists a variable, with what it lists TIED to the program's text (the seventh form; the later family's looks); each row that meets fmt, with fmt's text TOLD by the authors' own Lean function (tested against real Go, not proved from fmt's source: count such statements apart). THE CARD IS WHAT COUNTS. Prove the row's statement (the work); the ties are given (YthnglpojbfkpoaaDoorTie.lean); close each card by the builder's one call (the guide's Derived/Test/ToyasCard.lean, 'card_holds'). Laid BY PROGRAM, IN A SANDBOX (cutbox-door.mjs). By AI agents, Wed Nov 11 2026. No macro, syntax, notation, axiom, sorry.
-/
import Derived.Test.YthnglpojbfkpoaaDoorRows
import GoSem.ClaimSeven
namespace Go.Proofs.YthnglpojbfkpoaaDoor
namespace Rows

/-- THE TIED CARD OF 'laws.FnReports'. -/
def fnReportsCard : Claim7 := { stood := { row := fnReportsRow, standIns := [], harness := (true, "2b437635a75c7a9c47466edbcb5e922a330f56590bb037da8759258fafa9ed88"), looks := false }, kinds := [], alts := [], laidByText := true, laidKinds := [.data, .pinned], laidTests := true, laidLooks := .later }
def FnReportsCardSaid : Prop := Claim7.holds Tryd.pinned (.plain (OpenSpec.ofChange fnReportsSpec)) fnReportsCard

/-- THE TIED CARD OF 'laws.FnExactParseReport'. -/
def fnExactParseReportCard : Claim7 := { stood := { row := fnExactParseReportRow, standIns := [], harness := (true, "2b437635a75c7a9c47466edbcb5e922a330f56590bb037da8759258fafa9ed88"), looks := false }, kinds := [], alts := [], laidByText := true, laidKinds := [.data, .pinned], laidTests := true, laidLooks := .later }
def FnExactParseReportCardSaid : Prop := Claim7.holds Tryd.pinned (.plain (OpenSpec.ofChange fnExactParseReportSpec)) fnExactParseReportCard

/-- THE SECOND FORM's CARD OF 'laws.FnReports'. -/
def fnReportsUptoCard : Claim7 := { stood := { row := fnReportsUptoRow, standIns := [], harness := (true, "2b437635a75c7a9c47466edbcb5e922a330f56590bb037da8759258fafa9ed88"), looks := false }, kinds := [], alts := [], laidByText := true, laidKinds := [.data, .pinned], laidTests := true, laidLooks := .later }
def FnReportsUptoCardSaid : Prop := Claim7.holds Tryd.pinned (.plain (OpenSpec.upto fnReportsSpec)) fnReportsUptoCard

/-- THE SECOND FORM's CARD OF 'laws.FnExactParseReport'. -/
def fnExactParseReportUptoCard : Claim7 := { stood := { row := fnExactParseReportUptoRow, standIns := [], harness := (true, "2b437635a75c7a9c47466edbcb5e922a330f56590bb037da8759258fafa9ed88"), looks := false }, kinds := [], alts := [], laidByText := true, laidKinds := [.data, .pinned], laidTests := true, laidLooks := .later }
def FnExactParseReportUptoCardSaid : Prop := Claim7.holds Tryd.pinned (.plain (OpenSpec.upto fnExactParseReportSpec)) fnExactParseReportUptoCard
end Rows
end Go.Proofs.YthnglpojbfkpoaaDoor
