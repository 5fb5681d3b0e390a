/-
  DERIVED. GIVEN WITH THE SEED: THE CARDS: each row of YtkjnachjeoeihaaDoorRows.lean that lists a variable, with what it lists TIED to the program's text (the seventh form; the later family's looks); each row that meets fmt, with fmt's text TOLD by the authors' own Lean function (tested against real Go, not proved from fmt's source: count such statements apart). THE CARD IS WHAT COUNTS. Prove the row's statement (the work); the ties are given (YtkjnachjeoeihaaDoorTie.lean); close each card by the builder's one call (the guide's Derived/Test/ToyasCard.lean, 'card_holds'). Laid BY PROGRAM, IN A SANDBOX (cutbox-door.mjs). By AI agents, Wed Nov 11 2026. No macro, syntax, notation, axiom, sorry.
-/
import Derived.Test.YtkjnachjeoeihaaDoorRows
import GoSem.ClaimSeven
namespace Go.Proofs.YtkjnachjeoeihaaDoor
namespace Rows

/-- THE TIED CARD OF 'laws.FnExactFormatReport'. -/
def fnExactFormatReportCard : Claim7 := { stood := { row := fnExactFormatReportRow, standIns := [], harness := (true, "3e8ee511298c13a7d2d505b5a8cc56fa998670876ccaca25627cec033e486cfe"), looks := false }, kinds := [], alts := [], laidByText := true, laidKinds := [.data, .pinned], laidTests := true, laidLooks := .later }
def FnExactFormatReportCardSaid : Prop := Claim7.holds Tryd.pinned (.plain (OpenSpec.ofChange fnExactFormatReportSpec)) fnExactFormatReportCard

/-- THE TIED CARD OF 'laws.FnExactFormatMacro'. -/
def fnExactFormatMacroCard : Claim7 := { stood := { row := fnExactFormatMacroRow, standIns := [], harness := (true, "3e8ee511298c13a7d2d505b5a8cc56fa998670876ccaca25627cec033e486cfe"), looks := false }, kinds := [], alts := [], laidByText := true, laidKinds := [.data, .data, .data, .data, .pinned], laidTests := true, laidLooks := .later }
def FnExactFormatMacroCardSaid : Prop := Claim7.holds Tryd.pinned (.plain (OpenSpec.ofChange fnExactFormatMacroSpec)) fnExactFormatMacroCard

/-- THE TIED CARD OF 'laws.FnExactFormatKeymap'. -/
def fnExactFormatKeymapCard : Claim7 := { stood := { row := fnExactFormatKeymapRow, standIns := [], harness := (true, "3e8ee511298c13a7d2d505b5a8cc56fa998670876ccaca25627cec033e486cfe"), looks := false }, kinds := [], alts := [], laidByText := true, laidKinds := [.data, .data, .data, .data, .pinned], laidTests := true, laidLooks := .later }
def FnExactFormatKeymapCardSaid : Prop := Claim7.holds Tryd.pinned (.plain (OpenSpec.ofChange fnExactFormatKeymapSpec)) fnExactFormatKeymapCard

/-- THE SECOND FORM's CARD OF 'laws.FnExactFormatReport'. -/
def fnExactFormatReportUptoCard : Claim7 := { stood := { row := fnExactFormatReportUptoRow, standIns := [], harness := (true, "3e8ee511298c13a7d2d505b5a8cc56fa998670876ccaca25627cec033e486cfe"), looks := false }, kinds := [], alts := [], laidByText := true, laidKinds := [.data, .pinned], laidTests := true, laidLooks := .later }
def FnExactFormatReportUptoCardSaid : Prop := Claim7.holds Tryd.pinned (.plain (OpenSpec.upto fnExactFormatReportSpec)) fnExactFormatReportUptoCard

/-- THE SECOND FORM's CARD OF 'laws.FnExactFormatMacro'. -/
def fnExactFormatMacroUptoCard : Claim7 := { stood := { row := fnExactFormatMacroUptoRow, standIns := [], harness := (true, "3e8ee511298c13a7d2d505b5a8cc56fa998670876ccaca25627cec033e486cfe"), looks := false }, kinds := [], alts := [], laidByText := true, laidKinds := [.data, .data, .data, .data, .pinned], laidTests := true, laidLooks := .later }
def FnExactFormatMacroUptoCardSaid : Prop := Claim7.holds Tryd.pinned (.plain (OpenSpec.upto fnExactFormatMacroSpec)) fnExactFormatMacroUptoCard

/-- THE SECOND FORM's CARD OF 'laws.FnExactFormatKeymap'. -/
def fnExactFormatKeymapUptoCard : Claim7 := { stood := { row := fnExactFormatKeymapUptoRow, standIns := [], harness := (true, "3e8ee511298c13a7d2d505b5a8cc56fa998670876ccaca25627cec033e486cfe"), looks := false }, kinds := [], alts := [], laidByText := true, laidKinds := [.data, .data, .data, .data, .pinned], laidTests := true, laidLooks := .later }
def FnExactFormatKeymapUptoCardSaid : Prop := Claim7.holds Tryd.pinned (.plain (OpenSpec.upto fnExactFormatKeymapSpec)) fnExactFormatKeymapUptoCard
end Rows
end Go.Proofs.YtkjnachjeoeihaaDoor
