/-
  DERIVED. GIVEN WITH THE SEED: THE CARDS: each row of YtijikmakanpmlaaDoorRows.lean that lists a variable, with what it lists TIED to the program's text (the seventh form; the later family's looks); each row that meets fmt, with fmt's text TOLD by the authors' own Lean function (tested against real Go, not proved from fmt's source: count such statements apart). THE CARD IS WHAT COUNTS. Prove the row's statement (the work); the ties are given (YtijikmakanpmlaaDoorTie.lean); close each card by the builder's one call (the guide's Derived/Test/ToyasCard.lean, 'card_holds'). Laid BY PROGRAM, IN A SANDBOX (cutbox-door.mjs). By AI agents, Wed Nov 11 2026. No macro, syntax, notation, axiom, sorry.
-/
import Derived.Test.YtijikmakanpmlaaDoorRows
import GoSem.ClaimSeven
namespace Go.Proofs.YtijikmakanpmlaaDoor
namespace Rows

/-- THE TIED CARD OF 'laws.FnNumbers'. -/
def fnNumbersCard : Claim7 := { stood := { row := fnNumbersRow, standIns := [], harness := (true, "757cba35c1bb71f0943798e44cdfb361f6470900fab7c248e54b3f70e3bde778"), looks := true }, kinds := [], alts := [], laidByText := true, laidKinds := [.data, .data, .data, .sentinel, .sentinel], laidTests := true, laidLooks := .later }
def FnNumbersCardSaid : Prop := Claim7.holds Tryd.pinned (.plain (OpenSpec.ofChange fnNumbersSpec)) fnNumbersCard

/-- THE TIED CARD OF 'laws.FnActions'. -/
def fnActionsCard : Claim7 := { stood := { row := fnActionsRow, standIns := [], harness := (true, "757cba35c1bb71f0943798e44cdfb361f6470900fab7c248e54b3f70e3bde778"), looks := true }, kinds := [], alts := [], laidByText := true, laidKinds := [.data, .data, .data, .data, .sentinel, .sentinel, .pinned], laidTests := true, laidLooks := .later }
def FnActionsCardSaid : Prop := Claim7.holds Tryd.pinned (.plain (OpenSpec.ofChange fnActionsSpec)) fnActionsCard

/-- THE SECOND FORM's CARD OF 'laws.FnNumbers'. -/
def fnNumbersUptoCard : Claim7 := { stood := { row := fnNumbersUptoRow, standIns := [], harness := (true, "757cba35c1bb71f0943798e44cdfb361f6470900fab7c248e54b3f70e3bde778"), looks := true }, kinds := [], alts := [], laidByText := true, laidKinds := [.data, .data, .data, .sentinel, .sentinel], laidTests := true, laidLooks := .later }
def FnNumbersUptoCardSaid : Prop := Claim7.holds Tryd.pinned (.plain (OpenSpec.upto fnNumbersSpec)) fnNumbersUptoCard

/-- THE SECOND FORM's CARD OF 'laws.FnActions'. -/
def fnActionsUptoCard : Claim7 := { stood := { row := fnActionsUptoRow, standIns := [], harness := (true, "757cba35c1bb71f0943798e44cdfb361f6470900fab7c248e54b3f70e3bde778"), looks := true }, kinds := [], alts := [], laidByText := true, laidKinds := [.data, .data, .data, .data, .sentinel, .sentinel, .pinned], laidTests := true, laidLooks := .later }
def FnActionsUptoCardSaid : Prop := Claim7.holds Tryd.pinned (.plain (OpenSpec.upto fnActionsSpec)) fnActionsUptoCard
end Rows
end Go.Proofs.YtijikmakanpmlaaDoor
