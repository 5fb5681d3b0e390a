/-
  DERIVED. GIVEN WITH THE SEED: THE CARDS: each row of YtijikmakanpmlaaGreatDoorRows.lean that lists a variable, with what it lists TIED to the program's text (the seventh form; the later family's looks); each row that meets fmt, with fmt's text TOLD by the authors' own Lean function (tested against real Go, not proved from fmt's source: count such statements apart). THE CARD IS WHAT COUNTS. Prove the row's statement (the work); the ties are given (YtijikmakanpmlaaGreatDoorTie.lean); close each card by the builder's one call (the guide's Derived/Test/ToyasCard.lean, 'card_holds'). Laid BY PROGRAM, IN A SANDBOX (cutbox-door.mjs). By AI agents, Wed Nov 11 2026. No macro, syntax, notation, axiom, sorry.
-/
import Derived.Test.YtijikmakanpmlaaGreatDoorRows
import GoSem.ClaimSeven
namespace Go.Proofs.YtijikmakanpmlaaGreatDoor
namespace Rows

/-- THE TIED CARD OF 'laws.FnKeymaps'. -/
def fnKeymapsCard : Claim7 := { stood := { row := fnKeymapsRow, standIns := [], harness := (true, "78dc1f9047222b56db29e358ed6cdfae8ffdea5b46ad357600ff91a3a4443d6f"), looks := true }, kinds := [], alts := [], laidByText := true, laidKinds := [.data, .data, .data, .data, .sentinel, .sentinel, .pinned], laidTests := true, laidLooks := .later }
def FnKeymapsCardSaid : Prop := Claim7.holds Tryz.pinned (.plain (OpenSpec.ofChange fnKeymapsSpec)) fnKeymapsCard

/-- THE TIED CARD OF 'laws.FnExactParseMacro'. -/
def fnExactParseMacroCard : Claim7 := { stood := { row := fnExactParseMacroRow, standIns := [], harness := (true, "78dc1f9047222b56db29e358ed6cdfae8ffdea5b46ad357600ff91a3a4443d6f"), looks := true }, kinds := [], alts := [], laidByText := true, laidKinds := [.data, .data, .data, .data, .sentinel, .sentinel, .pinned], laidTests := true, laidLooks := .later }
def FnExactParseMacroCardSaid : Prop := Claim7.holds Tryz.pinned (.plain (OpenSpec.ofChange fnExactParseMacroSpec)) fnExactParseMacroCard

/-- THE TIED CARD OF 'laws.FnExactParseKeymap'. -/
def fnExactParseKeymapCard : Claim7 := { stood := { row := fnExactParseKeymapRow, standIns := [], harness := (true, "78dc1f9047222b56db29e358ed6cdfae8ffdea5b46ad357600ff91a3a4443d6f"), looks := true }, kinds := [], alts := [], laidByText := true, laidKinds := [.data, .data, .data, .data, .sentinel, .sentinel, .pinned], laidTests := true, laidLooks := .later }
def FnExactParseKeymapCardSaid : Prop := Claim7.holds Tryz.pinned (.plain (OpenSpec.ofChange fnExactParseKeymapSpec)) fnExactParseKeymapCard

/-- THE TIED CARD OF 'laws.FnMacros'. -/
def fnMacrosCard : Claim7 := { stood := { row := fnMacrosRow, standIns := [], harness := (true, "78dc1f9047222b56db29e358ed6cdfae8ffdea5b46ad357600ff91a3a4443d6f"), looks := true }, kinds := [], alts := [], laidByText := true, laidKinds := [.data, .data, .data, .data, .sentinel, .sentinel, .pinned], laidTests := true, laidLooks := .later }
def FnMacrosCardSaid : Prop := Claim7.holds Tryz.pinned (.plain (OpenSpec.ofChange fnMacrosSpec)) fnMacrosCard

/-- THE SECOND FORM's CARD OF 'laws.FnKeymaps'. -/
def fnKeymapsUptoCard : Claim7 := { stood := { row := fnKeymapsUptoRow, standIns := [], harness := (true, "78dc1f9047222b56db29e358ed6cdfae8ffdea5b46ad357600ff91a3a4443d6f"), looks := true }, kinds := [], alts := [], laidByText := true, laidKinds := [.data, .data, .data, .data, .sentinel, .sentinel, .pinned], laidTests := true, laidLooks := .later }
def FnKeymapsUptoCardSaid : Prop := Claim7.holds Tryz.pinned (.plain (OpenSpec.upto fnKeymapsSpec)) fnKeymapsUptoCard

/-- THE SECOND FORM's CARD OF 'laws.FnExactParseMacro'. -/
def fnExactParseMacroUptoCard : Claim7 := { stood := { row := fnExactParseMacroUptoRow, standIns := [], harness := (true, "78dc1f9047222b56db29e358ed6cdfae8ffdea5b46ad357600ff91a3a4443d6f"), looks := true }, kinds := [], alts := [], laidByText := true, laidKinds := [.data, .data, .data, .data, .sentinel, .sentinel, .pinned], laidTests := true, laidLooks := .later }
def FnExactParseMacroUptoCardSaid : Prop := Claim7.holds Tryz.pinned (.plain (OpenSpec.upto fnExactParseMacroSpec)) fnExactParseMacroUptoCard

/-- THE SECOND FORM's CARD OF 'laws.FnExactParseKeymap'. -/
def fnExactParseKeymapUptoCard : Claim7 := { stood := { row := fnExactParseKeymapUptoRow, standIns := [], harness := (true, "78dc1f9047222b56db29e358ed6cdfae8ffdea5b46ad357600ff91a3a4443d6f"), looks := true }, kinds := [], alts := [], laidByText := true, laidKinds := [.data, .data, .data, .data, .sentinel, .sentinel, .pinned], laidTests := true, laidLooks := .later }
def FnExactParseKeymapUptoCardSaid : Prop := Claim7.holds Tryz.pinned (.plain (OpenSpec.upto fnExactParseKeymapSpec)) fnExactParseKeymapUptoCard

/-- THE SECOND FORM's CARD OF 'laws.FnMacros'. -/
def fnMacrosUptoCard : Claim7 := { stood := { row := fnMacrosUptoRow, standIns := [], harness := (true, "78dc1f9047222b56db29e358ed6cdfae8ffdea5b46ad357600ff91a3a4443d6f"), looks := true }, kinds := [], alts := [], laidByText := true, laidKinds := [.data, .data, .data, .data, .sentinel, .sentinel, .pinned], laidTests := true, laidLooks := .later }
def FnMacrosUptoCardSaid : Prop := Claim7.holds Tryz.pinned (.plain (OpenSpec.upto fnMacrosSpec)) fnMacrosUptoCard
end Rows
end Go.Proofs.YtijikmakanpmlaaGreatDoor
