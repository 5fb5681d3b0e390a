/-
  No cell of these rows narrows 'for every input' (looked for: loops, veiled, ifaces, maps, wideKeys, modest, calm, conditions, laid).
  DERIVED. THE GIVEN ROWS OF THIS SEAT. 12 by the template 'for every input the law returns true; each argument reads behind the call as it read before'; 0 by the template 'total and deterministic' (their statements: YthljgcjmaabnoaaTotals.lean).
  GIVEN WITH THE SEED: the statements are not yours to turn. If you find one false, say at which input.
  Laid BY PROGRAM, IN A SANDBOX (cutbox-rows.mjs): the forced cells as the released guide's own fill.sh prints them over the translation e0d5cd3549930893… (all of the seat's roots in one cut). By AI agents, Wed Nov 11 2026. No macro, syntax, notation, axiom, sorry.
-/
import Derived.Test.YthljgcjmaabnoaaChecked
import GoSem.Claim
import GoSem.ClaimJoined
import GoSem.ClaimMapViews
import Derived.JoinedTies
import Derived.KernelRfl
namespace Go.Proofs.Ythljgcjmaabnoaa
/- THE CELL 'sum', in the pinned program and in every row, IS THE sha256 OF THE DUMP (.gsa) THAT YthljgcjmaabnoaaProg.lean LOADS. Nothing in Lean hashes anything: it is a label: what it is worth is what the hold of that sum in a sandbox is worth. -/
noncomputable def Try.pinned : Pinned := { name := "ythljgcjmaabnoaa", sum := "e0d5cd35499308932b08c27caf3d24de81e75b21a151d742bebc7bfc6a410949", checked := Try.checked }
namespace Rows
def none {H : Type} : Left H := { results := [], args := [] }

/-- 'laws.FnExactReadBits': WHATEVER THE INPUT: true; the input reads as it did. -/
def fnExactReadBitsSpec : ChangeSpec := { name := "fnExactReadBits", fn := fun _ => fun
  | [d] => { results := [.lit (.bool true)], args := [d] }
  | _ => none }
def fnExactReadBitsRow : OpenClaim := { program := "ythljgcjmaabnoaa", sum := "e0d5cd35499308932b08c27caf3d24de81e75b21a151d742bebc7bfc6a410949", func := "loop.example/g03414/laws.FnExactReadBits", spec := "fnExactReadBits", apart := false }
def FnExactReadBitsSaid : Prop := fnExactReadBitsRow.holds Try.pinned (OpenSpec.ofChange fnExactReadBitsSpec)

/-- ITS FALSE NEIGHBOUR: 'it returns false'. Refute it at one input. -/
def fnExactReadBitsWrong : ChangeSpec := { name := "fnExactReadBits", fn := fun _ => fun
  | [d] => { results := [.lit (.bool false)], args := [d] }
  | _ => none }
def FnExactReadBitsWrongFalsely : Prop := fnExactReadBitsRow.holds Try.pinned (OpenSpec.ofChange fnExactReadBitsWrong)

/-- 'laws.FnExactBitBytes': WHATEVER THE INPUT: true; the input reads as it did. -/
def fnExactBitBytesSpec : ChangeSpec := { name := "fnExactBitBytes", fn := fun _ => fun
  | [d] => { results := [.lit (.bool true)], args := [d] }
  | _ => none }
def fnExactBitBytesRow : OpenClaim := { program := "ythljgcjmaabnoaa", sum := "e0d5cd35499308932b08c27caf3d24de81e75b21a151d742bebc7bfc6a410949", func := "loop.example/g03414/laws.FnExactBitBytes", spec := "fnExactBitBytes", apart := false }
def FnExactBitBytesSaid : Prop := fnExactBitBytesRow.holds Try.pinned (OpenSpec.ofChange fnExactBitBytesSpec)

/-- ITS FALSE NEIGHBOUR: 'it returns false'. Refute it at one input. -/
def fnExactBitBytesWrong : ChangeSpec := { name := "fnExactBitBytes", fn := fun _ => fun
  | [d] => { results := [.lit (.bool false)], args := [d] }
  | _ => none }
def FnExactBitBytesWrongFalsely : Prop := fnExactBitBytesRow.holds Try.pinned (OpenSpec.ofChange fnExactBitBytesWrong)

/-- 'laws.FnExactBootBytes': WHATEVER THE INPUT: true; the input reads as it did. -/
def fnExactBootBytesSpec : ChangeSpec := { name := "fnExactBootBytes", fn := fun _ => fun
  | [d] => { results := [.lit (.bool true)], args := [d] }
  | _ => none }
def fnExactBootBytesRow : OpenClaim := { program := "ythljgcjmaabnoaa", sum := "e0d5cd35499308932b08c27caf3d24de81e75b21a151d742bebc7bfc6a410949", func := "loop.example/g03414/laws.FnExactBootBytes", spec := "fnExactBootBytes", apart := false }
def FnExactBootBytesSaid : Prop := fnExactBootBytesRow.holds Try.pinned (OpenSpec.ofChange fnExactBootBytesSpec)

/-- ITS FALSE NEIGHBOUR: 'it returns false'. Refute it at one input. -/
def fnExactBootBytesWrong : ChangeSpec := { name := "fnExactBootBytes", fn := fun _ => fun
  | [d] => { results := [.lit (.bool false)], args := [d] }
  | _ => none }
def FnExactBootBytesWrongFalsely : Prop := fnExactBootBytesRow.holds Try.pinned (OpenSpec.ofChange fnExactBootBytesWrong)

/-- 'laws.FnExactReadBoot': WHATEVER THE INPUT: true; the input reads as it did. -/
def fnExactReadBootSpec : ChangeSpec := { name := "fnExactReadBoot", fn := fun _ => fun
  | [d1, d2] => { results := [.lit (.bool true)], args := [d1, d2] }
  | _ => none }
def fnExactReadBootRow : OpenClaim := { program := "ythljgcjmaabnoaa", sum := "e0d5cd35499308932b08c27caf3d24de81e75b21a151d742bebc7bfc6a410949", func := "loop.example/g03414/laws.FnExactReadBoot", spec := "fnExactReadBoot", apart := false }
def FnExactReadBootSaid : Prop := fnExactReadBootRow.holds Try.pinned (OpenSpec.ofChange fnExactReadBootSpec)

/-- ITS FALSE NEIGHBOUR: 'it returns false'. Refute it at one input. -/
def fnExactReadBootWrong : ChangeSpec := { name := "fnExactReadBoot", fn := fun _ => fun
  | [d1, d2] => { results := [.lit (.bool false)], args := [d1, d2] }
  | _ => none }
def FnExactReadBootWrongFalsely : Prop := fnExactReadBootRow.holds Try.pinned (OpenSpec.ofChange fnExactReadBootWrong)

/-- 'laws.FnExactPackKeymap': WHATEVER THE INPUT: true; the input reads as it did. -/
def fnExactPackKeymapSpec : ChangeSpec := { name := "fnExactPackKeymap", fn := fun _ => fun
  | [d] => { results := [.lit (.bool true)], args := [d] }
  | _ => none }
def fnExactPackKeymapRow : OpenClaim := { program := "ythljgcjmaabnoaa", sum := "e0d5cd35499308932b08c27caf3d24de81e75b21a151d742bebc7bfc6a410949", func := "loop.example/g03414/laws.FnExactPackKeymap", spec := "fnExactPackKeymap", apart := false }
def FnExactPackKeymapSaid : Prop := fnExactPackKeymapRow.holds Try.pinned (OpenSpec.ofChange fnExactPackKeymapSpec)

/-- ITS FALSE NEIGHBOUR: 'it returns false'. Refute it at one input. -/
def fnExactPackKeymapWrong : ChangeSpec := { name := "fnExactPackKeymap", fn := fun _ => fun
  | [d] => { results := [.lit (.bool false)], args := [d] }
  | _ => none }
def FnExactPackKeymapWrongFalsely : Prop := fnExactPackKeymapRow.holds Try.pinned (OpenSpec.ofChange fnExactPackKeymapWrong)

/-- 'laws.FnExactUnpackKeymap': WHATEVER THE INPUT: true; the input reads as it did. -/
def fnExactUnpackKeymapSpec : ChangeSpec := { name := "fnExactUnpackKeymap", fn := fun _ => fun
  | [d] => { results := [.lit (.bool true)], args := [d] }
  | _ => none }
def fnExactUnpackKeymapRow : OpenClaim := { program := "ythljgcjmaabnoaa", sum := "e0d5cd35499308932b08c27caf3d24de81e75b21a151d742bebc7bfc6a410949", func := "loop.example/g03414/laws.FnExactUnpackKeymap", spec := "fnExactUnpackKeymap", apart := false }
def FnExactUnpackKeymapSaid : Prop := fnExactUnpackKeymapRow.holds Try.pinned (OpenSpec.ofChange fnExactUnpackKeymapSpec)

/-- ITS FALSE NEIGHBOUR: 'it returns false'. Refute it at one input. -/
def fnExactUnpackKeymapWrong : ChangeSpec := { name := "fnExactUnpackKeymap", fn := fun _ => fun
  | [d] => { results := [.lit (.bool false)], args := [d] }
  | _ => none }
def FnExactUnpackKeymapWrongFalsely : Prop := fnExactUnpackKeymapRow.holds Try.pinned (OpenSpec.ofChange fnExactUnpackKeymapWrong)

/-- 'laws.FnExactSetAction': WHATEVER THE INPUT: true; the input reads as it did. -/
def fnExactSetActionSpec : ChangeSpec := { name := "fnExactSetAction", fn := fun _ => fun
  | [d1, d2, d3, d4] => { results := [.lit (.bool true)], args := [d1, d2, d3, d4] }
  | _ => none }
def fnExactSetActionRow : OpenClaim := { program := "ythljgcjmaabnoaa", sum := "e0d5cd35499308932b08c27caf3d24de81e75b21a151d742bebc7bfc6a410949", func := "loop.example/g03414/laws.FnExactSetAction", spec := "fnExactSetAction", apart := false }
def FnExactSetActionSaid : Prop := fnExactSetActionRow.holds Try.pinned (OpenSpec.ofChange fnExactSetActionSpec)

/-- ITS FALSE NEIGHBOUR: 'it returns false'. Refute it at one input. -/
def fnExactSetActionWrong : ChangeSpec := { name := "fnExactSetAction", fn := fun _ => fun
  | [d1, d2, d3, d4] => { results := [.lit (.bool false)], args := [d1, d2, d3, d4] }
  | _ => none }
def FnExactSetActionWrongFalsely : Prop := fnExactSetActionRow.holds Try.pinned (OpenSpec.ofChange fnExactSetActionWrong)

/-- 'laws.FnExactReportOf': WHATEVER THE INPUT: true; the input reads as it did. -/
def fnExactReportOfSpec : ChangeSpec := { name := "fnExactReportOf", fn := fun _ => fun
  | [d] => { results := [.lit (.bool true)], args := [d] }
  | _ => none }
def fnExactReportOfRow : OpenClaim := { program := "ythljgcjmaabnoaa", sum := "e0d5cd35499308932b08c27caf3d24de81e75b21a151d742bebc7bfc6a410949", func := "loop.example/g03414/laws.FnExactReportOf", spec := "fnExactReportOf", recurses := true, apart := false }
def FnExactReportOfSaid : Prop := fnExactReportOfRow.holds Try.pinned (OpenSpec.ofChange fnExactReportOfSpec)

/-- ITS FALSE NEIGHBOUR: 'it returns false'. Refute it at one input. -/
def fnExactReportOfWrong : ChangeSpec := { name := "fnExactReportOf", fn := fun _ => fun
  | [d] => { results := [.lit (.bool false)], args := [d] }
  | _ => none }
def FnExactReportOfWrongFalsely : Prop := fnExactReportOfRow.holds Try.pinned (OpenSpec.ofChange fnExactReportOfWrong)

/-- 'laws.FnExactNewEngine': WHATEVER THE INPUT: true; the input reads as it did. -/
def fnExactNewEngineSpec : ChangeSpec := { name := "fnExactNewEngine", fn := fun _ => fun
  | [d1, d2] => { results := [.lit (.bool true)], args := [d1, d2] }
  | _ => none }
def fnExactNewEngineRow : OpenClaim := { program := "ythljgcjmaabnoaa", sum := "e0d5cd35499308932b08c27caf3d24de81e75b21a151d742bebc7bfc6a410949", func := "loop.example/g03414/laws.FnExactNewEngine", spec := "fnExactNewEngine", apart := false }
def FnExactNewEngineSaid : Prop := fnExactNewEngineRow.holds Try.pinned (OpenSpec.ofChange fnExactNewEngineSpec)

/-- ITS FALSE NEIGHBOUR: 'it returns false'. Refute it at one input. -/
def fnExactNewEngineWrong : ChangeSpec := { name := "fnExactNewEngine", fn := fun _ => fun
  | [d1, d2] => { results := [.lit (.bool false)], args := [d1, d2] }
  | _ => none }
def FnExactNewEngineWrongFalsely : Prop := fnExactNewEngineRow.holds Try.pinned (OpenSpec.ofChange fnExactNewEngineWrong)

/-- 'laws.FnExactMacroReports': WHATEVER THE INPUT: true; the input reads as it did. -/
def fnExactMacroReportsSpec : ChangeSpec := { name := "fnExactMacroReports", fn := fun _ => fun
  | [d1, d2] => { results := [.lit (.bool true)], args := [d1, d2] }
  | _ => none }
def fnExactMacroReportsRow : OpenClaim := { program := "ythljgcjmaabnoaa", sum := "e0d5cd35499308932b08c27caf3d24de81e75b21a151d742bebc7bfc6a410949", func := "loop.example/g03414/laws.FnExactMacroReports", spec := "fnExactMacroReports", recurses := true, apart := false }
def FnExactMacroReportsSaid : Prop := fnExactMacroReportsRow.holds Try.pinned (OpenSpec.ofChange fnExactMacroReportsSpec)

/-- ITS FALSE NEIGHBOUR: 'it returns false'. Refute it at one input. -/
def fnExactMacroReportsWrong : ChangeSpec := { name := "fnExactMacroReports", fn := fun _ => fun
  | [d1, d2] => { results := [.lit (.bool false)], args := [d1, d2] }
  | _ => none }
def FnExactMacroReportsWrongFalsely : Prop := fnExactMacroReportsRow.holds Try.pinned (OpenSpec.ofChange fnExactMacroReportsWrong)

/-- 'laws.FnExactIsEngine': WHATEVER THE INPUT: true; the input reads as it did. -/
def fnExactIsEngineSpec : ChangeSpec := { name := "fnExactIsEngine", fn := fun _ => fun
  | [d] => { results := [.lit (.bool true)], args := [d] }
  | _ => none }
def fnExactIsEngineRow : OpenClaim := { program := "ythljgcjmaabnoaa", sum := "e0d5cd35499308932b08c27caf3d24de81e75b21a151d742bebc7bfc6a410949", func := "loop.example/g03414/laws.FnExactIsEngine", spec := "fnExactIsEngine", apart := false }
def FnExactIsEngineSaid : Prop := fnExactIsEngineRow.holds Try.pinned (OpenSpec.ofChange fnExactIsEngineSpec)

/-- ITS FALSE NEIGHBOUR: 'it returns false'. Refute it at one input. -/
def fnExactIsEngineWrong : ChangeSpec := { name := "fnExactIsEngine", fn := fun _ => fun
  | [d] => { results := [.lit (.bool false)], args := [d] }
  | _ => none }
def FnExactIsEngineWrongFalsely : Prop := fnExactIsEngineRow.holds Try.pinned (OpenSpec.ofChange fnExactIsEngineWrong)

/-- 'laws.FnExactIsDecider': WHATEVER THE INPUT: true; the input reads as it did. -/
def fnExactIsDeciderSpec : ChangeSpec := { name := "fnExactIsDecider", fn := fun _ => fun
  | [d] => { results := [.lit (.bool true)], args := [d] }
  | _ => none }
def fnExactIsDeciderRow : OpenClaim := { program := "ythljgcjmaabnoaa", sum := "e0d5cd35499308932b08c27caf3d24de81e75b21a151d742bebc7bfc6a410949", func := "loop.example/g03414/laws.FnExactIsDecider", spec := "fnExactIsDecider", apart := false }
def FnExactIsDeciderSaid : Prop := fnExactIsDeciderRow.holds Try.pinned (OpenSpec.ofChange fnExactIsDeciderSpec)

/-- ITS FALSE NEIGHBOUR: 'it returns false'. Refute it at one input. -/
def fnExactIsDeciderWrong : ChangeSpec := { name := "fnExactIsDecider", fn := fun _ => fun
  | [d] => { results := [.lit (.bool false)], args := [d] }
  | _ => none }
def FnExactIsDeciderWrongFalsely : Prop := fnExactIsDeciderRow.holds Try.pinned (OpenSpec.ofChange fnExactIsDeciderWrong)

/- THE SECOND FORM. 'bulk': how many values and letters a reading holds, each counted each time it is reached (what is shared counts as often as it is met; a slice's spare places count too). A statement '..UptoSaid' is the law's where the arguments, and the package variables that the reading takes, are together of bulk at most 1048576: NARROWER than '..Said'. Prove '..Said' where nothing that the law and all that it calls make is longer than what came in: it says more and counts as full. Else prove '..UptoSaid'. A law counts once. -/
mutual
def uptoBulk {H : Type} : DataW H → Nat
  | .lit (.string bytes) => bytes.length + 1
  | .lit _ => 1
  | .nil => 1
  | .ptr d => uptoBulk d + 1
  | .slice elems spare => uptoBulkAll elems + uptoBulkAll spare + 1
  | .agg parts => uptoBulkAll parts + 1
  | .iface _ d => uptoBulk d + 1
  | .map entries => uptoBulkEntries entries + 1
  | .held _ => 1
def uptoBulkAll {H : Type} : List (DataW H) → Nat
  | [] => 0
  | d :: r => uptoBulk d + uptoBulkAll r
def uptoBulkEntries {H : Type} : List (Lit × DataW H) → Nat
  | [] => 0
  | x :: r => uptoBulkEntry x + uptoBulkEntries r
def uptoBulkEntry {H : Type} : Lit × DataW H → Nat
  | (.string bytes, d) => bytes.length + uptoBulk d + 1
  | (_, d) => uptoBulk d + 1
 end
def uptoSmall : (H : Type) → List (DataW H) → Bool := fun _ ds => decide (uptoBulkAll ds ≤ 1048576)
def OpenSpec.upto (s : _root_.Go.ChangeSpec) : _root_.Go.OpenSpec := { _root_.Go.OpenSpec.ofChange s with cond := some uptoSmall }

/-- 'laws.FnExactReadBits', WHERE WHAT IT READS IS OF BULK AT MOST 1048576: true; the input reads as it did. -/
def fnExactReadBitsUptoRow : OpenClaim := { program := "ythljgcjmaabnoaa", sum := "e0d5cd35499308932b08c27caf3d24de81e75b21a151d742bebc7bfc6a410949", func := "loop.example/g03414/laws.FnExactReadBits", spec := "fnExactReadBits", apart := false, narrowed := true }
def FnExactReadBitsUptoSaid : Prop := fnExactReadBitsUptoRow.holds Try.pinned (OpenSpec.upto fnExactReadBitsSpec)

/-- 'laws.FnExactBitBytes', WHERE WHAT IT READS IS OF BULK AT MOST 1048576: true; the input reads as it did. -/
def fnExactBitBytesUptoRow : OpenClaim := { program := "ythljgcjmaabnoaa", sum := "e0d5cd35499308932b08c27caf3d24de81e75b21a151d742bebc7bfc6a410949", func := "loop.example/g03414/laws.FnExactBitBytes", spec := "fnExactBitBytes", apart := false, narrowed := true }
def FnExactBitBytesUptoSaid : Prop := fnExactBitBytesUptoRow.holds Try.pinned (OpenSpec.upto fnExactBitBytesSpec)

/-- 'laws.FnExactBootBytes', WHERE WHAT IT READS IS OF BULK AT MOST 1048576: true; the input reads as it did. -/
def fnExactBootBytesUptoRow : OpenClaim := { program := "ythljgcjmaabnoaa", sum := "e0d5cd35499308932b08c27caf3d24de81e75b21a151d742bebc7bfc6a410949", func := "loop.example/g03414/laws.FnExactBootBytes", spec := "fnExactBootBytes", apart := false, narrowed := true }
def FnExactBootBytesUptoSaid : Prop := fnExactBootBytesUptoRow.holds Try.pinned (OpenSpec.upto fnExactBootBytesSpec)

/-- 'laws.FnExactReadBoot', WHERE WHAT IT READS IS OF BULK AT MOST 1048576: true; the input reads as it did. -/
def fnExactReadBootUptoRow : OpenClaim := { program := "ythljgcjmaabnoaa", sum := "e0d5cd35499308932b08c27caf3d24de81e75b21a151d742bebc7bfc6a410949", func := "loop.example/g03414/laws.FnExactReadBoot", spec := "fnExactReadBoot", apart := false, narrowed := true }
def FnExactReadBootUptoSaid : Prop := fnExactReadBootUptoRow.holds Try.pinned (OpenSpec.upto fnExactReadBootSpec)

/-- 'laws.FnExactPackKeymap', WHERE WHAT IT READS IS OF BULK AT MOST 1048576: true; the input reads as it did. -/
def fnExactPackKeymapUptoRow : OpenClaim := { program := "ythljgcjmaabnoaa", sum := "e0d5cd35499308932b08c27caf3d24de81e75b21a151d742bebc7bfc6a410949", func := "loop.example/g03414/laws.FnExactPackKeymap", spec := "fnExactPackKeymap", apart := false, narrowed := true }
def FnExactPackKeymapUptoSaid : Prop := fnExactPackKeymapUptoRow.holds Try.pinned (OpenSpec.upto fnExactPackKeymapSpec)

/-- 'laws.FnExactUnpackKeymap', WHERE WHAT IT READS IS OF BULK AT MOST 1048576: true; the input reads as it did. -/
def fnExactUnpackKeymapUptoRow : OpenClaim := { program := "ythljgcjmaabnoaa", sum := "e0d5cd35499308932b08c27caf3d24de81e75b21a151d742bebc7bfc6a410949", func := "loop.example/g03414/laws.FnExactUnpackKeymap", spec := "fnExactUnpackKeymap", apart := false, narrowed := true }
def FnExactUnpackKeymapUptoSaid : Prop := fnExactUnpackKeymapUptoRow.holds Try.pinned (OpenSpec.upto fnExactUnpackKeymapSpec)

/-- 'laws.FnExactSetAction', WHERE WHAT IT READS IS OF BULK AT MOST 1048576: true; the input reads as it did. -/
def fnExactSetActionUptoRow : OpenClaim := { program := "ythljgcjmaabnoaa", sum := "e0d5cd35499308932b08c27caf3d24de81e75b21a151d742bebc7bfc6a410949", func := "loop.example/g03414/laws.FnExactSetAction", spec := "fnExactSetAction", apart := false, narrowed := true }
def FnExactSetActionUptoSaid : Prop := fnExactSetActionUptoRow.holds Try.pinned (OpenSpec.upto fnExactSetActionSpec)

/-- 'laws.FnExactReportOf', WHERE WHAT IT READS IS OF BULK AT MOST 1048576: true; the input reads as it did. -/
def fnExactReportOfUptoRow : OpenClaim := { program := "ythljgcjmaabnoaa", sum := "e0d5cd35499308932b08c27caf3d24de81e75b21a151d742bebc7bfc6a410949", func := "loop.example/g03414/laws.FnExactReportOf", spec := "fnExactReportOf", recurses := true, apart := false, narrowed := true }
def FnExactReportOfUptoSaid : Prop := fnExactReportOfUptoRow.holds Try.pinned (OpenSpec.upto fnExactReportOfSpec)

/-- 'laws.FnExactNewEngine', WHERE WHAT IT READS IS OF BULK AT MOST 1048576: true; the input reads as it did. -/
def fnExactNewEngineUptoRow : OpenClaim := { program := "ythljgcjmaabnoaa", sum := "e0d5cd35499308932b08c27caf3d24de81e75b21a151d742bebc7bfc6a410949", func := "loop.example/g03414/laws.FnExactNewEngine", spec := "fnExactNewEngine", apart := false, narrowed := true }
def FnExactNewEngineUptoSaid : Prop := fnExactNewEngineUptoRow.holds Try.pinned (OpenSpec.upto fnExactNewEngineSpec)

/-- 'laws.FnExactMacroReports', WHERE WHAT IT READS IS OF BULK AT MOST 1048576: true; the input reads as it did. -/
def fnExactMacroReportsUptoRow : OpenClaim := { program := "ythljgcjmaabnoaa", sum := "e0d5cd35499308932b08c27caf3d24de81e75b21a151d742bebc7bfc6a410949", func := "loop.example/g03414/laws.FnExactMacroReports", spec := "fnExactMacroReports", recurses := true, apart := false, narrowed := true }
def FnExactMacroReportsUptoSaid : Prop := fnExactMacroReportsUptoRow.holds Try.pinned (OpenSpec.upto fnExactMacroReportsSpec)

/-- 'laws.FnExactIsEngine', WHERE WHAT IT READS IS OF BULK AT MOST 1048576: true; the input reads as it did. -/
def fnExactIsEngineUptoRow : OpenClaim := { program := "ythljgcjmaabnoaa", sum := "e0d5cd35499308932b08c27caf3d24de81e75b21a151d742bebc7bfc6a410949", func := "loop.example/g03414/laws.FnExactIsEngine", spec := "fnExactIsEngine", apart := false, narrowed := true }
def FnExactIsEngineUptoSaid : Prop := fnExactIsEngineUptoRow.holds Try.pinned (OpenSpec.upto fnExactIsEngineSpec)

/-- 'laws.FnExactIsDecider', WHERE WHAT IT READS IS OF BULK AT MOST 1048576: true; the input reads as it did. -/
def fnExactIsDeciderUptoRow : OpenClaim := { program := "ythljgcjmaabnoaa", sum := "e0d5cd35499308932b08c27caf3d24de81e75b21a151d742bebc7bfc6a410949", func := "loop.example/g03414/laws.FnExactIsDecider", spec := "fnExactIsDecider", apart := false, narrowed := true }
def FnExactIsDeciderUptoSaid : Prop := fnExactIsDeciderUptoRow.holds Try.pinned (OpenSpec.upto fnExactIsDeciderSpec)

end Rows
end Go.Proofs.Ythljgcjmaabnoaa
