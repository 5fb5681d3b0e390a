/-
  No cell of these rows narrows 'for every input' (looked for: loops, veiled, ifaces, maps, wideKeys, modest, calm, conditions, laid).
  DERIVED. THE GIVEN ROWS OF THIS SEAT. 6 by the template 'for every input the law returns true; each argument reads behind the call as it read before'; 0 by the template 'total and deterministic' (their statements: YtkjnachjeoeihaaTotals.lean).
  GIVEN WITH THE SEED: the statements are not yours to turn. If you find one false, say at which input.
  Laid BY PROGRAM, IN A SANDBOX (cutbox-rows.mjs): the forced cells as the released guide's own fill.sh prints them over the translation 0ceb8896996ad6e2… (all of the seat's roots in one cut). By AI agents, Wed Nov 11 2026. No macro, syntax, notation, axiom, sorry.
-/
import Derived.Test.YtkjnachjeoeihaaChecked
import GoSem.Claim
import GoSem.ClaimJoined
import GoSem.ClaimMapViews
import Derived.JoinedTies
import Derived.KernelRfl
namespace Go.Proofs.Ytkjnachjeoeihaa
/- THE CELL 'sum', in the pinned program and in every row, IS THE sha256 OF THE DUMP (.gsa) THAT YtkjnachjeoeihaaProg.lean LOADS. Nothing in Lean hashes anything: it is a label: what it is worth is what the hold of that sum in a sandbox is worth. -/
noncomputable def Try.pinned : Pinned := { name := "ytkjnachjeoeihaa", sum := "0ceb8896996ad6e24dd2e1c423a54fdc9da27d2555b90025d000a779351e97ce", checked := Try.checked }
namespace Rows
def none {H : Type} : Left H := { results := [], args := [] }

/-- 'laws.FnExactNewDecider': WHATEVER THE INPUT: true; the input reads as it did. -/
def fnExactNewDeciderSpec : ChangeSpec := { name := "fnExactNewDecider", fn := fun _ => fun
  | [d1, d2] => { results := [.lit (.bool true)], args := [d1, d2] }
  | _ => none }
def fnExactNewDeciderRow : OpenClaim := { program := "ytkjnachjeoeihaa", sum := "0ceb8896996ad6e24dd2e1c423a54fdc9da27d2555b90025d000a779351e97ce", func := "loop.example/g03414/laws.FnExactNewDecider", spec := "fnExactNewDecider", apart := false }
def FnExactNewDeciderSaid : Prop := fnExactNewDeciderRow.holds Try.pinned (OpenSpec.ofChange fnExactNewDeciderSpec)

/-- ITS FALSE NEIGHBOUR: 'it returns false'. Refute it at one input. -/
def fnExactNewDeciderWrong : ChangeSpec := { name := "fnExactNewDecider", fn := fun _ => fun
  | [d1, d2] => { results := [.lit (.bool false)], args := [d1, d2] }
  | _ => none }
def FnExactNewDeciderWrongFalsely : Prop := fnExactNewDeciderRow.holds Try.pinned (OpenSpec.ofChange fnExactNewDeciderWrong)

/-- 'laws.FnChoices': WHATEVER THE INPUT: true; the input reads as it did. -/
def fnChoicesSpec : ChangeSpec := { name := "fnChoices", fn := fun _ => fun
  | [d] => { results := [.lit (.bool true)], args := [d] }
  | _ => none }
def fnChoicesRow : OpenClaim := { program := "ytkjnachjeoeihaa", sum := "0ceb8896996ad6e24dd2e1c423a54fdc9da27d2555b90025d000a779351e97ce", func := "loop.example/g03414/laws.FnChoices", spec := "fnChoices", apart := false }
def FnChoicesSaid : Prop := fnChoicesRow.holds Try.pinned (OpenSpec.ofChange fnChoicesSpec)

/-- ITS FALSE NEIGHBOUR: 'it returns false'. Refute it at one input. -/
def fnChoicesWrong : ChangeSpec := { name := "fnChoices", fn := fun _ => fun
  | [d] => { results := [.lit (.bool false)], args := [d] }
  | _ => none }
def FnChoicesWrongFalsely : Prop := fnChoicesRow.holds Try.pinned (OpenSpec.ofChange fnChoicesWrong)

/-- 'laws.FnFlavors': WHATEVER THE INPUT: true; the input reads as it did. -/
def fnFlavorsSpec : ChangeSpec := { name := "fnFlavors", fn := fun _ => fun
  | [d] => { results := [.lit (.bool true)], args := [d] }
  | _ => none }
def fnFlavorsRow : OpenClaim := { program := "ytkjnachjeoeihaa", sum := "0ceb8896996ad6e24dd2e1c423a54fdc9da27d2555b90025d000a779351e97ce", func := "loop.example/g03414/laws.FnFlavors", spec := "fnFlavors", apart := false }
def FnFlavorsSaid : Prop := fnFlavorsRow.holds Try.pinned (OpenSpec.ofChange fnFlavorsSpec)

/-- ITS FALSE NEIGHBOUR: 'it returns false'. Refute it at one input. -/
def fnFlavorsWrong : ChangeSpec := { name := "fnFlavors", fn := fun _ => fun
  | [d] => { results := [.lit (.bool false)], args := [d] }
  | _ => none }
def FnFlavorsWrongFalsely : Prop := fnFlavorsRow.holds Try.pinned (OpenSpec.ofChange fnFlavorsWrong)

/-- 'laws.FnLayers': WHATEVER THE INPUT: true; the input reads as it did. -/
def fnLayersSpec : ChangeSpec := { name := "fnLayers", fn := fun _ => fun
  | [d] => { results := [.lit (.bool true)], args := [d] }
  | _ => none }
def fnLayersRow : OpenClaim := { program := "ytkjnachjeoeihaa", sum := "0ceb8896996ad6e24dd2e1c423a54fdc9da27d2555b90025d000a779351e97ce", func := "loop.example/g03414/laws.FnLayers", spec := "fnLayers", apart := false }
def FnLayersSaid : Prop := fnLayersRow.holds Try.pinned (OpenSpec.ofChange fnLayersSpec)

/-- ITS FALSE NEIGHBOUR: 'it returns false'. Refute it at one input. -/
def fnLayersWrong : ChangeSpec := { name := "fnLayers", fn := fun _ => fun
  | [d] => { results := [.lit (.bool false)], args := [d] }
  | _ => none }
def FnLayersWrongFalsely : Prop := fnLayersRow.holds Try.pinned (OpenSpec.ofChange fnLayersWrong)

/-- 'laws.FnMatches': WHATEVER THE INPUT: true; the input reads as it did. -/
def fnMatchesSpec : ChangeSpec := { name := "fnMatches", fn := fun _ => fun
  | [d] => { results := [.lit (.bool true)], args := [d] }
  | _ => none }
def fnMatchesRow : OpenClaim := { program := "ytkjnachjeoeihaa", sum := "0ceb8896996ad6e24dd2e1c423a54fdc9da27d2555b90025d000a779351e97ce", func := "loop.example/g03414/laws.FnMatches", spec := "fnMatches", apart := false }
def FnMatchesSaid : Prop := fnMatchesRow.holds Try.pinned (OpenSpec.ofChange fnMatchesSpec)

/-- ITS FALSE NEIGHBOUR: 'it returns false'. Refute it at one input. -/
def fnMatchesWrong : ChangeSpec := { name := "fnMatches", fn := fun _ => fun
  | [d] => { results := [.lit (.bool false)], args := [d] }
  | _ => none }
def FnMatchesWrongFalsely : Prop := fnMatchesRow.holds Try.pinned (OpenSpec.ofChange fnMatchesWrong)

/-- 'laws.FnHeldReports': WHATEVER THE INPUT: true; the input reads as it did. -/
def fnHeldReportsSpec : ChangeSpec := { name := "fnHeldReports", fn := fun _ => fun
  | [d] => { results := [.lit (.bool true)], args := [d] }
  | _ => none }
def fnHeldReportsRow : OpenClaim := { program := "ytkjnachjeoeihaa", sum := "0ceb8896996ad6e24dd2e1c423a54fdc9da27d2555b90025d000a779351e97ce", func := "loop.example/g03414/laws.FnHeldReports", spec := "fnHeldReports", recurses := true, apart := false }
def FnHeldReportsSaid : Prop := fnHeldReportsRow.holds Try.pinned (OpenSpec.ofChange fnHeldReportsSpec)

/-- ITS FALSE NEIGHBOUR: 'it returns false'. Refute it at one input. -/
def fnHeldReportsWrong : ChangeSpec := { name := "fnHeldReports", fn := fun _ => fun
  | [d] => { results := [.lit (.bool false)], args := [d] }
  | _ => none }
def FnHeldReportsWrongFalsely : Prop := fnHeldReportsRow.holds Try.pinned (OpenSpec.ofChange fnHeldReportsWrong)

/- THE SECOND FORM. 'bulk': how many values and letters a reading holds, each counted each time it is reached (what is shared counts as often as it is met; a slice's spare places count too). A statement '..UptoSaid' is the law's where the arguments, and the package variables that the reading takes, are together of bulk at most 1048576: NARROWER than '..Said'. Prove '..Said' where nothing that the law and all that it calls make is longer than what came in: it says more and counts as full. Else prove '..UptoSaid'. A law counts once. -/
mutual
def uptoBulk {H : Type} : DataW H → Nat
  | .lit (.string bytes) => bytes.length + 1
  | .lit _ => 1
  | .nil => 1
  | .ptr d => uptoBulk d + 1
  | .slice elems spare => uptoBulkAll elems + uptoBulkAll spare + 1
  | .agg parts => uptoBulkAll parts + 1
  | .iface _ d => uptoBulk d + 1
  | .map entries => uptoBulkEntries entries + 1
  | .held _ => 1
def uptoBulkAll {H : Type} : List (DataW H) → Nat
  | [] => 0
  | d :: r => uptoBulk d + uptoBulkAll r
def uptoBulkEntries {H : Type} : List (Lit × DataW H) → Nat
  | [] => 0
  | x :: r => uptoBulkEntry x + uptoBulkEntries r
def uptoBulkEntry {H : Type} : Lit × DataW H → Nat
  | (.string bytes, d) => bytes.length + uptoBulk d + 1
  | (_, d) => uptoBulk d + 1
 end
def uptoSmall : (H : Type) → List (DataW H) → Bool := fun _ ds => decide (uptoBulkAll ds ≤ 1048576)
def OpenSpec.upto (s : _root_.Go.ChangeSpec) : _root_.Go.OpenSpec := { _root_.Go.OpenSpec.ofChange s with cond := some uptoSmall }

/-- 'laws.FnExactNewDecider', WHERE WHAT IT READS IS OF BULK AT MOST 1048576: true; the input reads as it did. -/
def fnExactNewDeciderUptoRow : OpenClaim := { program := "ytkjnachjeoeihaa", sum := "0ceb8896996ad6e24dd2e1c423a54fdc9da27d2555b90025d000a779351e97ce", func := "loop.example/g03414/laws.FnExactNewDecider", spec := "fnExactNewDecider", apart := false, narrowed := true }
def FnExactNewDeciderUptoSaid : Prop := fnExactNewDeciderUptoRow.holds Try.pinned (OpenSpec.upto fnExactNewDeciderSpec)

/-- 'laws.FnChoices', WHERE WHAT IT READS IS OF BULK AT MOST 1048576: true; the input reads as it did. -/
def fnChoicesUptoRow : OpenClaim := { program := "ytkjnachjeoeihaa", sum := "0ceb8896996ad6e24dd2e1c423a54fdc9da27d2555b90025d000a779351e97ce", func := "loop.example/g03414/laws.FnChoices", spec := "fnChoices", apart := false, narrowed := true }
def FnChoicesUptoSaid : Prop := fnChoicesUptoRow.holds Try.pinned (OpenSpec.upto fnChoicesSpec)

/-- 'laws.FnFlavors', WHERE WHAT IT READS IS OF BULK AT MOST 1048576: true; the input reads as it did. -/
def fnFlavorsUptoRow : OpenClaim := { program := "ytkjnachjeoeihaa", sum := "0ceb8896996ad6e24dd2e1c423a54fdc9da27d2555b90025d000a779351e97ce", func := "loop.example/g03414/laws.FnFlavors", spec := "fnFlavors", apart := false, narrowed := true }
def FnFlavorsUptoSaid : Prop := fnFlavorsUptoRow.holds Try.pinned (OpenSpec.upto fnFlavorsSpec)

/-- 'laws.FnLayers', WHERE WHAT IT READS IS OF BULK AT MOST 1048576: true; the input reads as it did. -/
def fnLayersUptoRow : OpenClaim := { program := "ytkjnachjeoeihaa", sum := "0ceb8896996ad6e24dd2e1c423a54fdc9da27d2555b90025d000a779351e97ce", func := "loop.example/g03414/laws.FnLayers", spec := "fnLayers", apart := false, narrowed := true }
def FnLayersUptoSaid : Prop := fnLayersUptoRow.holds Try.pinned (OpenSpec.upto fnLayersSpec)

/-- 'laws.FnMatches', WHERE WHAT IT READS IS OF BULK AT MOST 1048576: true; the input reads as it did. -/
def fnMatchesUptoRow : OpenClaim := { program := "ytkjnachjeoeihaa", sum := "0ceb8896996ad6e24dd2e1c423a54fdc9da27d2555b90025d000a779351e97ce", func := "loop.example/g03414/laws.FnMatches", spec := "fnMatches", apart := false, narrowed := true }
def FnMatchesUptoSaid : Prop := fnMatchesUptoRow.holds Try.pinned (OpenSpec.upto fnMatchesSpec)

/-- 'laws.FnHeldReports', WHERE WHAT IT READS IS OF BULK AT MOST 1048576: true; the input reads as it did. -/
def fnHeldReportsUptoRow : OpenClaim := { program := "ytkjnachjeoeihaa", sum := "0ceb8896996ad6e24dd2e1c423a54fdc9da27d2555b90025d000a779351e97ce", func := "loop.example/g03414/laws.FnHeldReports", spec := "fnHeldReports", recurses := true, apart := false, narrowed := true }
def FnHeldReportsUptoSaid : Prop := fnHeldReportsUptoRow.holds Try.pinned (OpenSpec.upto fnHeldReportsSpec)

end Rows
end Go.Proofs.Ytkjnachjeoeihaa
