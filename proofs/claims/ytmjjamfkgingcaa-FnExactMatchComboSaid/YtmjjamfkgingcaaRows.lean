/-
  No cell of these rows narrows 'for every input' (looked for: loops, veiled, ifaces, maps, wideKeys, modest, calm, conditions, laid).
  DERIVED. THE GIVEN ROWS OF THIS SEAT. 12 by the template 'for every input the law returns true; each argument reads behind the call as it read before'; 0 by the template 'total and deterministic' (their statements: YtmjjamfkgingcaaTotals.lean).
  GIVEN WITH THE SEED: the statements are not yours to turn. If you find one false, say at which input.
  Laid BY PROGRAM, IN A SANDBOX (cutbox-rows.mjs): the forced cells as the released guide's own fill.sh prints them over the translation 77270cf9e4035cf6… (all of the seat's roots in one cut). By AI agents, Wed Nov 11 2026. No macro, syntax, notation, axiom, sorry.
-/
import Derived.Test.YtmjjamfkgingcaaChecked
import GoSem.Claim
import GoSem.ClaimJoined
import GoSem.ClaimMapViews
import Derived.JoinedTies
import Derived.KernelRfl
namespace Go.Proofs.Ytmjjamfkgingcaa
/- THE CELL 'sum', in the pinned program and in every row, IS THE sha256 OF THE DUMP (.gsa) THAT YtmjjamfkgingcaaProg.lean LOADS. Nothing in Lean hashes anything: it is a label: what it is worth is what the hold of that sum in a sandbox is worth. -/
noncomputable def Try.pinned : Pinned := { name := "ytmjjamfkgingcaa", sum := "77270cf9e4035cf62823eed04fcc42cc4a7dff1783b55ce5d31b3e4a78cfa8b7", checked := Try.checked }
namespace Rows
def none {H : Type} : Left H := { results := [], args := [] }

/-- 'laws.FnExactUnpackAction': WHATEVER THE INPUT: true; the input reads as it did. -/
def fnExactUnpackActionSpec : ChangeSpec := { name := "fnExactUnpackAction", fn := fun _ => fun
  | [d] => { results := [.lit (.bool true)], args := [d] }
  | _ => none }
def fnExactUnpackActionRow : OpenClaim := { program := "ytmjjamfkgingcaa", sum := "77270cf9e4035cf62823eed04fcc42cc4a7dff1783b55ce5d31b3e4a78cfa8b7", func := "loop.example/g03414/laws.FnExactUnpackAction", spec := "fnExactUnpackAction", apart := false }
def FnExactUnpackActionSaid : Prop := fnExactUnpackActionRow.holds Try.pinned (OpenSpec.ofChange fnExactUnpackActionSpec)

/-- ITS FALSE NEIGHBOUR: 'it returns false'. Refute it at one input. -/
def fnExactUnpackActionWrong : ChangeSpec := { name := "fnExactUnpackAction", fn := fun _ => fun
  | [d] => { results := [.lit (.bool false)], args := [d] }
  | _ => none }
def FnExactUnpackActionWrongFalsely : Prop := fnExactUnpackActionRow.holds Try.pinned (OpenSpec.ofChange fnExactUnpackActionWrong)

/-- 'laws.FnExactIsCombos': WHATEVER THE INPUT: true; the input reads as it did. -/
def fnExactIsCombosSpec : ChangeSpec := { name := "fnExactIsCombos", fn := fun _ => fun
  | [d] => { results := [.lit (.bool true)], args := [d] }
  | _ => none }
def fnExactIsCombosRow : OpenClaim := { program := "ytmjjamfkgingcaa", sum := "77270cf9e4035cf62823eed04fcc42cc4a7dff1783b55ce5d31b3e4a78cfa8b7", func := "loop.example/g03414/laws.FnExactIsCombos", spec := "fnExactIsCombos", apart := false }
def FnExactIsCombosSaid : Prop := fnExactIsCombosRow.holds Try.pinned (OpenSpec.ofChange fnExactIsCombosSpec)

/-- ITS FALSE NEIGHBOUR: 'it returns false'. Refute it at one input. -/
def fnExactIsCombosWrong : ChangeSpec := { name := "fnExactIsCombos", fn := fun _ => fun
  | [d] => { results := [.lit (.bool false)], args := [d] }
  | _ => none }
def FnExactIsCombosWrongFalsely : Prop := fnExactIsCombosRow.holds Try.pinned (OpenSpec.ofChange fnExactIsCombosWrong)

/-- 'laws.FnExactChoiceOf': WHATEVER THE INPUT: true; the input reads as it did. -/
def fnExactChoiceOfSpec : ChangeSpec := { name := "fnExactChoiceOf", fn := fun _ => fun
  | [d1, d2, d3, d4, d5] => { results := [.lit (.bool true)], args := [d1, d2, d3, d4, d5] }
  | _ => none }
def fnExactChoiceOfRow : OpenClaim := { program := "ytmjjamfkgingcaa", sum := "77270cf9e4035cf62823eed04fcc42cc4a7dff1783b55ce5d31b3e4a78cfa8b7", func := "loop.example/g03414/laws.FnExactChoiceOf", spec := "fnExactChoiceOf", apart := false }
def FnExactChoiceOfSaid : Prop := fnExactChoiceOfRow.holds Try.pinned (OpenSpec.ofChange fnExactChoiceOfSpec)

/-- ITS FALSE NEIGHBOUR: 'it returns false'. Refute it at one input. -/
def fnExactChoiceOfWrong : ChangeSpec := { name := "fnExactChoiceOf", fn := fun _ => fun
  | [d1, d2, d3, d4, d5] => { results := [.lit (.bool false)], args := [d1, d2, d3, d4, d5] }
  | _ => none }
def FnExactChoiceOfWrongFalsely : Prop := fnExactChoiceOfRow.holds Try.pinned (OpenSpec.ofChange fnExactChoiceOfWrong)

/-- 'laws.FnExactIsHeld': WHATEVER THE INPUT: true; the input reads as it did. -/
def fnExactIsHeldSpec : ChangeSpec := { name := "fnExactIsHeld", fn := fun _ => fun
  | [d] => { results := [.lit (.bool true)], args := [d] }
  | _ => none }
def fnExactIsHeldRow : OpenClaim := { program := "ytmjjamfkgingcaa", sum := "77270cf9e4035cf62823eed04fcc42cc4a7dff1783b55ce5d31b3e4a78cfa8b7", func := "loop.example/g03414/laws.FnExactIsHeld", spec := "fnExactIsHeld", apart := false }
def FnExactIsHeldSaid : Prop := fnExactIsHeldRow.holds Try.pinned (OpenSpec.ofChange fnExactIsHeldSpec)

/-- ITS FALSE NEIGHBOUR: 'it returns false'. Refute it at one input. -/
def fnExactIsHeldWrong : ChangeSpec := { name := "fnExactIsHeld", fn := fun _ => fun
  | [d] => { results := [.lit (.bool false)], args := [d] }
  | _ => none }
def FnExactIsHeldWrongFalsely : Prop := fnExactIsHeldRow.holds Try.pinned (OpenSpec.ofChange fnExactIsHeldWrong)

/-- 'laws.FnExactSameSent': WHATEVER THE INPUT: true; the input reads as it did. -/
def fnExactSameSentSpec : ChangeSpec := { name := "fnExactSameSent", fn := fun _ => fun
  | [d1, d2] => { results := [.lit (.bool true)], args := [d1, d2] }
  | _ => none }
def fnExactSameSentRow : OpenClaim := { program := "ytmjjamfkgingcaa", sum := "77270cf9e4035cf62823eed04fcc42cc4a7dff1783b55ce5d31b3e4a78cfa8b7", func := "loop.example/g03414/laws.FnExactSameSent", spec := "fnExactSameSent", apart := false }
def FnExactSameSentSaid : Prop := fnExactSameSentRow.holds Try.pinned (OpenSpec.ofChange fnExactSameSentSpec)

/-- ITS FALSE NEIGHBOUR: 'it returns false'. Refute it at one input. -/
def fnExactSameSentWrong : ChangeSpec := { name := "fnExactSameSent", fn := fun _ => fun
  | [d1, d2] => { results := [.lit (.bool false)], args := [d1, d2] }
  | _ => none }
def FnExactSameSentWrongFalsely : Prop := fnExactSameSentRow.holds Try.pinned (OpenSpec.ofChange fnExactSameSentWrong)

/-- 'laws.FnExactLayersOn': WHATEVER THE INPUT: true; the input reads as it did. -/
def fnExactLayersOnSpec : ChangeSpec := { name := "fnExactLayersOn", fn := fun _ => fun
  | [d1, d2] => { results := [.lit (.bool true)], args := [d1, d2] }
  | _ => none }
def fnExactLayersOnRow : OpenClaim := { program := "ytmjjamfkgingcaa", sum := "77270cf9e4035cf62823eed04fcc42cc4a7dff1783b55ce5d31b3e4a78cfa8b7", func := "loop.example/g03414/laws.FnExactLayersOn", spec := "fnExactLayersOn", apart := false }
def FnExactLayersOnSaid : Prop := fnExactLayersOnRow.holds Try.pinned (OpenSpec.ofChange fnExactLayersOnSpec)

/-- ITS FALSE NEIGHBOUR: 'it returns false'. Refute it at one input. -/
def fnExactLayersOnWrong : ChangeSpec := { name := "fnExactLayersOn", fn := fun _ => fun
  | [d1, d2] => { results := [.lit (.bool false)], args := [d1, d2] }
  | _ => none }
def FnExactLayersOnWrongFalsely : Prop := fnExactLayersOnRow.holds Try.pinned (OpenSpec.ofChange fnExactLayersOnWrong)

/-- 'laws.FnExactIsKeymap': WHATEVER THE INPUT: true; the input reads as it did. -/
def fnExactIsKeymapSpec : ChangeSpec := { name := "fnExactIsKeymap", fn := fun _ => fun
  | [d] => { results := [.lit (.bool true)], args := [d] }
  | _ => none }
def fnExactIsKeymapRow : OpenClaim := { program := "ytmjjamfkgingcaa", sum := "77270cf9e4035cf62823eed04fcc42cc4a7dff1783b55ce5d31b3e4a78cfa8b7", func := "loop.example/g03414/laws.FnExactIsKeymap", spec := "fnExactIsKeymap", apart := false }
def FnExactIsKeymapSaid : Prop := fnExactIsKeymapRow.holds Try.pinned (OpenSpec.ofChange fnExactIsKeymapSpec)

/-- ITS FALSE NEIGHBOUR: 'it returns false'. Refute it at one input. -/
def fnExactIsKeymapWrong : ChangeSpec := { name := "fnExactIsKeymap", fn := fun _ => fun
  | [d] => { results := [.lit (.bool false)], args := [d] }
  | _ => none }
def FnExactIsKeymapWrongFalsely : Prop := fnExactIsKeymapRow.holds Try.pinned (OpenSpec.ofChange fnExactIsKeymapWrong)

/-- 'laws.FnExactLayerAt': WHATEVER THE INPUT: true; the input reads as it did. -/
def fnExactLayerAtSpec : ChangeSpec := { name := "fnExactLayerAt", fn := fun _ => fun
  | [d1, d2, d3] => { results := [.lit (.bool true)], args := [d1, d2, d3] }
  | _ => none }
def fnExactLayerAtRow : OpenClaim := { program := "ytmjjamfkgingcaa", sum := "77270cf9e4035cf62823eed04fcc42cc4a7dff1783b55ce5d31b3e4a78cfa8b7", func := "loop.example/g03414/laws.FnExactLayerAt", spec := "fnExactLayerAt", apart := false }
def FnExactLayerAtSaid : Prop := fnExactLayerAtRow.holds Try.pinned (OpenSpec.ofChange fnExactLayerAtSpec)

/-- ITS FALSE NEIGHBOUR: 'it returns false'. Refute it at one input. -/
def fnExactLayerAtWrong : ChangeSpec := { name := "fnExactLayerAt", fn := fun _ => fun
  | [d1, d2, d3] => { results := [.lit (.bool false)], args := [d1, d2, d3] }
  | _ => none }
def FnExactLayerAtWrongFalsely : Prop := fnExactLayerAtRow.holds Try.pinned (OpenSpec.ofChange fnExactLayerAtWrong)

/-- 'laws.FnExactActionAt': WHATEVER THE INPUT: true; the input reads as it did. -/
def fnExactActionAtSpec : ChangeSpec := { name := "fnExactActionAt", fn := fun _ => fun
  | [d1, d2, d3] => { results := [.lit (.bool true)], args := [d1, d2, d3] }
  | _ => none }
def fnExactActionAtRow : OpenClaim := { program := "ytmjjamfkgingcaa", sum := "77270cf9e4035cf62823eed04fcc42cc4a7dff1783b55ce5d31b3e4a78cfa8b7", func := "loop.example/g03414/laws.FnExactActionAt", spec := "fnExactActionAt", apart := false }
def FnExactActionAtSaid : Prop := fnExactActionAtRow.holds Try.pinned (OpenSpec.ofChange fnExactActionAtSpec)

/-- ITS FALSE NEIGHBOUR: 'it returns false'. Refute it at one input. -/
def fnExactActionAtWrong : ChangeSpec := { name := "fnExactActionAt", fn := fun _ => fun
  | [d1, d2, d3] => { results := [.lit (.bool false)], args := [d1, d2, d3] }
  | _ => none }
def FnExactActionAtWrongFalsely : Prop := fnExactActionAtRow.holds Try.pinned (OpenSpec.ofChange fnExactActionAtWrong)

/-- 'laws.FnExactHeldAt': WHATEVER THE INPUT: true; the input reads as it did. -/
def fnExactHeldAtSpec : ChangeSpec := { name := "fnExactHeldAt", fn := fun _ => fun
  | [d1, d2] => { results := [.lit (.bool true)], args := [d1, d2] }
  | _ => none }
def fnExactHeldAtRow : OpenClaim := { program := "ytmjjamfkgingcaa", sum := "77270cf9e4035cf62823eed04fcc42cc4a7dff1783b55ce5d31b3e4a78cfa8b7", func := "loop.example/g03414/laws.FnExactHeldAt", spec := "fnExactHeldAt", apart := false }
def FnExactHeldAtSaid : Prop := fnExactHeldAtRow.holds Try.pinned (OpenSpec.ofChange fnExactHeldAtSpec)

/-- ITS FALSE NEIGHBOUR: 'it returns false'. Refute it at one input. -/
def fnExactHeldAtWrong : ChangeSpec := { name := "fnExactHeldAt", fn := fun _ => fun
  | [d1, d2] => { results := [.lit (.bool false)], args := [d1, d2] }
  | _ => none }
def FnExactHeldAtWrongFalsely : Prop := fnExactHeldAtRow.holds Try.pinned (OpenSpec.ofChange fnExactHeldAtWrong)

/-- 'laws.FnExactMatchCombo': WHATEVER THE INPUT: true; the input reads as it did. -/
def fnExactMatchComboSpec : ChangeSpec := { name := "fnExactMatchCombo", fn := fun _ => fun
  | [d1, d2, d3, d4] => { results := [.lit (.bool true)], args := [d1, d2, d3, d4] }
  | _ => none }
def fnExactMatchComboRow : OpenClaim := { program := "ytmjjamfkgingcaa", sum := "77270cf9e4035cf62823eed04fcc42cc4a7dff1783b55ce5d31b3e4a78cfa8b7", func := "loop.example/g03414/laws.FnExactMatchCombo", spec := "fnExactMatchCombo", apart := false }
def FnExactMatchComboSaid : Prop := fnExactMatchComboRow.holds Try.pinned (OpenSpec.ofChange fnExactMatchComboSpec)

/-- ITS FALSE NEIGHBOUR: 'it returns false'. Refute it at one input. -/
def fnExactMatchComboWrong : ChangeSpec := { name := "fnExactMatchCombo", fn := fun _ => fun
  | [d1, d2, d3, d4] => { results := [.lit (.bool false)], args := [d1, d2, d3, d4] }
  | _ => none }
def FnExactMatchComboWrongFalsely : Prop := fnExactMatchComboRow.holds Try.pinned (OpenSpec.ofChange fnExactMatchComboWrong)

/-- 'laws.FnExactIsMacro': WHATEVER THE INPUT: true; the input reads as it did. -/
def fnExactIsMacroSpec : ChangeSpec := { name := "fnExactIsMacro", fn := fun _ => fun
  | [d] => { results := [.lit (.bool true)], args := [d] }
  | _ => none }
def fnExactIsMacroRow : OpenClaim := { program := "ytmjjamfkgingcaa", sum := "77270cf9e4035cf62823eed04fcc42cc4a7dff1783b55ce5d31b3e4a78cfa8b7", func := "loop.example/g03414/laws.FnExactIsMacro", spec := "fnExactIsMacro", apart := false }
def FnExactIsMacroSaid : Prop := fnExactIsMacroRow.holds Try.pinned (OpenSpec.ofChange fnExactIsMacroSpec)

/-- ITS FALSE NEIGHBOUR: 'it returns false'. Refute it at one input. -/
def fnExactIsMacroWrong : ChangeSpec := { name := "fnExactIsMacro", fn := fun _ => fun
  | [d] => { results := [.lit (.bool false)], args := [d] }
  | _ => none }
def FnExactIsMacroWrongFalsely : Prop := fnExactIsMacroRow.holds Try.pinned (OpenSpec.ofChange fnExactIsMacroWrong)

/- THE SECOND FORM. 'bulk': how many values and letters a reading holds, each counted each time it is reached (what is shared counts as often as it is met; a slice's spare places count too). A statement '..UptoSaid' is the law's where the arguments, and the package variables that the reading takes, are together of bulk at most 1048576: NARROWER than '..Said'. Prove '..Said' where nothing that the law and all that it calls make is longer than what came in: it says more and counts as full. Else prove '..UptoSaid'. A law counts once. -/
mutual
def uptoBulk {H : Type} : DataW H → Nat
  | .lit (.string bytes) => bytes.length + 1
  | .lit _ => 1
  | .nil => 1
  | .ptr d => uptoBulk d + 1
  | .slice elems spare => uptoBulkAll elems + uptoBulkAll spare + 1
  | .agg parts => uptoBulkAll parts + 1
  | .iface _ d => uptoBulk d + 1
  | .map entries => uptoBulkEntries entries + 1
  | .held _ => 1
def uptoBulkAll {H : Type} : List (DataW H) → Nat
  | [] => 0
  | d :: r => uptoBulk d + uptoBulkAll r
def uptoBulkEntries {H : Type} : List (Lit × DataW H) → Nat
  | [] => 0
  | x :: r => uptoBulkEntry x + uptoBulkEntries r
def uptoBulkEntry {H : Type} : Lit × DataW H → Nat
  | (.string bytes, d) => bytes.length + uptoBulk d + 1
  | (_, d) => uptoBulk d + 1
 end
def uptoSmall : (H : Type) → List (DataW H) → Bool := fun _ ds => decide (uptoBulkAll ds ≤ 1048576)
def OpenSpec.upto (s : _root_.Go.ChangeSpec) : _root_.Go.OpenSpec := { _root_.Go.OpenSpec.ofChange s with cond := some uptoSmall }

/-- 'laws.FnExactUnpackAction', WHERE WHAT IT READS IS OF BULK AT MOST 1048576: true; the input reads as it did. -/
def fnExactUnpackActionUptoRow : OpenClaim := { program := "ytmjjamfkgingcaa", sum := "77270cf9e4035cf62823eed04fcc42cc4a7dff1783b55ce5d31b3e4a78cfa8b7", func := "loop.example/g03414/laws.FnExactUnpackAction", spec := "fnExactUnpackAction", apart := false, narrowed := true }
def FnExactUnpackActionUptoSaid : Prop := fnExactUnpackActionUptoRow.holds Try.pinned (OpenSpec.upto fnExactUnpackActionSpec)

/-- 'laws.FnExactIsCombos', WHERE WHAT IT READS IS OF BULK AT MOST 1048576: true; the input reads as it did. -/
def fnExactIsCombosUptoRow : OpenClaim := { program := "ytmjjamfkgingcaa", sum := "77270cf9e4035cf62823eed04fcc42cc4a7dff1783b55ce5d31b3e4a78cfa8b7", func := "loop.example/g03414/laws.FnExactIsCombos", spec := "fnExactIsCombos", apart := false, narrowed := true }
def FnExactIsCombosUptoSaid : Prop := fnExactIsCombosUptoRow.holds Try.pinned (OpenSpec.upto fnExactIsCombosSpec)

/-- 'laws.FnExactChoiceOf', WHERE WHAT IT READS IS OF BULK AT MOST 1048576: true; the input reads as it did. -/
def fnExactChoiceOfUptoRow : OpenClaim := { program := "ytmjjamfkgingcaa", sum := "77270cf9e4035cf62823eed04fcc42cc4a7dff1783b55ce5d31b3e4a78cfa8b7", func := "loop.example/g03414/laws.FnExactChoiceOf", spec := "fnExactChoiceOf", apart := false, narrowed := true }
def FnExactChoiceOfUptoSaid : Prop := fnExactChoiceOfUptoRow.holds Try.pinned (OpenSpec.upto fnExactChoiceOfSpec)

/-- 'laws.FnExactIsHeld', WHERE WHAT IT READS IS OF BULK AT MOST 1048576: true; the input reads as it did. -/
def fnExactIsHeldUptoRow : OpenClaim := { program := "ytmjjamfkgingcaa", sum := "77270cf9e4035cf62823eed04fcc42cc4a7dff1783b55ce5d31b3e4a78cfa8b7", func := "loop.example/g03414/laws.FnExactIsHeld", spec := "fnExactIsHeld", apart := false, narrowed := true }
def FnExactIsHeldUptoSaid : Prop := fnExactIsHeldUptoRow.holds Try.pinned (OpenSpec.upto fnExactIsHeldSpec)

/-- 'laws.FnExactSameSent', WHERE WHAT IT READS IS OF BULK AT MOST 1048576: true; the input reads as it did. -/
def fnExactSameSentUptoRow : OpenClaim := { program := "ytmjjamfkgingcaa", sum := "77270cf9e4035cf62823eed04fcc42cc4a7dff1783b55ce5d31b3e4a78cfa8b7", func := "loop.example/g03414/laws.FnExactSameSent", spec := "fnExactSameSent", apart := false, narrowed := true }
def FnExactSameSentUptoSaid : Prop := fnExactSameSentUptoRow.holds Try.pinned (OpenSpec.upto fnExactSameSentSpec)

/-- 'laws.FnExactLayersOn', WHERE WHAT IT READS IS OF BULK AT MOST 1048576: true; the input reads as it did. -/
def fnExactLayersOnUptoRow : OpenClaim := { program := "ytmjjamfkgingcaa", sum := "77270cf9e4035cf62823eed04fcc42cc4a7dff1783b55ce5d31b3e4a78cfa8b7", func := "loop.example/g03414/laws.FnExactLayersOn", spec := "fnExactLayersOn", apart := false, narrowed := true }
def FnExactLayersOnUptoSaid : Prop := fnExactLayersOnUptoRow.holds Try.pinned (OpenSpec.upto fnExactLayersOnSpec)

/-- 'laws.FnExactIsKeymap', WHERE WHAT IT READS IS OF BULK AT MOST 1048576: true; the input reads as it did. -/
def fnExactIsKeymapUptoRow : OpenClaim := { program := "ytmjjamfkgingcaa", sum := "77270cf9e4035cf62823eed04fcc42cc4a7dff1783b55ce5d31b3e4a78cfa8b7", func := "loop.example/g03414/laws.FnExactIsKeymap", spec := "fnExactIsKeymap", apart := false, narrowed := true }
def FnExactIsKeymapUptoSaid : Prop := fnExactIsKeymapUptoRow.holds Try.pinned (OpenSpec.upto fnExactIsKeymapSpec)

/-- 'laws.FnExactLayerAt', WHERE WHAT IT READS IS OF BULK AT MOST 1048576: true; the input reads as it did. -/
def fnExactLayerAtUptoRow : OpenClaim := { program := "ytmjjamfkgingcaa", sum := "77270cf9e4035cf62823eed04fcc42cc4a7dff1783b55ce5d31b3e4a78cfa8b7", func := "loop.example/g03414/laws.FnExactLayerAt", spec := "fnExactLayerAt", apart := false, narrowed := true }
def FnExactLayerAtUptoSaid : Prop := fnExactLayerAtUptoRow.holds Try.pinned (OpenSpec.upto fnExactLayerAtSpec)

/-- 'laws.FnExactActionAt', WHERE WHAT IT READS IS OF BULK AT MOST 1048576: true; the input reads as it did. -/
def fnExactActionAtUptoRow : OpenClaim := { program := "ytmjjamfkgingcaa", sum := "77270cf9e4035cf62823eed04fcc42cc4a7dff1783b55ce5d31b3e4a78cfa8b7", func := "loop.example/g03414/laws.FnExactActionAt", spec := "fnExactActionAt", apart := false, narrowed := true }
def FnExactActionAtUptoSaid : Prop := fnExactActionAtUptoRow.holds Try.pinned (OpenSpec.upto fnExactActionAtSpec)

/-- 'laws.FnExactHeldAt', WHERE WHAT IT READS IS OF BULK AT MOST 1048576: true; the input reads as it did. -/
def fnExactHeldAtUptoRow : OpenClaim := { program := "ytmjjamfkgingcaa", sum := "77270cf9e4035cf62823eed04fcc42cc4a7dff1783b55ce5d31b3e4a78cfa8b7", func := "loop.example/g03414/laws.FnExactHeldAt", spec := "fnExactHeldAt", apart := false, narrowed := true }
def FnExactHeldAtUptoSaid : Prop := fnExactHeldAtUptoRow.holds Try.pinned (OpenSpec.upto fnExactHeldAtSpec)

/-- 'laws.FnExactMatchCombo', WHERE WHAT IT READS IS OF BULK AT MOST 1048576: true; the input reads as it did. -/
def fnExactMatchComboUptoRow : OpenClaim := { program := "ytmjjamfkgingcaa", sum := "77270cf9e4035cf62823eed04fcc42cc4a7dff1783b55ce5d31b3e4a78cfa8b7", func := "loop.example/g03414/laws.FnExactMatchCombo", spec := "fnExactMatchCombo", apart := false, narrowed := true }
def FnExactMatchComboUptoSaid : Prop := fnExactMatchComboUptoRow.holds Try.pinned (OpenSpec.upto fnExactMatchComboSpec)

/-- 'laws.FnExactIsMacro', WHERE WHAT IT READS IS OF BULK AT MOST 1048576: true; the input reads as it did. -/
def fnExactIsMacroUptoRow : OpenClaim := { program := "ytmjjamfkgingcaa", sum := "77270cf9e4035cf62823eed04fcc42cc4a7dff1783b55ce5d31b3e4a78cfa8b7", func := "loop.example/g03414/laws.FnExactIsMacro", spec := "fnExactIsMacro", apart := false, narrowed := true }
def FnExactIsMacroUptoSaid : Prop := fnExactIsMacroUptoRow.holds Try.pinned (OpenSpec.upto fnExactIsMacroSpec)

end Rows
end Go.Proofs.Ytmjjamfkgingcaa
