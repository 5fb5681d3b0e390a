/-
  No cell of these rows narrows 'for every input' (looked for: loops, veiled, ifaces, maps, wideKeys, modest, calm, conditions, laid).
  DERIVED. THE GIVEN ROWS OF THIS SEAT. 3 by the template 'for every input the law returns true; each argument reads behind the call as it read before'; 0 by the template 'total and deterministic' (their statements: YtbkpfpcnjpggaaaTotals.lean).
  GIVEN WITH THE SEED: the statements are not yours to turn. If you find one false, say at which input.
  Laid BY PROGRAM, IN A SANDBOX (cutbox-rows.mjs): the forced cells as the released guide's own fill.sh prints them over the translation 2efbf5dbcc50d681… (all of the seat's roots in one cut). By AI agents, Wed Nov 11 2026. No macro, syntax, notation, axiom, sorry.
-/
import Derived.Test.YtbkpfpcnjpggaaaChecked
import GoSem.Claim
import GoSem.ClaimJoined
import GoSem.ClaimMapViews
import Derived.JoinedTies
import Derived.KernelRfl
namespace Go.Proofs.Ytbkpfpcnjpggaaa
/- THE CELL 'sum', in the pinned program and in every row, IS THE sha256 OF THE DUMP (.gsa) THAT YtbkpfpcnjpggaaaProg.lean LOADS. Nothing in Lean hashes anything: it is a label: what it is worth is what the hold of that sum in a sandbox is worth. -/
noncomputable def Try.pinned : Pinned := { name := "ytbkpfpcnjpggaaa", sum := "2efbf5dbcc50d681f56b0074d57567a266b9f36969be2be363152f2982f6a890", checked := Try.checked }
namespace Rows
def none {H : Type} : Left H := { results := [], args := [] }

/-- 'laws.FnLayers': WHATEVER THE INPUT: true; the input reads as it did. -/
def fnLayersSpec : ChangeSpec := { name := "fnLayers", fn := fun _ => fun
  | [d] => { results := [.lit (.bool true)], args := [d] }
  | _ => none }
def fnLayersRow : OpenClaim := { program := "ytbkpfpcnjpggaaa", sum := "2efbf5dbcc50d681f56b0074d57567a266b9f36969be2be363152f2982f6a890", func := "loop.example/g03414/laws.FnLayers", spec := "fnLayers", apart := false }
def FnLayersSaid : Prop := fnLayersRow.holds Try.pinned (OpenSpec.ofChange fnLayersSpec)

/-- ITS FALSE NEIGHBOUR: 'it returns false'. Refute it at one input. -/
def fnLayersWrong : ChangeSpec := { name := "fnLayers", fn := fun _ => fun
  | [d] => { results := [.lit (.bool false)], args := [d] }
  | _ => none }
def FnLayersWrongFalsely : Prop := fnLayersRow.holds Try.pinned (OpenSpec.ofChange fnLayersWrong)

/-- 'laws.FnNothingStays': WHATEVER THE INPUT: true; the input reads as it did. -/
def fnNothingStaysSpec : ChangeSpec := { name := "fnNothingStays", fn := fun _ => fun
  | [d] => { results := [.lit (.bool true)], args := [d] }
  | _ => none }
def fnNothingStaysRow : OpenClaim := { program := "ytbkpfpcnjpggaaa", sum := "2efbf5dbcc50d681f56b0074d57567a266b9f36969be2be363152f2982f6a890", func := "loop.example/g03414/laws.FnNothingStays", spec := "fnNothingStays", recurses := true, apart := false }
def FnNothingStaysSaid : Prop := fnNothingStaysRow.holds Try.pinned (OpenSpec.ofChange fnNothingStaysSpec)

/-- ITS FALSE NEIGHBOUR: 'it returns false'. Refute it at one input. -/
def fnNothingStaysWrong : ChangeSpec := { name := "fnNothingStays", fn := fun _ => fun
  | [d] => { results := [.lit (.bool false)], args := [d] }
  | _ => none }
def FnNothingStaysWrongFalsely : Prop := fnNothingStaysRow.holds Try.pinned (OpenSpec.ofChange fnNothingStaysWrong)

/-- 'laws.FnCaps': WHATEVER THE INPUT: true; the input reads as it did. -/
def fnCapsSpec : ChangeSpec := { name := "fnCaps", fn := fun _ => fun
  | [d] => { results := [.lit (.bool true)], args := [d] }
  | _ => none }
def fnCapsRow : OpenClaim := { program := "ytbkpfpcnjpggaaa", sum := "2efbf5dbcc50d681f56b0074d57567a266b9f36969be2be363152f2982f6a890", func := "loop.example/g03414/laws.FnCaps", spec := "fnCaps", recurses := true, apart := false }
def FnCapsSaid : Prop := fnCapsRow.holds Try.pinned (OpenSpec.ofChange fnCapsSpec)

/-- ITS FALSE NEIGHBOUR: 'it returns false'. Refute it at one input. -/
def fnCapsWrong : ChangeSpec := { name := "fnCaps", fn := fun _ => fun
  | [d] => { results := [.lit (.bool false)], args := [d] }
  | _ => none }
def FnCapsWrongFalsely : Prop := fnCapsRow.holds Try.pinned (OpenSpec.ofChange fnCapsWrong)

/- THE SECOND FORM. 'bulk': how many values and letters a reading holds, each counted each time it is reached (what is shared counts as often as it is met; a slice's spare places count too). A statement '..UptoSaid' is the law's where the arguments, and the package variables that the reading takes, are together of bulk at most 1048576: NARROWER than '..Said'. Prove '..Said' where nothing that the law and all that it calls make is longer than what came in: it says more and counts as full. Else prove '..UptoSaid'. A law counts once. -/
mutual
def uptoBulk {H : Type} : DataW H → Nat
  | .lit (.string bytes) => bytes.length + 1
  | .lit _ => 1
  | .nil => 1
  | .ptr d => uptoBulk d + 1
  | .slice elems spare => uptoBulkAll elems + uptoBulkAll spare + 1
  | .agg parts => uptoBulkAll parts + 1
  | .iface _ d => uptoBulk d + 1
  | .map entries => uptoBulkEntries entries + 1
  | .held _ => 1
def uptoBulkAll {H : Type} : List (DataW H) → Nat
  | [] => 0
  | d :: r => uptoBulk d + uptoBulkAll r
def uptoBulkEntries {H : Type} : List (Lit × DataW H) → Nat
  | [] => 0
  | x :: r => uptoBulkEntry x + uptoBulkEntries r
def uptoBulkEntry {H : Type} : Lit × DataW H → Nat
  | (.string bytes, d) => bytes.length + uptoBulk d + 1
  | (_, d) => uptoBulk d + 1
 end
def uptoSmall : (H : Type) → List (DataW H) → Bool := fun _ ds => decide (uptoBulkAll ds ≤ 1048576)
def OpenSpec.upto (s : _root_.Go.ChangeSpec) : _root_.Go.OpenSpec := { _root_.Go.OpenSpec.ofChange s with cond := some uptoSmall }

/-- 'laws.FnLayers', WHERE WHAT IT READS IS OF BULK AT MOST 1048576: true; the input reads as it did. -/
def fnLayersUptoRow : OpenClaim := { program := "ytbkpfpcnjpggaaa", sum := "2efbf5dbcc50d681f56b0074d57567a266b9f36969be2be363152f2982f6a890", func := "loop.example/g03414/laws.FnLayers", spec := "fnLayers", apart := false, narrowed := true }
def FnLayersUptoSaid : Prop := fnLayersUptoRow.holds Try.pinned (OpenSpec.upto fnLayersSpec)

/-- 'laws.FnNothingStays', WHERE WHAT IT READS IS OF BULK AT MOST 1048576: true; the input reads as it did. -/
def fnNothingStaysUptoRow : OpenClaim := { program := "ytbkpfpcnjpggaaa", sum := "2efbf5dbcc50d681f56b0074d57567a266b9f36969be2be363152f2982f6a890", func := "loop.example/g03414/laws.FnNothingStays", spec := "fnNothingStays", recurses := true, apart := false, narrowed := true }
def FnNothingStaysUptoSaid : Prop := fnNothingStaysUptoRow.holds Try.pinned (OpenSpec.upto fnNothingStaysSpec)

/-- 'laws.FnCaps', WHERE WHAT IT READS IS OF BULK AT MOST 1048576: true; the input reads as it did. -/
def fnCapsUptoRow : OpenClaim := { program := "ytbkpfpcnjpggaaa", sum := "2efbf5dbcc50d681f56b0074d57567a266b9f36969be2be363152f2982f6a890", func := "loop.example/g03414/laws.FnCaps", spec := "fnCaps", recurses := true, apart := false, narrowed := true }
def FnCapsUptoSaid : Prop := fnCapsUptoRow.holds Try.pinned (OpenSpec.upto fnCapsSpec)

end Rows
end Go.Proofs.Ytbkpfpcnjpggaaa
