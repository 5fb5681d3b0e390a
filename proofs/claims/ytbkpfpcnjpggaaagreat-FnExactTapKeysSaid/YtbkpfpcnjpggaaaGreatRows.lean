/-
  No cell of these rows narrows 'for every input' (looked for: loops, veiled, ifaces, maps, wideKeys, modest, calm, conditions, laid).
  DERIVED. THE GIVEN ROWS OF THIS SEAT. 5 by the template 'for every input the law returns true; each argument reads behind the call as it read before'; 0 by the template 'total and deterministic' (their statements: YtbkpfpcnjpggaaaGreatTotals.lean).
  GIVEN WITH THE SEED: the statements are not yours to turn. If you find one false, say at which input.
  Laid BY PROGRAM, IN A SANDBOX (cutbox-rows.mjs): the forced cells as the released guide's own fill.sh prints them over the translation 515ec769c218c50e… (all of the seat's roots in one cut). By AI agents, Wed Nov 11 2026. No macro, syntax, notation, axiom, sorry.
-/
import Derived.Test.YtbkpfpcnjpggaaaGreatChecked
import GoSem.Claim
import GoSem.ClaimJoined
import GoSem.ClaimMapViews
import Derived.JoinedTies
import Derived.KernelRfl
namespace Go.Proofs.YtbkpfpcnjpggaaaGreat
/- THE CELL 'sum', in the pinned program and in every row, IS THE sha256 OF THE DUMP (.gsa) THAT YtbkpfpcnjpggaaaGreatProg.lean LOADS. Nothing in Lean hashes anything: it is a label: what it is worth is what the hold of that sum in a sandbox is worth. -/
noncomputable def Tryz.pinned : Pinned := { name := "ytbkpfpcnjpggaaagreat", sum := "515ec769c218c50e7d83f584a82bf7a0201003bcb08e538529ce224f8ab1e529", checked := Tryz.checked }
namespace Rows
def none {H : Type} : Left H := { results := [], args := [] }

/-- 'laws.FnPressed': WHATEVER THE INPUT: true; the input reads as it did. -/
def fnPressedSpec : ChangeSpec := { name := "fnPressed", fn := fun _ => fun
  | [d] => { results := [.lit (.bool true)], args := [d] }
  | _ => none }
def fnPressedRow : OpenClaim := { program := "ytbkpfpcnjpggaaagreat", sum := "515ec769c218c50e7d83f584a82bf7a0201003bcb08e538529ce224f8ab1e529", func := "loop.example/g03414/laws.FnPressed", spec := "fnPressed", recurses := true, apart := false }
def FnPressedSaid : Prop := fnPressedRow.holds Tryz.pinned (OpenSpec.ofChange fnPressedSpec)

/-- ITS FALSE NEIGHBOUR: 'it returns false'. Refute it at one input. -/
def fnPressedWrong : ChangeSpec := { name := "fnPressed", fn := fun _ => fun
  | [d] => { results := [.lit (.bool false)], args := [d] }
  | _ => none }
def FnPressedWrongFalsely : Prop := fnPressedRow.holds Tryz.pinned (OpenSpec.ofChange fnPressedWrong)

/-- 'laws.FnOnce': WHATEVER THE INPUT: true; the input reads as it did. -/
def fnOnceSpec : ChangeSpec := { name := "fnOnce", fn := fun _ => fun
  | [d] => { results := [.lit (.bool true)], args := [d] }
  | _ => none }
def fnOnceRow : OpenClaim := { program := "ytbkpfpcnjpggaaagreat", sum := "515ec769c218c50e7d83f584a82bf7a0201003bcb08e538529ce224f8ab1e529", func := "loop.example/g03414/laws.FnOnce", spec := "fnOnce", recurses := true, apart := false }
def FnOnceSaid : Prop := fnOnceRow.holds Tryz.pinned (OpenSpec.ofChange fnOnceSpec)

/-- ITS FALSE NEIGHBOUR: 'it returns false'. Refute it at one input. -/
def fnOnceWrong : ChangeSpec := { name := "fnOnce", fn := fun _ => fun
  | [d] => { results := [.lit (.bool false)], args := [d] }
  | _ => none }
def FnOnceWrongFalsely : Prop := fnOnceRow.holds Tryz.pinned (OpenSpec.ofChange fnOnceWrong)

/-- 'laws.FnExactRelease': WHATEVER THE INPUT: true; the input reads as it did. -/
def fnExactReleaseSpec : ChangeSpec := { name := "fnExactRelease", fn := fun _ => fun
  | [d1, d2] => { results := [.lit (.bool true)], args := [d1, d2] }
  | _ => none }
def fnExactReleaseRow : OpenClaim := { program := "ytbkpfpcnjpggaaagreat", sum := "515ec769c218c50e7d83f584a82bf7a0201003bcb08e538529ce224f8ab1e529", func := "loop.example/g03414/laws.FnExactRelease", spec := "fnExactRelease", recurses := true, apart := false }
def FnExactReleaseSaid : Prop := fnExactReleaseRow.holds Tryz.pinned (OpenSpec.ofChange fnExactReleaseSpec)

/-- ITS FALSE NEIGHBOUR: 'it returns false'. Refute it at one input. -/
def fnExactReleaseWrong : ChangeSpec := { name := "fnExactRelease", fn := fun _ => fun
  | [d1, d2] => { results := [.lit (.bool false)], args := [d1, d2] }
  | _ => none }
def FnExactReleaseWrongFalsely : Prop := fnExactReleaseRow.holds Tryz.pinned (OpenSpec.ofChange fnExactReleaseWrong)

/-- 'laws.FnExactPress': WHATEVER THE INPUT: true; the input reads as it did. -/
def fnExactPressSpec : ChangeSpec := { name := "fnExactPress", fn := fun _ => fun
  | [d1, d2, d3] => { results := [.lit (.bool true)], args := [d1, d2, d3] }
  | _ => none }
def fnExactPressRow : OpenClaim := { program := "ytbkpfpcnjpggaaagreat", sum := "515ec769c218c50e7d83f584a82bf7a0201003bcb08e538529ce224f8ab1e529", func := "loop.example/g03414/laws.FnExactPress", spec := "fnExactPress", recurses := true, apart := false }
def FnExactPressSaid : Prop := fnExactPressRow.holds Tryz.pinned (OpenSpec.ofChange fnExactPressSpec)

/-- ITS FALSE NEIGHBOUR: 'it returns false'. Refute it at one input. -/
def fnExactPressWrong : ChangeSpec := { name := "fnExactPress", fn := fun _ => fun
  | [d1, d2, d3] => { results := [.lit (.bool false)], args := [d1, d2, d3] }
  | _ => none }
def FnExactPressWrongFalsely : Prop := fnExactPressRow.holds Tryz.pinned (OpenSpec.ofChange fnExactPressWrong)

/-- 'laws.FnExactTapKeys': WHATEVER THE INPUT: true; the input reads as it did. -/
def fnExactTapKeysSpec : ChangeSpec := { name := "fnExactTapKeys", fn := fun _ => fun
  | [d1, d2] => { results := [.lit (.bool true)], args := [d1, d2] }
  | _ => none }
def fnExactTapKeysRow : OpenClaim := { program := "ytbkpfpcnjpggaaagreat", sum := "515ec769c218c50e7d83f584a82bf7a0201003bcb08e538529ce224f8ab1e529", func := "loop.example/g03414/laws.FnExactTapKeys", spec := "fnExactTapKeys", recurses := true, apart := false }
def FnExactTapKeysSaid : Prop := fnExactTapKeysRow.holds Tryz.pinned (OpenSpec.ofChange fnExactTapKeysSpec)

/-- ITS FALSE NEIGHBOUR: 'it returns false'. Refute it at one input. -/
def fnExactTapKeysWrong : ChangeSpec := { name := "fnExactTapKeys", fn := fun _ => fun
  | [d1, d2] => { results := [.lit (.bool false)], args := [d1, d2] }
  | _ => none }
def FnExactTapKeysWrongFalsely : Prop := fnExactTapKeysRow.holds Tryz.pinned (OpenSpec.ofChange fnExactTapKeysWrong)

/- THE SECOND FORM. 'bulk': how many values and letters a reading holds, each counted each time it is reached (what is shared counts as often as it is met; a slice's spare places count too). A statement '..UptoSaid' is the law's where the arguments, and the package variables that the reading takes, are together of bulk at most 1048576: NARROWER than '..Said'. Prove '..Said' where nothing that the law and all that it calls make is longer than what came in: it says more and counts as full. Else prove '..UptoSaid'. A law counts once. -/
mutual
def uptoBulk {H : Type} : DataW H → Nat
  | .lit (.string bytes) => bytes.length + 1
  | .lit _ => 1
  | .nil => 1
  | .ptr d => uptoBulk d + 1
  | .slice elems spare => uptoBulkAll elems + uptoBulkAll spare + 1
  | .agg parts => uptoBulkAll parts + 1
  | .iface _ d => uptoBulk d + 1
  | .map entries => uptoBulkEntries entries + 1
  | .held _ => 1
def uptoBulkAll {H : Type} : List (DataW H) → Nat
  | [] => 0
  | d :: r => uptoBulk d + uptoBulkAll r
def uptoBulkEntries {H : Type} : List (Lit × DataW H) → Nat
  | [] => 0
  | x :: r => uptoBulkEntry x + uptoBulkEntries r
def uptoBulkEntry {H : Type} : Lit × DataW H → Nat
  | (.string bytes, d) => bytes.length + uptoBulk d + 1
  | (_, d) => uptoBulk d + 1
 end
def uptoSmall : (H : Type) → List (DataW H) → Bool := fun _ ds => decide (uptoBulkAll ds ≤ 1048576)
def OpenSpec.upto (s : _root_.Go.ChangeSpec) : _root_.Go.OpenSpec := { _root_.Go.OpenSpec.ofChange s with cond := some uptoSmall }

/-- 'laws.FnPressed', WHERE WHAT IT READS IS OF BULK AT MOST 1048576: true; the input reads as it did. -/
def fnPressedUptoRow : OpenClaim := { program := "ytbkpfpcnjpggaaagreat", sum := "515ec769c218c50e7d83f584a82bf7a0201003bcb08e538529ce224f8ab1e529", func := "loop.example/g03414/laws.FnPressed", spec := "fnPressed", recurses := true, apart := false, narrowed := true }
def FnPressedUptoSaid : Prop := fnPressedUptoRow.holds Tryz.pinned (OpenSpec.upto fnPressedSpec)

/-- 'laws.FnOnce', WHERE WHAT IT READS IS OF BULK AT MOST 1048576: true; the input reads as it did. -/
def fnOnceUptoRow : OpenClaim := { program := "ytbkpfpcnjpggaaagreat", sum := "515ec769c218c50e7d83f584a82bf7a0201003bcb08e538529ce224f8ab1e529", func := "loop.example/g03414/laws.FnOnce", spec := "fnOnce", recurses := true, apart := false, narrowed := true }
def FnOnceUptoSaid : Prop := fnOnceUptoRow.holds Tryz.pinned (OpenSpec.upto fnOnceSpec)

/-- 'laws.FnExactRelease', WHERE WHAT IT READS IS OF BULK AT MOST 1048576: true; the input reads as it did. -/
def fnExactReleaseUptoRow : OpenClaim := { program := "ytbkpfpcnjpggaaagreat", sum := "515ec769c218c50e7d83f584a82bf7a0201003bcb08e538529ce224f8ab1e529", func := "loop.example/g03414/laws.FnExactRelease", spec := "fnExactRelease", recurses := true, apart := false, narrowed := true }
def FnExactReleaseUptoSaid : Prop := fnExactReleaseUptoRow.holds Tryz.pinned (OpenSpec.upto fnExactReleaseSpec)

/-- 'laws.FnExactPress', WHERE WHAT IT READS IS OF BULK AT MOST 1048576: true; the input reads as it did. -/
def fnExactPressUptoRow : OpenClaim := { program := "ytbkpfpcnjpggaaagreat", sum := "515ec769c218c50e7d83f584a82bf7a0201003bcb08e538529ce224f8ab1e529", func := "loop.example/g03414/laws.FnExactPress", spec := "fnExactPress", recurses := true, apart := false, narrowed := true }
def FnExactPressUptoSaid : Prop := fnExactPressUptoRow.holds Tryz.pinned (OpenSpec.upto fnExactPressSpec)

/-- 'laws.FnExactTapKeys', WHERE WHAT IT READS IS OF BULK AT MOST 1048576: true; the input reads as it did. -/
def fnExactTapKeysUptoRow : OpenClaim := { program := "ytbkpfpcnjpggaaagreat", sum := "515ec769c218c50e7d83f584a82bf7a0201003bcb08e538529ce224f8ab1e529", func := "loop.example/g03414/laws.FnExactTapKeys", spec := "fnExactTapKeys", recurses := true, apart := false, narrowed := true }
def FnExactTapKeysUptoSaid : Prop := fnExactTapKeysUptoRow.holds Tryz.pinned (OpenSpec.upto fnExactTapKeysSpec)

end Rows
end Go.Proofs.YtbkpfpcnjpggaaaGreat
