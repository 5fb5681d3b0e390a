/-
  No cell of these rows narrows 'for every input' (looked for: loops, veiled, ifaces, maps, wideKeys, modest, calm, conditions, laid).
  DERIVED. THE GIVEN ROWS OF THIS SEAT. 6 by the template 'for every input the law returns true; each argument reads behind the call as it read before'; 0 by the template 'total and deterministic' (their statements: YtimnnpimflgonaaTotals.lean).
  GIVEN WITH THE SEED: the statements are not yours to turn. If you find one false, say at which input.
  Laid BY PROGRAM, IN A SANDBOX (cutbox-rows.mjs): the forced cells as the released guide's own fill.sh prints them over the translation 1ba80c8e999ec9ba… (all of the seat's roots in one cut). By AI agents, Wed Nov 11 2026. No macro, syntax, notation, axiom, sorry.
-/
import Derived.Test.YtimnnpimflgonaaChecked
import GoSem.Claim
import GoSem.ClaimJoined
import GoSem.ClaimMapViews
import Derived.JoinedTies
import Derived.KernelRfl
namespace Go.Proofs.Ytimnnpimflgonaa
/- THE CELL 'sum', in the pinned program and in every row, IS THE sha256 OF THE DUMP (.gsa) THAT YtimnnpimflgonaaProg.lean LOADS. Nothing in Lean hashes anything: it is a label: what it is worth is what the hold of that sum in a sandbox is worth. -/
noncomputable def Try.pinned : Pinned := { name := "ytimnnpimflgonaa", sum := "1ba80c8e999ec9ba0768234ea12af705d963bab6e538eaf010d9d9812a1d062f", checked := Try.checked }
namespace Rows
def none {H : Type} : Left H := { results := [], args := [] }

/-- 'laws.FnExactIsWordCode': WHATEVER THE INPUT: true; the input reads as it did. -/
def fnExactIsWordCodeSpec : ChangeSpec := { name := "fnExactIsWordCode", fn := fun _ => fun
  | [d] => { results := [.lit (.bool true)], args := [d] }
  | _ => none }
def fnExactIsWordCodeRow : OpenClaim := { program := "ytimnnpimflgonaa", sum := "1ba80c8e999ec9ba0768234ea12af705d963bab6e538eaf010d9d9812a1d062f", func := "loop.example/g03414/laws.FnExactIsWordCode", spec := "fnExactIsWordCode", apart := false }
def FnExactIsWordCodeSaid : Prop := fnExactIsWordCodeRow.holds Try.pinned (OpenSpec.ofChange fnExactIsWordCodeSpec)

/-- ITS FALSE NEIGHBOUR: 'it returns false'. Refute it at one input. -/
def fnExactIsWordCodeWrong : ChangeSpec := { name := "fnExactIsWordCode", fn := fun _ => fun
  | [d] => { results := [.lit (.bool false)], args := [d] }
  | _ => none }
def FnExactIsWordCodeWrongFalsely : Prop := fnExactIsWordCodeRow.holds Try.pinned (OpenSpec.ofChange fnExactIsWordCodeWrong)

/-- 'laws.FnExactIsTiming': WHATEVER THE INPUT: true; the input reads as it did. -/
def fnExactIsTimingSpec : ChangeSpec := { name := "fnExactIsTiming", fn := fun _ => fun
  | [d] => { results := [.lit (.bool true)], args := [d] }
  | _ => none }
def fnExactIsTimingRow : OpenClaim := { program := "ytimnnpimflgonaa", sum := "1ba80c8e999ec9ba0768234ea12af705d963bab6e538eaf010d9d9812a1d062f", func := "loop.example/g03414/laws.FnExactIsTiming", spec := "fnExactIsTiming", apart := false }
def FnExactIsTimingSaid : Prop := fnExactIsTimingRow.holds Try.pinned (OpenSpec.ofChange fnExactIsTimingSpec)

/-- ITS FALSE NEIGHBOUR: 'it returns false'. Refute it at one input. -/
def fnExactIsTimingWrong : ChangeSpec := { name := "fnExactIsTiming", fn := fun _ => fun
  | [d] => { results := [.lit (.bool false)], args := [d] }
  | _ => none }
def FnExactIsTimingWrongFalsely : Prop := fnExactIsTimingRow.holds Try.pinned (OpenSpec.ofChange fnExactIsTimingWrong)

/-- 'laws.FnExactIsReport': WHATEVER THE INPUT: true; the input reads as it did. -/
def fnExactIsReportSpec : ChangeSpec := { name := "fnExactIsReport", fn := fun _ => fun
  | [d] => { results := [.lit (.bool true)], args := [d] }
  | _ => none }
def fnExactIsReportRow : OpenClaim := { program := "ytimnnpimflgonaa", sum := "1ba80c8e999ec9ba0768234ea12af705d963bab6e538eaf010d9d9812a1d062f", func := "loop.example/g03414/laws.FnExactIsReport", spec := "fnExactIsReport", apart := false }
def FnExactIsReportSaid : Prop := fnExactIsReportRow.holds Try.pinned (OpenSpec.ofChange fnExactIsReportSpec)

/-- ITS FALSE NEIGHBOUR: 'it returns false'. Refute it at one input. -/
def fnExactIsReportWrong : ChangeSpec := { name := "fnExactIsReport", fn := fun _ => fun
  | [d] => { results := [.lit (.bool false)], args := [d] }
  | _ => none }
def FnExactIsReportWrongFalsely : Prop := fnExactIsReportRow.holds Try.pinned (OpenSpec.ofChange fnExactIsReportWrong)

/-- 'laws.FnExactSameReport': WHATEVER THE INPUT: true; the input reads as it did. -/
def fnExactSameReportSpec : ChangeSpec := { name := "fnExactSameReport", fn := fun _ => fun
  | [d1, d2] => { results := [.lit (.bool true)], args := [d1, d2] }
  | _ => none }
def fnExactSameReportRow : OpenClaim := { program := "ytimnnpimflgonaa", sum := "1ba80c8e999ec9ba0768234ea12af705d963bab6e538eaf010d9d9812a1d062f", func := "loop.example/g03414/laws.FnExactSameReport", spec := "fnExactSameReport", apart := false }
def FnExactSameReportSaid : Prop := fnExactSameReportRow.holds Try.pinned (OpenSpec.ofChange fnExactSameReportSpec)

/-- ITS FALSE NEIGHBOUR: 'it returns false'. Refute it at one input. -/
def fnExactSameReportWrong : ChangeSpec := { name := "fnExactSameReport", fn := fun _ => fun
  | [d1, d2] => { results := [.lit (.bool false)], args := [d1, d2] }
  | _ => none }
def FnExactSameReportWrongFalsely : Prop := fnExactSameReportRow.holds Try.pinned (OpenSpec.ofChange fnExactSameReportWrong)

/-- 'laws.FnExactReadBits': WHATEVER THE INPUT: true; the input reads as it did. -/
def fnExactReadBitsSpec : ChangeSpec := { name := "fnExactReadBits", fn := fun _ => fun
  | [d] => { results := [.lit (.bool true)], args := [d] }
  | _ => none }
def fnExactReadBitsRow : OpenClaim := { program := "ytimnnpimflgonaa", sum := "1ba80c8e999ec9ba0768234ea12af705d963bab6e538eaf010d9d9812a1d062f", func := "loop.example/g03414/laws.FnExactReadBits", spec := "fnExactReadBits", apart := false }
def FnExactReadBitsSaid : Prop := fnExactReadBitsRow.holds Try.pinned (OpenSpec.ofChange fnExactReadBitsSpec)

/-- ITS FALSE NEIGHBOUR: 'it returns false'. Refute it at one input. -/
def fnExactReadBitsWrong : ChangeSpec := { name := "fnExactReadBits", fn := fun _ => fun
  | [d] => { results := [.lit (.bool false)], args := [d] }
  | _ => none }
def FnExactReadBitsWrongFalsely : Prop := fnExactReadBitsRow.holds Try.pinned (OpenSpec.ofChange fnExactReadBitsWrong)

/-- 'laws.FnExactUnpackAction': WHATEVER THE INPUT: true; the input reads as it did. -/
def fnExactUnpackActionSpec : ChangeSpec := { name := "fnExactUnpackAction", fn := fun _ => fun
  | [d] => { results := [.lit (.bool true)], args := [d] }
  | _ => none }
def fnExactUnpackActionRow : OpenClaim := { program := "ytimnnpimflgonaa", sum := "1ba80c8e999ec9ba0768234ea12af705d963bab6e538eaf010d9d9812a1d062f", func := "loop.example/g03414/laws.FnExactUnpackAction", spec := "fnExactUnpackAction", apart := false }
def FnExactUnpackActionSaid : Prop := fnExactUnpackActionRow.holds Try.pinned (OpenSpec.ofChange fnExactUnpackActionSpec)

/-- ITS FALSE NEIGHBOUR: 'it returns false'. Refute it at one input. -/
def fnExactUnpackActionWrong : ChangeSpec := { name := "fnExactUnpackAction", fn := fun _ => fun
  | [d] => { results := [.lit (.bool false)], args := [d] }
  | _ => none }
def FnExactUnpackActionWrongFalsely : Prop := fnExactUnpackActionRow.holds Try.pinned (OpenSpec.ofChange fnExactUnpackActionWrong)

/- THE SECOND FORM. 'bulk': how many values and letters a reading holds, each counted each time it is reached (what is shared counts as often as it is met; a slice's spare places count too). A statement '..UptoSaid' is the law's where the arguments, and the package variables that the reading takes, are together of bulk at most 1048576: NARROWER than '..Said'. Prove '..Said' where nothing that the law and all that it calls make is longer than what came in: it says more and counts as full. Else prove '..UptoSaid'. A law counts once. -/
mutual
def uptoBulk {H : Type} : DataW H → Nat
  | .lit (.string bytes) => bytes.length + 1
  | .lit _ => 1
  | .nil => 1
  | .ptr d => uptoBulk d + 1
  | .slice elems spare => uptoBulkAll elems + uptoBulkAll spare + 1
  | .agg parts => uptoBulkAll parts + 1
  | .iface _ d => uptoBulk d + 1
  | .map entries => uptoBulkEntries entries + 1
  | .held _ => 1
def uptoBulkAll {H : Type} : List (DataW H) → Nat
  | [] => 0
  | d :: r => uptoBulk d + uptoBulkAll r
def uptoBulkEntries {H : Type} : List (Lit × DataW H) → Nat
  | [] => 0
  | x :: r => uptoBulkEntry x + uptoBulkEntries r
def uptoBulkEntry {H : Type} : Lit × DataW H → Nat
  | (.string bytes, d) => bytes.length + uptoBulk d + 1
  | (_, d) => uptoBulk d + 1
 end
def uptoSmall : (H : Type) → List (DataW H) → Bool := fun _ ds => decide (uptoBulkAll ds ≤ 1048576)
def OpenSpec.upto (s : _root_.Go.ChangeSpec) : _root_.Go.OpenSpec := { _root_.Go.OpenSpec.ofChange s with cond := some uptoSmall }

/-- 'laws.FnExactIsWordCode', WHERE WHAT IT READS IS OF BULK AT MOST 1048576: true; the input reads as it did. -/
def fnExactIsWordCodeUptoRow : OpenClaim := { program := "ytimnnpimflgonaa", sum := "1ba80c8e999ec9ba0768234ea12af705d963bab6e538eaf010d9d9812a1d062f", func := "loop.example/g03414/laws.FnExactIsWordCode", spec := "fnExactIsWordCode", apart := false, narrowed := true }
def FnExactIsWordCodeUptoSaid : Prop := fnExactIsWordCodeUptoRow.holds Try.pinned (OpenSpec.upto fnExactIsWordCodeSpec)

/-- 'laws.FnExactIsTiming', WHERE WHAT IT READS IS OF BULK AT MOST 1048576: true; the input reads as it did. -/
def fnExactIsTimingUptoRow : OpenClaim := { program := "ytimnnpimflgonaa", sum := "1ba80c8e999ec9ba0768234ea12af705d963bab6e538eaf010d9d9812a1d062f", func := "loop.example/g03414/laws.FnExactIsTiming", spec := "fnExactIsTiming", apart := false, narrowed := true }
def FnExactIsTimingUptoSaid : Prop := fnExactIsTimingUptoRow.holds Try.pinned (OpenSpec.upto fnExactIsTimingSpec)

/-- 'laws.FnExactIsReport', WHERE WHAT IT READS IS OF BULK AT MOST 1048576: true; the input reads as it did. -/
def fnExactIsReportUptoRow : OpenClaim := { program := "ytimnnpimflgonaa", sum := "1ba80c8e999ec9ba0768234ea12af705d963bab6e538eaf010d9d9812a1d062f", func := "loop.example/g03414/laws.FnExactIsReport", spec := "fnExactIsReport", apart := false, narrowed := true }
def FnExactIsReportUptoSaid : Prop := fnExactIsReportUptoRow.holds Try.pinned (OpenSpec.upto fnExactIsReportSpec)

/-- 'laws.FnExactSameReport', WHERE WHAT IT READS IS OF BULK AT MOST 1048576: true; the input reads as it did. -/
def fnExactSameReportUptoRow : OpenClaim := { program := "ytimnnpimflgonaa", sum := "1ba80c8e999ec9ba0768234ea12af705d963bab6e538eaf010d9d9812a1d062f", func := "loop.example/g03414/laws.FnExactSameReport", spec := "fnExactSameReport", apart := false, narrowed := true }
def FnExactSameReportUptoSaid : Prop := fnExactSameReportUptoRow.holds Try.pinned (OpenSpec.upto fnExactSameReportSpec)

/-- 'laws.FnExactReadBits', WHERE WHAT IT READS IS OF BULK AT MOST 1048576: true; the input reads as it did. -/
def fnExactReadBitsUptoRow : OpenClaim := { program := "ytimnnpimflgonaa", sum := "1ba80c8e999ec9ba0768234ea12af705d963bab6e538eaf010d9d9812a1d062f", func := "loop.example/g03414/laws.FnExactReadBits", spec := "fnExactReadBits", apart := false, narrowed := true }
def FnExactReadBitsUptoSaid : Prop := fnExactReadBitsUptoRow.holds Try.pinned (OpenSpec.upto fnExactReadBitsSpec)

/-- 'laws.FnExactUnpackAction', WHERE WHAT IT READS IS OF BULK AT MOST 1048576: true; the input reads as it did. -/
def fnExactUnpackActionUptoRow : OpenClaim := { program := "ytimnnpimflgonaa", sum := "1ba80c8e999ec9ba0768234ea12af705d963bab6e538eaf010d9d9812a1d062f", func := "loop.example/g03414/laws.FnExactUnpackAction", spec := "fnExactUnpackAction", apart := false, narrowed := true }
def FnExactUnpackActionUptoSaid : Prop := fnExactUnpackActionUptoRow.holds Try.pinned (OpenSpec.upto fnExactUnpackActionSpec)

end Rows
end Go.Proofs.Ytimnnpimflgonaa
