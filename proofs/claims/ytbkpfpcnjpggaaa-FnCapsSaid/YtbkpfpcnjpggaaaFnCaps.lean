/-
  The function laws.FnCaps returns true at every input, and what it was given reads behind the call as before.
  NO CONDITION. The plain law is proved over an abstract form of the code that the kernel has checked against the program's own.
-/
import Derived.Test.YtbkpfpcnjpggaaaRows
import Derived.Test.YtbkpfpcnjpggaaaLibH
import Derived.Test.YtbkpfpcnjpggaaaDgLFnCaps
import Derived.WalkKit
import Derived.ProofKit
import Derived.OpenShut
import Derived.ShutString
namespace Go.Ag
theorem law_FnCaps (σ : Ad) (us : List V) (hro : EM σ) (ha : PE σ [(.sl (.int .u8), false)] us) : Hn.S us σ fun r _ => r = .bool true :=
  ZcH (f := Hn.d) (hs := Hn.h) (by have := tM; unfold Fn.A Fn.P at this; exact this) rfl rfl ⟨xL, pQ, pR, eR, rz, gM, wz, gB, ga, dR, trivial⟩ (by kernel_rfl) (fun x => by kernel_rfl) (fun x hw => by have := wY x hw; unfold UN Vh at this; exact ⟨Eq.mp (Hn.o x) this.1, (Hn.v x).symm.trans this.2⟩) σ us hro ha
end Go.Ag
namespace Go.Proofs.Ytbkpfpcnjpggaaa
namespace fnCaps
open Go.ChangeShapes Go.WideShapes Go.ChangeAt Go.RowKit Go.Ag

theorem own : ownKnob Try.prog.godebug = none := by kernel_rfl
theorem hspec (H : Type) (ds : List (DataW H)) (h : ds.length = 1) : Rows.fnCapsSpec.fn H ds = { results := [.lit (.bool true)], args := ds } := by
  match ds, h with
  | [d0], _ => rfl

set_option maxRecDepth 100000 in
theorem lifted (os : Os) (started : os.Started) (H : Type) (enc : TypeId × Value → H) :
    ReturnsInHanded {} Try.checked os 5 .any (Rows.fnCapsSpec.pre6 enc Try.prog Try.f5 Rows.fnCapsRow.domain false) (Rows.fnCapsSpec.post enc Try.prog Try.f5 false true false false) := by
  refine returnsInHanded_of_change (C := Try.checked) own started (by kernel_rfl) Try.func5
    (ChangeSpec.witness6 (enc := enc) (C := Try.checked) false ⟨#[], #[.slice none 0 0], []⟩ 8 (by kernel_rfl) (by kernel_rfl) (by kernel_rfl) (by kernel_rfl)) ?_
  intro W base args ds gs before hval hW _ _
  exact wO (tys := [(.sl (.int .u8), false)]) (d := 2) (tb := 4) vX (by kernel_rfl) (by kernel_rfl) (by kernel_rfl) (by kernel_rfl) Try.underlying4 rfl (hspec H) law_FnCaps hval hW (GlW.none (by kernel_rfl) _)

theorem over : Rows.fnCapsRow.holds Try.pinned (OpenSpec.ofChange Rows.fnCapsSpec) :=
  OpenClaim.holds_of_wide 5 Try.f5 rfl rfl rfl rfl rfl rfl rfl ⟨rfl, rfl, rfl, rfl, rfl⟩ rfl rfl rfl rfl rfl (by kernel_rfl) Try.func5 (by kernel_rfl)
    (of_decide_eq_true (by kernel_rfl)) (by unfold Func.isWrapper; first | (rw [if_pos (by decide +kernel)]; kernel_rfl) | (rw [if_neg (by decide +kernel)]; exact ⟨rfl, rfl⟩))
    (fun os started H enc _ => lifted os started H enc)

theorem proved : Rows.FnCapsSaid := over
#print axioms proved
end fnCaps
end Go.Proofs.Ytbkpfpcnjpggaaa
