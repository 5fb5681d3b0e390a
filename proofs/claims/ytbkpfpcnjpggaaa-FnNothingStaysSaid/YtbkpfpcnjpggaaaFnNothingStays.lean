/-
  The function laws.FnNothingStays returns true at every input, and what it was given reads behind the call as before.
  NO CONDITION. The plain law is proved over an abstract form of the code that the kernel has checked against the program's own.
-/
import Derived.Test.YtbkpfpcnjpggaaaRows
import Derived.Test.YtbkpfpcnjpggaaaLibH
import Derived.Test.YtbkpfpcnjpggaaaDgLFnNothingStays
import Derived.WalkKit
import Derived.ProofKit
import Derived.OpenShut
import Derived.ShutString
namespace Go.Ag
theorem law_FnNothingStays (σ : Ad) (us : List V) (hro : EJ σ) (ha : Pn σ [(.sl (.int .u8), false)] us) : Hg.S us σ fun r _ => r = .bool true :=
  ZaX (f := Hg.d) (hs := Hg.h) (by have := m0; unfold Fn.A Fn.P at this; exact this) rfl rfl ⟨uU, nX, Yl, nJ, qt, XL, XL, pZ, trivial⟩ (by kernel_rfl) (fun x => by kernel_rfl) (fun x hw => by have := nu x hw; unfold SY S9 at this; exact ⟨Eq.mp (Hg.o x) this.1, (Hg.v x).symm.trans this.2⟩) σ us hro ha
end Go.Ag
namespace Go.Proofs.Ytbkpfpcnjpggaaa
namespace fnNothingStays
open Go.ChangeShapes Go.WideShapes Go.ChangeAt Go.RowKit Go.Ag

theorem own : ownKnob Try.prog.godebug = none := by kernel_rfl
theorem hspec (H : Type) (ds : List (DataW H)) (h : ds.length = 1) : Rows.fnNothingStaysSpec.fn H ds = { results := [.lit (.bool true)], args := ds } := by
  match ds, h with
  | [d0], _ => rfl

set_option maxRecDepth 100000 in
theorem lifted (os : Os) (started : os.Started) (H : Type) (enc : TypeId × Value → H) :
    ReturnsInHanded {} Try.checked os 4 .any (Rows.fnNothingStaysSpec.pre6 enc Try.prog Try.f4 Rows.fnNothingStaysRow.domain false) (Rows.fnNothingStaysSpec.post enc Try.prog Try.f4 false true false false) := by
  refine returnsInHanded_of_change (C := Try.checked) own started (by kernel_rfl) Try.func4
    (ChangeSpec.witness6 (enc := enc) (C := Try.checked) false ⟨#[], #[.slice none 0 0], []⟩ 8 (by kernel_rfl) (by kernel_rfl) (by kernel_rfl) (by kernel_rfl)) ?_
  intro W base args ds gs before hval hW _ _
  exact ux (tys := [(.sl (.int .u8), false)]) (d := 2) (tb := 4) ni (by kernel_rfl) (by kernel_rfl) (by kernel_rfl) (by kernel_rfl) Try.underlying4 rfl (hspec H) law_FnNothingStays hval hW (GlW.none (by kernel_rfl) _)

theorem over : Rows.fnNothingStaysRow.holds Try.pinned (OpenSpec.ofChange Rows.fnNothingStaysSpec) :=
  OpenClaim.holds_of_wide 4 Try.f4 rfl rfl rfl rfl rfl rfl rfl ⟨rfl, rfl, rfl, rfl, rfl⟩ rfl rfl rfl rfl rfl (by kernel_rfl) Try.func4 (by kernel_rfl)
    (of_decide_eq_true (by kernel_rfl)) (by unfold Func.isWrapper; first | (rw [if_pos (by decide +kernel)]; kernel_rfl) | (rw [if_neg (by decide +kernel)]; exact ⟨rfl, rfl⟩))
    (fun os started H enc _ => lifted os started H enc)

theorem proved : Rows.FnNothingStaysSaid := over
#print axioms proved
end fnNothingStays
end Go.Proofs.Ytbkpfpcnjpggaaa
