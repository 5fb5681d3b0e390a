/-
  The function laws.FnLayers returns true at every input, and what it was given reads behind the call as before.
  NO CONDITION. The plain law is proved over an abstract form of the code that the kernel has checked against the program's own.
-/
import Derived.Test.YtbkpfpcnjpggaaaRows
import Derived.Test.YtbkpfpcnjpggaaaLibF
import Derived.Test.YtbkpfpcnjpggaaaDgLFnLayers
import Derived.WalkKit
import Derived.ProofKit
import Derived.OpenShut
import Derived.ShutString
namespace Go.Ag
theorem law_FnLayers (σ : Ac) (us : List V) (hro : CX σ) (ha : Kj σ [(.sl (.int .u8), false)] us) : EP.S us σ fun r _ => r = .bool true :=
  gv (f := EP.d) (hs := EP.h) (by have := XX; unfold Fn.A Fn.P at this; exact this) rfl rfl ⟨ZW, XA, S6, S6, Te, XT, trivial⟩ (by kernel_rfl) (fun x => by kernel_rfl) (fun x hw => by have := YQ x hw; unfold MY M3 at this; exact ⟨Eq.mp (EP.o x) this.1, (EP.v x).symm.trans this.2⟩) σ us hro ha
end Go.Ag
namespace Go.Proofs.Ytbkpfpcnjpggaaa
namespace fnLayers
open Go.ChangeShapes Go.WideShapes Go.ChangeAt Go.RowKit Go.Ag

theorem own : ownKnob Try.prog.godebug = none := by kernel_rfl
theorem hspec (H : Type) (ds : List (DataW H)) (h : ds.length = 1) : Rows.fnLayersSpec.fn H ds = { results := [.lit (.bool true)], args := ds } := by
  match ds, h with
  | [d0], _ => rfl

set_option maxRecDepth 100000 in
theorem lifted (os : Os) (started : os.Started) (H : Type) (enc : TypeId × Value → H) :
    ReturnsInHanded {} Try.checked os 3 .any (Rows.fnLayersSpec.pre6 enc Try.prog Try.f3 Rows.fnLayersRow.domain false) (Rows.fnLayersSpec.post enc Try.prog Try.f3 false true false false) := by
  refine returnsInHanded_of_change (C := Try.checked) own started (by kernel_rfl) Try.func3
    (ChangeSpec.witness6 (enc := enc) (C := Try.checked) false ⟨#[], #[.slice none 0 0], []⟩ 8 (by kernel_rfl) (by kernel_rfl) (by kernel_rfl) (by kernel_rfl)) ?_
  intro W base args ds gs before hval hW _ _
  exact Zl (tys := [(.sl (.int .u8), false)]) (d := 2) (tb := 4) Yb (by kernel_rfl) (by kernel_rfl) (by kernel_rfl) (by kernel_rfl) Try.underlying4 rfl (hspec H) law_FnLayers hval hW (GlW.none (by kernel_rfl) _)

theorem over : Rows.fnLayersRow.holds Try.pinned (OpenSpec.ofChange Rows.fnLayersSpec) :=
  OpenClaim.holds_of_wide 3 Try.f3 rfl rfl rfl rfl rfl rfl rfl ⟨rfl, rfl, rfl, rfl, rfl⟩ rfl rfl rfl rfl rfl (by kernel_rfl) Try.func3 (by kernel_rfl)
    (of_decide_eq_true (by kernel_rfl)) (by unfold Func.isWrapper; first | (rw [if_pos (by decide +kernel)]; kernel_rfl) | (rw [if_neg (by decide +kernel)]; exact ⟨rfl, rfl⟩))
    (fun os started H enc _ => lifted os started H enc)

theorem proved : Rows.FnLayersSaid := over
#print axioms proved
end fnLayers
end Go.Proofs.Ytbkpfpcnjpggaaa
