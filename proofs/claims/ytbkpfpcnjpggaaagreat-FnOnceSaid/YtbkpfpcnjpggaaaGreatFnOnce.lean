/-
  The function laws.FnOnce returns true at every input, and what it was given reads behind the call as before.
  NO CONDITION. The plain law is proved over an abstract form of the code that the kernel has checked against the program's own.
-/
import Derived.Test.YtbkpfpcnjpggaaaGreatRows
import Derived.Test.YtbkpfpcnjpggaaaGreatLibH
import Derived.Test.YtbkpfpcnjpggaaaGreatDgLFnOnce
import Derived.WalkKit
import Derived.ProofKit
import Derived.OpenShut
import Derived.ShutString
namespace Go.Ag
theorem law_FnOnce (σ : Ad) (us : List V) (hro : EO σ) (ha : PM σ [(.sl (.int .u8), false)] us) : Hr.S us σ fun r _ => r = .bool true :=
  Zdm (f := Hr.d) (hs := Hr.h) (by have := ue; unfold Fn.A Fn.P at this; exact this) rfl rfl ⟨xX, p5, pR, fo, r5, ic, hU, ie, UR, sJ, hU, trivial⟩ (by kernel_rfl) (fun x => by kernel_rfl) (fun x hw => by have := xu x hw; unfold UK Vx at this; exact ⟨Eq.mp (Hr.o x) this.1, (Hr.v x).symm.trans this.2⟩) σ us hro ha
end Go.Ag
namespace Go.Proofs.YtbkpfpcnjpggaaaGreat
namespace fnOnce
open Go.ChangeShapes Go.WideShapes Go.ChangeAt Go.RowKit Go.Ag

theorem own : ownKnob Tryz.prog.godebug = none := by kernel_rfl
theorem hspec (H : Type) (ds : List (DataW H)) (h : ds.length = 1) : Rows.fnOnceSpec.fn H ds = { results := [.lit (.bool true)], args := ds } := by
  match ds, h with
  | [d0], _ => rfl

set_option maxRecDepth 100000 in
theorem lifted (os : Os) (started : os.Started) (H : Type) (enc : TypeId × Value → H) :
    ReturnsInHanded {} Tryz.checked os 4 .any (Rows.fnOnceSpec.pre6 enc Tryz.prog Tryz.f4 Rows.fnOnceRow.domain false) (Rows.fnOnceSpec.post enc Tryz.prog Tryz.f4 false true false false) := by
  refine returnsInHanded_of_change (C := Tryz.checked) own started (by kernel_rfl) Tryz.func4
    (ChangeSpec.witness6 (enc := enc) (C := Tryz.checked) false ⟨#[], #[.slice none 0 0], []⟩ 8 (by kernel_rfl) (by kernel_rfl) (by kernel_rfl) (by kernel_rfl)) ?_
  intro W base args ds gs before hval hW _ _
  exact xC (tys := [(.sl (.int .u8), false)]) (d := 2) (tb := 4) w7 (by kernel_rfl) (by kernel_rfl) (by kernel_rfl) (by kernel_rfl) Tryz.underlying4 rfl (hspec H) law_FnOnce hval hW (GlW.none (by kernel_rfl) _)

theorem over : Rows.fnOnceRow.holds Tryz.pinned (OpenSpec.ofChange Rows.fnOnceSpec) :=
  OpenClaim.holds_of_wide 4 Tryz.f4 rfl rfl rfl rfl rfl rfl rfl ⟨rfl, rfl, rfl, rfl, rfl⟩ rfl rfl rfl rfl rfl (by kernel_rfl) Tryz.func4 (by kernel_rfl)
    (of_decide_eq_true (by kernel_rfl)) (by unfold Func.isWrapper; first | (rw [if_pos (by decide +kernel)]; kernel_rfl) | (rw [if_neg (by decide +kernel)]; exact ⟨rfl, rfl⟩))
    (fun os started H enc _ => lifted os started H enc)

theorem proved : Rows.FnOnceSaid := over
#print axioms proved
end fnOnce
end Go.Proofs.YtbkpfpcnjpggaaaGreat
