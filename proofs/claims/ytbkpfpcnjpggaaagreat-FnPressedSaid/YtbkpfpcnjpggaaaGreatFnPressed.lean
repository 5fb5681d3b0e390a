/-
  The function laws.FnPressed returns true at every input, and what it was given reads behind the call as before.
  NO CONDITION. The plain law is proved over an abstract form of the code that the kernel has checked against the program's own.
-/
import Derived.Test.YtbkpfpcnjpggaaaGreatRows
import Derived.Test.YtbkpfpcnjpggaaaGreatLibH
import Derived.Test.YtbkpfpcnjpggaaaGreatDgLFnPressed
import Derived.WalkKit
import Derived.ProofKit
import Derived.OpenShut
import Derived.ShutString
namespace Go.Ag
theorem law_FnPressed (σ : Ad) (us : List V) (hro : EN σ) (ha : P3 σ [(.sl (.int .u8), false)] us) : Hn.S us σ fun r _ => r = .bool true :=
  Zdf (f := Hn.d) (hs := Hn.h) (by have := qx; unfold Fn.A Fn.P at this; exact this) rfl rfl ⟨xw, pZ, eP, Q9, eP, vJ, Uo, fS, Q9, Uo, fB, Ln, Yv, Ln, Ln, Yv, fS, fB, trivial⟩ (by kernel_rfl) (fun x => by kernel_rfl) (fun x hw => by have := sL x hw; unfold TW Ue at this; exact ⟨Eq.mp (Hn.o x) this.1, (Hn.v x).symm.trans this.2⟩) σ us hro ha
end Go.Ag
namespace Go.Proofs.YtbkpfpcnjpggaaaGreat
namespace fnPressed
open Go.ChangeShapes Go.WideShapes Go.ChangeAt Go.RowKit Go.Ag

theorem own : ownKnob Tryz.prog.godebug = none := by kernel_rfl
theorem hspec (H : Type) (ds : List (DataW H)) (h : ds.length = 1) : Rows.fnPressedSpec.fn H ds = { results := [.lit (.bool true)], args := ds } := by
  match ds, h with
  | [d0], _ => rfl

set_option maxRecDepth 100000 in
theorem lifted (os : Os) (started : os.Started) (H : Type) (enc : TypeId × Value → H) :
    ReturnsInHanded {} Tryz.checked os 3 .any (Rows.fnPressedSpec.pre6 enc Tryz.prog Tryz.f3 Rows.fnPressedRow.domain false) (Rows.fnPressedSpec.post enc Tryz.prog Tryz.f3 false true false false) := by
  refine returnsInHanded_of_change (C := Tryz.checked) own started (by kernel_rfl) Tryz.func3
    (ChangeSpec.witness6 (enc := enc) (C := Tryz.checked) false ⟨#[], #[.slice none 0 0], []⟩ 8 (by kernel_rfl) (by kernel_rfl) (by kernel_rfl) (by kernel_rfl)) ?_
  intro W base args ds gs before hval hW _ _
  exact w5 (tys := [(.sl (.int .u8), false)]) (d := 2) (tb := 4) rZ (by kernel_rfl) (by kernel_rfl) (by kernel_rfl) (by kernel_rfl) Tryz.underlying4 rfl (hspec H) law_FnPressed hval hW (GlW.none (by kernel_rfl) _)

theorem over : Rows.fnPressedRow.holds Tryz.pinned (OpenSpec.ofChange Rows.fnPressedSpec) :=
  OpenClaim.holds_of_wide 3 Tryz.f3 rfl rfl rfl rfl rfl rfl rfl ⟨rfl, rfl, rfl, rfl, rfl⟩ rfl rfl rfl rfl rfl (by kernel_rfl) Tryz.func3 (by kernel_rfl)
    (of_decide_eq_true (by kernel_rfl)) (by unfold Func.isWrapper; first | (rw [if_pos (by decide +kernel)]; kernel_rfl) | (rw [if_neg (by decide +kernel)]; exact ⟨rfl, rfl⟩))
    (fun os started H enc _ => lifted os started H enc)

theorem proved : Rows.FnPressedSaid := over
#print axioms proved
end fnPressed
end Go.Proofs.YtbkpfpcnjpggaaaGreat
