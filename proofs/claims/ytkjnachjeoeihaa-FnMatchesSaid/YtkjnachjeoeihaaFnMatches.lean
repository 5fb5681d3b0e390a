/-
  The function laws.FnMatches returns true at every input, and what it was given reads behind the call as before.
  NO CONDITION. The plain law is proved over an abstract form of the code that the kernel has checked against the program's own.
-/
import Derived.Test.YtkjnachjeoeihaaRows
import Derived.Test.YtkjnachjeoeihaaLibF
import Derived.Test.YtkjnachjeoeihaaDgLFnMatches
import Derived.WalkKit
import Derived.ProofKit
import Derived.OpenShut
import Derived.ShutString
namespace Go.Ag
theorem law_FnMatches (σ : Heap) (us : List V) (hro : AllRo σ) (ha : ArgsOk σ [(.sl (.int .u8), false)] us) : s_laws_FnMatches us σ fun r _ => r = .bool true :=
  law_of (f := df_laws_FnMatches) (hs := h_laws_FnMatches) (by have := sp_laws_FnMatches; unfold p_laws_FnMatches at this; exact this) rfl rfl ob_laws_FnMatches st_laws_FnMatches ck_laws_FnMatches (fun x hw => by have := plain_FnMatches x hw; exact ⟨Eq.mp (ou_laws_FnMatches x) this.1, (vu_laws_FnMatches x).symm.trans this.2⟩) σ us hro ha
end Go.Ag
namespace Go.Proofs.Ytkjnachjeoeihaa
namespace fnMatches
open Go.ChangeShapes Go.WideShapes Go.ChangeAt Go.RowKit Go.Ag

theorem own : ownKnob Try.prog.godebug = none := by kernel_rfl
theorem hspec (H : Type) (ds : List (DataW H)) (h : ds.length = 1) : Rows.fnMatchesSpec.fn H ds = { results := [.lit (.bool true)], args := ds } := by
  match ds, h with
  | [d0], _ => rfl

set_option maxRecDepth 100000 in
theorem lifted (os : Os) (started : os.Started) (H : Type) (enc : TypeId × Value → H) :
    ReturnsInHanded {} Try.checked os 7 .any (Rows.fnMatchesSpec.pre6 enc Try.prog Try.f7 Rows.fnMatchesRow.domain false) (Rows.fnMatchesSpec.post enc Try.prog Try.f7 false true false false) := by
  refine returnsInHanded_of_change (C := Try.checked) own started (by kernel_rfl) Try.func7
    (ChangeSpec.witness6 (enc := enc) (C := Try.checked) false ⟨#[], #[.slice none 0 0], []⟩ 8 (by kernel_rfl) (by kernel_rfl) (by kernel_rfl) (by kernel_rfl)) ?_
  intro W base args ds gs before hval hW _ _
  exact law_contract (tys := [(.sl (.int .u8), false)]) (d := 2) (tb := 4) l_laws_FnMatches (by kernel_rfl) (by kernel_rfl) (by kernel_rfl) (by kernel_rfl) Try.underlying4 rfl (hspec H) law_FnMatches hval hW

theorem over : Rows.fnMatchesRow.holds Try.pinned (OpenSpec.ofChange Rows.fnMatchesSpec) :=
  OpenClaim.holds_of_wide 7 Try.f7 rfl rfl rfl rfl rfl rfl rfl ⟨rfl, rfl, rfl, rfl, rfl⟩ rfl rfl rfl rfl rfl (by kernel_rfl) Try.func7 (by kernel_rfl)
    (of_decide_eq_true (by kernel_rfl)) (by unfold Func.isWrapper; first | (rw [if_pos (by decide +kernel)]; kernel_rfl) | (rw [if_neg (by decide +kernel)]; exact ⟨rfl, rfl⟩))
    (fun os started H enc _ => lifted os started H enc)

theorem proved : Rows.FnMatchesSaid := over
#print axioms proved
end fnMatches
end Go.Proofs.Ytkjnachjeoeihaa
