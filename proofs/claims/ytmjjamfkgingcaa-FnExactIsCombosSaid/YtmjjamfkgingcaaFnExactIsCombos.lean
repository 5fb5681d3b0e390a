/-
  The function laws.FnExactIsCombos returns true at every input, and what it was given reads behind the call as before.
  NO CONDITION. The plain law is proved over an abstract form of the code that the kernel has checked against the program's own.
-/
import Derived.Test.YtmjjamfkgingcaaRows
import Derived.Test.YtmjjamfkgingcaaLibE
import Derived.Test.YtmjjamfkgingcaaDgLFnExactIsCombos
import Derived.WalkKit
import Derived.ProofKit
import Derived.OpenShut
import Derived.ShutString
namespace Go.Ag
theorem law_FnExactIsCombos (σ : Heap) (us : List V) (hro : AllRo σ) (ha : ArgsOk σ [(.sl (.pair (.int .i64) (.pair (.int .i64) (.unit))), false)] us) : s_laws_FnExactIsCombos us σ fun r _ => r = .bool true :=
  law_of (f := df_laws_FnExactIsCombos) (hs := h_laws_FnExactIsCombos) (by have := sp_laws_FnExactIsCombos; unfold p_laws_FnExactIsCombos at this; exact this) rfl rfl ob_laws_FnExactIsCombos st_laws_FnExactIsCombos ck_laws_FnExactIsCombos (fun x hw => by have := plain_FnExactIsCombos x hw; unfold ok_laws_FnExactIsCombos v_laws_FnExactIsCombos at this; exact this) σ us hro ha
end Go.Ag
namespace Go.Proofs.Ytmjjamfkgingcaa
namespace fnExactIsCombos
open Go.ChangeShapes Go.WideShapes Go.ChangeAt Go.RowKit Go.Ag

theorem own : ownKnob Try.prog.godebug = none := by kernel_rfl
theorem hspec (H : Type) (ds : List (DataW H)) (h : ds.length = 1) : Rows.fnExactIsCombosSpec.fn H ds = { results := [.lit (.bool true)], args := ds } := by
  match ds, h with
  | [d0], _ => rfl

set_option maxRecDepth 100000 in
theorem lifted (os : Os) (started : os.Started) (H : Type) (enc : TypeId × Value → H) :
    ReturnsInHanded {} Try.checked os 4 .any (Rows.fnExactIsCombosSpec.pre6 enc Try.prog Try.f4 Rows.fnExactIsCombosRow.domain false) (Rows.fnExactIsCombosSpec.post enc Try.prog Try.f4 false true false false) := by
  refine returnsInHanded_of_change (C := Try.checked) own started (by kernel_rfl) Try.func4
    (ChangeSpec.witness6 (enc := enc) (C := Try.checked) false ⟨#[], #[.slice none 0 0], []⟩ 8 (by kernel_rfl) (by kernel_rfl) (by kernel_rfl) (by kernel_rfl)) ?_
  intro W base args ds gs before hval hW _ _
  exact law_contract (tys := [(.sl (.pair (.int .i64) (.pair (.int .i64) (.unit))), false)]) (d := 3) (tb := 4) l_laws_FnExactIsCombos (by kernel_rfl) (by kernel_rfl) (by kernel_rfl) (by kernel_rfl) Try.underlying4 rfl (hspec H) law_FnExactIsCombos hval hW

theorem over : Rows.fnExactIsCombosRow.holds Try.pinned (OpenSpec.ofChange Rows.fnExactIsCombosSpec) :=
  OpenClaim.holds_of_wide 4 Try.f4 rfl rfl rfl rfl rfl rfl rfl ⟨rfl, rfl, rfl, rfl, rfl⟩ rfl rfl rfl rfl rfl (by kernel_rfl) Try.func4 (by kernel_rfl)
    (of_decide_eq_true (by kernel_rfl)) (by unfold Func.isWrapper; first | (rw [if_pos (by decide +kernel)]; kernel_rfl) | (rw [if_neg (by decide +kernel)]; exact ⟨rfl, rfl⟩))
    (fun os started H enc _ => lifted os started H enc)

theorem proved : Rows.FnExactIsCombosSaid := over
#print axioms proved
end fnExactIsCombos
end Go.Proofs.Ytmjjamfkgingcaa
