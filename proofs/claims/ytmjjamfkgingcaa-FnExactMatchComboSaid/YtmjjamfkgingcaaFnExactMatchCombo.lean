/-
  The function laws.FnExactMatchCombo returns true at every input, and what it was given reads behind the call as before.
  NO CONDITION. The plain law is proved over an abstract form of the code that the kernel has checked against the program's own.
-/
import Derived.Test.YtmjjamfkgingcaaRows
import Derived.Test.YtmjjamfkgingcaaLibF
import Derived.Test.YtmjjamfkgingcaaDgLFnExactMatchCombo
import Derived.WalkKit
import Derived.ProofKit
import Derived.OpenShut
import Derived.ShutString
namespace Go.Ag
theorem law_FnExactMatchCombo (σ : Heap) (us : List V) (hro : AllRo σ) (ha : ArgsOk σ [(.sl (.pair (.int .i64) (.pair (.int .i64) (.unit))), false), (.int .i64, false), (.sl (.pair (.int .i64) (.pair (.int .i64) (.pair (.bool) (.unit)))), false), (.int .i64, false)] us) : s_laws_FnExactMatchCombo us σ fun r _ => r = .bool true :=
  law_of (f := df_laws_FnExactMatchCombo) (hs := h_laws_FnExactMatchCombo) (by have := sp_laws_FnExactMatchCombo; unfold p_laws_FnExactMatchCombo at this; exact this) rfl rfl ob_laws_FnExactMatchCombo st_laws_FnExactMatchCombo ck_laws_FnExactMatchCombo (fun x hw => by have := plain_FnExactMatchCombo x hw; exact ⟨Eq.mp (ou_laws_FnExactMatchCombo x) this.1, (vu_laws_FnExactMatchCombo x).symm.trans this.2⟩) σ us hro ha
end Go.Ag
namespace Go.Proofs.Ytmjjamfkgingcaa
namespace fnExactMatchCombo
open Go.ChangeShapes Go.WideShapes Go.ChangeAt Go.RowKit Go.Ag

theorem own : ownKnob Try.prog.godebug = none := by kernel_rfl
theorem hspec (H : Type) (ds : List (DataW H)) (h : ds.length = 4) : Rows.fnExactMatchComboSpec.fn H ds = { results := [.lit (.bool true)], args := ds } := by
  match ds, h with
  | [d0, d1, d2, d3], _ => rfl

set_option maxRecDepth 100000 in
theorem lifted (os : Os) (started : os.Started) (H : Type) (enc : TypeId × Value → H) :
    ReturnsInHanded {} Try.checked os 13 .any (Rows.fnExactMatchComboSpec.pre6 enc Try.prog Try.f13 Rows.fnExactMatchComboRow.domain false) (Rows.fnExactMatchComboSpec.post enc Try.prog Try.f13 false true false false) := by
  refine returnsInHanded_of_change (C := Try.checked) own started (by kernel_rfl) Try.func13
    (ChangeSpec.witness6 (enc := enc) (C := Try.checked) false ⟨#[], #[.slice none 0 0, .int .i64 0, .slice none 0 0, .int .i64 0], []⟩ 8 (by kernel_rfl) (by kernel_rfl) (by kernel_rfl) (by kernel_rfl)) ?_
  intro W base args ds gs before hval hW _ _
  exact law_contract (tys := [(.sl (.pair (.int .i64) (.pair (.int .i64) (.unit))), false), (.int .i64, false), (.sl (.pair (.int .i64) (.pair (.int .i64) (.pair (.bool) (.unit)))), false), (.int .i64, false)]) (d := 3) (tb := 4) l_laws_FnExactMatchCombo (by kernel_rfl) (by kernel_rfl) (by kernel_rfl) (by kernel_rfl) Try.underlying4 rfl (hspec H) law_FnExactMatchCombo hval hW

theorem over : Rows.fnExactMatchComboRow.holds Try.pinned (OpenSpec.ofChange Rows.fnExactMatchComboSpec) :=
  OpenClaim.holds_of_wide 13 Try.f13 rfl rfl rfl rfl rfl rfl rfl ⟨rfl, rfl, rfl, rfl, rfl⟩ rfl rfl rfl rfl rfl (by kernel_rfl) Try.func13 (by kernel_rfl)
    (of_decide_eq_true (by kernel_rfl)) (by unfold Func.isWrapper; first | (rw [if_pos (by decide +kernel)]; kernel_rfl) | (rw [if_neg (by decide +kernel)]; exact ⟨rfl, rfl⟩))
    (fun os started H enc _ => lifted os started H enc)

theorem proved : Rows.FnExactMatchComboSaid := over
#print axioms proved
end fnExactMatchCombo
end Go.Proofs.Ytmjjamfkgingcaa
