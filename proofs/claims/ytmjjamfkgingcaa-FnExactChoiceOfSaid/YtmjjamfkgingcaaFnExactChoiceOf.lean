/-
  The function laws.FnExactChoiceOf returns true at every input, and what it was given reads behind the call as before.
  NO CONDITION. The plain law is proved over an abstract form of the code that the kernel has checked against the program's own.
-/
import Derived.Test.YtmjjamfkgingcaaRows
import Derived.Test.YtmjjamfkgingcaaLibF
import Derived.Test.YtmjjamfkgingcaaDgLCho
import Derived.Test.YtmjjamfkgingcaaDgLFnExactChoiceOf
import Derived.WalkKit
import Derived.ProofKit
import Derived.OpenShut
import Derived.ShutString
namespace Go.Ag
theorem law_FnExactChoiceOf (σ : Heap) (us : List V) (hro : AllRo σ) (ha : ArgsOk σ [(.pair (.int .i64) (.pair (.int .i64) (.pair (.int .i64) (.unit))), true), (.int .i64, false), (.int .i64, false), (.sl (.pair (.int .i64) (.pair (.int .i64) (.pair (.bool) (.unit)))), false), (.int .i64, false)] us) : s_laws_FnExactChoiceOf us σ fun r _ => r = .bool true :=
  law_of (f := df_laws_FnExactChoiceOf) (hs := h_laws_FnExactChoiceOf) (by have := sp_laws_FnExactChoiceOf; unfold p_laws_FnExactChoiceOf at this; exact this) rfl rfl ob_laws_FnExactChoiceOf st_laws_FnExactChoiceOf ck_laws_FnExactChoiceOf (fun x hw => by have := plain_FnExactChoiceOf x hw; unfold ok_laws_FnExactChoiceOf v_laws_FnExactChoiceOf at this; exact this) σ us hro ha
end Go.Ag
namespace Go.Proofs.Ytmjjamfkgingcaa
namespace fnExactChoiceOf
open Go.ChangeShapes Go.WideShapes Go.ChangeAt Go.RowKit Go.Ag

theorem own : ownKnob Try.prog.godebug = none := by kernel_rfl
theorem hspec (H : Type) (ds : List (DataW H)) (h : ds.length = 5) : Rows.fnExactChoiceOfSpec.fn H ds = { results := [.lit (.bool true)], args := ds } := by
  match ds, h with
  | [d0, d1, d2, d3, d4], _ => rfl

set_option maxRecDepth 100000 in
theorem lifted (os : Os) (started : os.Started) (H : Type) (enc : TypeId × Value → H) :
    ReturnsInHanded {} Try.checked os 5 .any (Rows.fnExactChoiceOfSpec.pre6 enc Try.prog Try.f5 Rows.fnExactChoiceOfRow.domain false) (Rows.fnExactChoiceOfSpec.post enc Try.prog Try.f5 false true false false) := by
  refine returnsInHanded_of_change (C := Try.checked) own started (by kernel_rfl) Try.func5
    (ChangeSpec.witness6 (enc := enc) (C := Try.checked) false ⟨#[], #[.agg #[.int .i64 0, .int .i64 0, .int .i64 0], .int .i64 0, .int .i64 0, .slice none 0 0, .int .i64 0], []⟩ 8 (by kernel_rfl) (by kernel_rfl) (by kernel_rfl) (by kernel_rfl)) ?_
  intro W base args ds gs before hval hW _ _
  exact law_contract (tys := [(.pair (.int .i64) (.pair (.int .i64) (.pair (.int .i64) (.unit))), true), (.int .i64, false), (.int .i64, false), (.sl (.pair (.int .i64) (.pair (.int .i64) (.pair (.bool) (.unit)))), false), (.int .i64, false)]) (d := 3) (tb := 4) l_laws_FnExactChoiceOf (by kernel_rfl) (by kernel_rfl) (by kernel_rfl) (by kernel_rfl) Try.underlying4 rfl (hspec H) law_FnExactChoiceOf hval hW

theorem over : Rows.fnExactChoiceOfRow.holds Try.pinned (OpenSpec.ofChange Rows.fnExactChoiceOfSpec) :=
  OpenClaim.holds_of_wide 5 Try.f5 rfl rfl rfl rfl rfl rfl rfl ⟨rfl, rfl, rfl, rfl, rfl⟩ rfl rfl rfl rfl rfl (by kernel_rfl) Try.func5 (by kernel_rfl)
    (of_decide_eq_true (by kernel_rfl)) (by unfold Func.isWrapper; first | (rw [if_pos (by decide +kernel)]; kernel_rfl) | (rw [if_neg (by decide +kernel)]; exact ⟨rfl, rfl⟩))
    (fun os started H enc _ => lifted os started H enc)

theorem proved : Rows.FnExactChoiceOfSaid := over
#print axioms proved
end fnExactChoiceOf
end Go.Proofs.Ytmjjamfkgingcaa
