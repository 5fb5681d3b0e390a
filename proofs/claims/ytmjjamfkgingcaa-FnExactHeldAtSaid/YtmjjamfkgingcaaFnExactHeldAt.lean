/-
  The function laws.FnExactHeldAt returns true at every input, and what it was given reads behind the call as before.
  NO CONDITION. The plain law is proved over an abstract form of the code that the kernel has checked against the program's own.
-/
import Derived.Test.YtmjjamfkgingcaaRows
import Derived.Test.YtmjjamfkgingcaaLibF
import Derived.Test.YtmjjamfkgingcaaDgLFnExactHeldAt
import Derived.WalkKit
import Derived.ProofKit
import Derived.OpenShut
import Derived.ShutString
namespace Go.Ag
theorem law_FnExactHeldAt (σ : Heap) (us : List V) (hro : AllRo σ) (ha : ArgsOk σ [(.pair (.pair (.int .i64) (.pair (.sl (.sl (.pair (.int .i64) (.pair (.int .i64) (.pair (.int .i64) (.pair (.int .i64) (.unit))))))) (.unit))) (.pair (.sl (.sl (.pair (.int .i64) (.pair (.int .i64) (.pair (.int .i64) (.unit)))))) (.pair (.int .i64) (.pair (.sl (.pair (.int .i64) (.pair (.pair (.int .i64) (.pair (.int .i64) (.pair (.int .i64) (.pair (.int .i64) (.unit))))) (.unit)))) (.pair (.int .i64) (.pair (.bool) (.unit)))))), true), (.int .i64, false)] us) : s_laws_FnExactHeldAt us σ fun r _ => r = .bool true :=
  law_of (f := df_laws_FnExactHeldAt) (hs := h_laws_FnExactHeldAt) (by have := sp_laws_FnExactHeldAt; unfold p_laws_FnExactHeldAt at this; exact this) rfl rfl ob_laws_FnExactHeldAt st_laws_FnExactHeldAt ck_laws_FnExactHeldAt (fun x hw => by have := plain_FnExactHeldAt x hw; unfold ok_laws_FnExactHeldAt v_laws_FnExactHeldAt at this; exact this) σ us hro ha
end Go.Ag
namespace Go.Proofs.Ytmjjamfkgingcaa
namespace fnExactHeldAt
open Go.ChangeShapes Go.WideShapes Go.ChangeAt Go.RowKit Go.Ag

theorem own : ownKnob Try.prog.godebug = none := by kernel_rfl
theorem hspec (H : Type) (ds : List (DataW H)) (h : ds.length = 2) : Rows.fnExactHeldAtSpec.fn H ds = { results := [.lit (.bool true)], args := ds } := by
  match ds, h with
  | [d0, d1], _ => rfl

set_option maxRecDepth 100000 in
theorem lifted (os : Os) (started : os.Started) (H : Type) (enc : TypeId × Value → H) :
    ReturnsInHanded {} Try.checked os 12 .any (Rows.fnExactHeldAtSpec.pre6 enc Try.prog Try.f12 Rows.fnExactHeldAtRow.domain false) (Rows.fnExactHeldAtSpec.post enc Try.prog Try.f12 false true false false) := by
  refine returnsInHanded_of_change (C := Try.checked) own started (by kernel_rfl) Try.func12
    (ChangeSpec.witness6 (enc := enc) (C := Try.checked) false ⟨#[], #[.agg #[.int .i64 0, .slice none 0 0, .slice none 0 0, .int .i64 0, .slice none 0 0, .int .i64 0, .bool false], .int .i64 0], []⟩ 8 (by kernel_rfl) (by kernel_rfl) (by kernel_rfl) (by kernel_rfl)) ?_
  intro W base args ds gs before hval hW _ _
  exact law_contract (tys := [(.pair (.pair (.int .i64) (.pair (.sl (.sl (.pair (.int .i64) (.pair (.int .i64) (.pair (.int .i64) (.pair (.int .i64) (.unit))))))) (.unit))) (.pair (.sl (.sl (.pair (.int .i64) (.pair (.int .i64) (.pair (.int .i64) (.unit)))))) (.pair (.int .i64) (.pair (.sl (.pair (.int .i64) (.pair (.pair (.int .i64) (.pair (.int .i64) (.pair (.int .i64) (.pair (.int .i64) (.unit))))) (.unit)))) (.pair (.int .i64) (.pair (.bool) (.unit)))))), true), (.int .i64, false)]) (d := 6) (tb := 4) l_laws_FnExactHeldAt (by kernel_rfl) (by kernel_rfl) (by kernel_rfl) (by kernel_rfl) Try.underlying4 rfl (hspec H) law_FnExactHeldAt hval hW

theorem over : Rows.fnExactHeldAtRow.holds Try.pinned (OpenSpec.ofChange Rows.fnExactHeldAtSpec) :=
  OpenClaim.holds_of_wide 12 Try.f12 rfl rfl rfl rfl rfl rfl rfl ⟨rfl, rfl, rfl, rfl, rfl⟩ rfl rfl rfl rfl rfl (by kernel_rfl) Try.func12 (by kernel_rfl)
    (of_decide_eq_true (by kernel_rfl)) (by unfold Func.isWrapper; first | (rw [if_pos (by decide +kernel)]; kernel_rfl) | (rw [if_neg (by decide +kernel)]; exact ⟨rfl, rfl⟩))
    (fun os started H enc _ => lifted os started H enc)

theorem proved : Rows.FnExactHeldAtSaid := over
#print axioms proved
end fnExactHeldAt
end Go.Proofs.Ytmjjamfkgingcaa
