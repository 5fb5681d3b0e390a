/-
  The function laws.FnExactReportOf returns true at every input, and what it was given reads behind the call as before.
  NO CONDITION. The plain law is proved over an abstract form of the code that the kernel has checked against the program's own.
-/
import Derived.Test.YthljgcjmaabnoaaRows
import Derived.Test.YthljgcjmaabnoaaLibF
import Derived.Test.YthljgcjmaabnoaaDgLFnExactReportOf
import Derived.WalkKit
import Derived.ProofKit
import Derived.OpenShut
import Derived.ShutString
namespace Go.Ag
theorem law_FnExactReportOf (σ : Heap) (us : List V) (hro : AllRo σ) (ha : ArgsOk σ [(.sl (.pair (.int .i64) (.pair (.pair (.int .i64) (.pair (.int .i64) (.pair (.int .i64) (.pair (.int .i64) (.unit))))) (.unit))), false)] us) : s_laws_FnExactReportOf us σ fun r _ => r = .bool true :=
  law_of (f := df_laws_FnExactReportOf) (hs := h_laws_FnExactReportOf) (by have := sp_laws_FnExactReportOf; unfold p_laws_FnExactReportOf at this; exact this) rfl rfl ob_laws_FnExactReportOf st_laws_FnExactReportOf ck_laws_FnExactReportOf (fun x hw => by have := plain_FnExactReportOf x hw; exact ⟨Eq.mp (ou_laws_FnExactReportOf x) this.1, (vu_laws_FnExactReportOf x).symm.trans this.2⟩) σ us hro ha
end Go.Ag
namespace Go.Proofs.Ythljgcjmaabnoaa
namespace fnExactReportOf
open Go.ChangeShapes Go.WideShapes Go.ChangeAt Go.RowKit Go.Ag

theorem own : ownKnob Try.prog.godebug = none := by kernel_rfl
theorem hspec (H : Type) (ds : List (DataW H)) (h : ds.length = 1) : Rows.fnExactReportOfSpec.fn H ds = { results := [.lit (.bool true)], args := ds } := by
  match ds, h with
  | [d0], _ => rfl

set_option maxRecDepth 100000 in
theorem lifted (os : Os) (started : os.Started) (H : Type) (enc : TypeId × Value → H) :
    ReturnsInHanded {} Try.checked os 10 .any (Rows.fnExactReportOfSpec.pre6 enc Try.prog Try.f10 Rows.fnExactReportOfRow.domain false) (Rows.fnExactReportOfSpec.post enc Try.prog Try.f10 false true false false) := by
  refine returnsInHanded_of_change (C := Try.checked) own started (by kernel_rfl) Try.func10
    (ChangeSpec.witness6 (enc := enc) (C := Try.checked) false ⟨#[], #[.slice none 0 0], []⟩ 8 (by kernel_rfl) (by kernel_rfl) (by kernel_rfl) (by kernel_rfl)) ?_
  intro W base args ds gs before hval hW _ _
  exact law_contract (tys := [(.sl (.pair (.int .i64) (.pair (.pair (.int .i64) (.pair (.int .i64) (.pair (.int .i64) (.pair (.int .i64) (.unit))))) (.unit))), false)]) (d := 4) (tb := 4) l_laws_FnExactReportOf (by kernel_rfl) (by kernel_rfl) (by kernel_rfl) (by kernel_rfl) Try.underlying4 rfl (hspec H) law_FnExactReportOf hval hW

theorem over : Rows.fnExactReportOfRow.holds Try.pinned (OpenSpec.ofChange Rows.fnExactReportOfSpec) :=
  OpenClaim.holds_of_wide 10 Try.f10 rfl rfl rfl rfl rfl rfl rfl ⟨rfl, rfl, rfl, rfl, rfl⟩ rfl rfl rfl rfl rfl (by kernel_rfl) Try.func10 (by kernel_rfl)
    (of_decide_eq_true (by kernel_rfl)) (by unfold Func.isWrapper; first | (rw [if_pos (by decide +kernel)]; kernel_rfl) | (rw [if_neg (by decide +kernel)]; exact ⟨rfl, rfl⟩))
    (fun os started H enc _ => lifted os started H enc)

theorem proved : Rows.FnExactReportOfSaid := over
#print axioms proved
end fnExactReportOf
end Go.Proofs.Ythljgcjmaabnoaa
