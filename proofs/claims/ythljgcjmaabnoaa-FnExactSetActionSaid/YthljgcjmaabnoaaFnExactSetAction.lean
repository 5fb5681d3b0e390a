/-
  The function laws.FnExactSetAction returns true at every input, and what it was given reads behind the call as before.
  NO CONDITION. The plain law is proved over an abstract form of the code that the kernel has checked against the program's own.
-/
import Derived.Test.YthljgcjmaabnoaaRows
import Derived.Test.YthljgcjmaabnoaaLibF
import Derived.Test.YthljgcjmaabnoaaDgLFnExactSetAction
import Derived.WalkKit
import Derived.ProofKit
import Derived.OpenShut
import Derived.ShutString
namespace Go.Ag
theorem law_FnExactSetAction (σ : Heap) (us : List V) (hro : AllRo σ) (ha : ArgsOk σ [(.pair (.int .i64) (.pair (.sl (.sl (.pair (.int .i64) (.pair (.int .i64) (.pair (.int .i64) (.pair (.int .i64) (.unit))))))) (.unit)), true), (.int .i64, false), (.int .i64, false), (.pair (.int .i64) (.pair (.int .i64) (.pair (.int .i64) (.pair (.int .i64) (.unit)))), true)] us) : s_laws_FnExactSetAction us σ fun r _ => r = .bool true :=
  law_of (f := df_laws_FnExactSetAction) (hs := h_laws_FnExactSetAction) (by have := sp_laws_FnExactSetAction; unfold p_laws_FnExactSetAction at this; exact this) rfl rfl ob_laws_FnExactSetAction st_laws_FnExactSetAction ck_laws_FnExactSetAction (fun x hw => by have := plain_FnExactSetAction x hw; exact ⟨Eq.mp (ou_laws_FnExactSetAction x) this.1, (vu_laws_FnExactSetAction x).symm.trans this.2⟩) σ us hro ha
end Go.Ag
namespace Go.Proofs.Ythljgcjmaabnoaa
namespace fnExactSetAction
open Go.ChangeShapes Go.WideShapes Go.ChangeAt Go.RowKit Go.Ag

theorem own : ownKnob Try.prog.godebug = none := by kernel_rfl
theorem hspec (H : Type) (ds : List (DataW H)) (h : ds.length = 4) : Rows.fnExactSetActionSpec.fn H ds = { results := [.lit (.bool true)], args := ds } := by
  match ds, h with
  | [d0, d1, d2, d3], _ => rfl

set_option maxRecDepth 100000 in
theorem lifted (os : Os) (started : os.Started) (H : Type) (enc : TypeId × Value → H) :
    ReturnsInHanded {} Try.checked os 9 .any (Rows.fnExactSetActionSpec.pre6 enc Try.prog Try.f9 Rows.fnExactSetActionRow.domain false) (Rows.fnExactSetActionSpec.post enc Try.prog Try.f9 false true false false) := by
  refine returnsInHanded_of_change (C := Try.checked) own started (by kernel_rfl) Try.func9
    (ChangeSpec.witness6 (enc := enc) (C := Try.checked) false ⟨#[], #[.agg #[.int .i64 0, .slice none 0 0], .int .i64 0, .int .i64 0, .agg #[.int .i64 0, .int .i64 0, .int .i64 0, .int .i64 0]], []⟩ 8 (by kernel_rfl) (by kernel_rfl) (by kernel_rfl) (by kernel_rfl)) ?_
  intro W base args ds gs before hval hW _ _
  exact law_contract (tys := [(.pair (.int .i64) (.pair (.sl (.sl (.pair (.int .i64) (.pair (.int .i64) (.pair (.int .i64) (.pair (.int .i64) (.unit))))))) (.unit)), true), (.int .i64, false), (.int .i64, false), (.pair (.int .i64) (.pair (.int .i64) (.pair (.int .i64) (.pair (.int .i64) (.unit)))), true)]) (d := 5) (tb := 4) l_laws_FnExactSetAction (by kernel_rfl) (by kernel_rfl) (by kernel_rfl) (by kernel_rfl) Try.underlying4 rfl (hspec H) law_FnExactSetAction hval hW

theorem over : Rows.fnExactSetActionRow.holds Try.pinned (OpenSpec.ofChange Rows.fnExactSetActionSpec) :=
  OpenClaim.holds_of_wide 9 Try.f9 rfl rfl rfl rfl rfl rfl rfl ⟨rfl, rfl, rfl, rfl, rfl⟩ rfl rfl rfl rfl rfl (by kernel_rfl) Try.func9 (by kernel_rfl)
    (of_decide_eq_true (by kernel_rfl)) (by unfold Func.isWrapper; first | (rw [if_pos (by decide +kernel)]; kernel_rfl) | (rw [if_neg (by decide +kernel)]; exact ⟨rfl, rfl⟩))
    (fun os started H enc _ => lifted os started H enc)

theorem proved : Rows.FnExactSetActionSaid := over
#print axioms proved
end fnExactSetAction
end Go.Proofs.Ythljgcjmaabnoaa
