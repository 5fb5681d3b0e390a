/-
  The function laws.FnExactNewEngine returns true at every input, and what it was given reads behind the call as before.
  NO CONDITION. The plain law is proved over an abstract form of the code that the kernel has checked against the program's own.
-/
import Derived.Test.YthljgcjmaabnoaaRows
import Derived.Test.YthljgcjmaabnoaaLibG
import Derived.Test.YthljgcjmaabnoaaDgLFnExactNewEngine
import Derived.WalkKit
import Derived.ProofKit
import Derived.OpenShut
import Derived.ShutString
namespace Go.Ag
theorem law_FnExactNewEngine (σ : Heap) (us : List V) (hro : AllRo σ) (ha : ArgsOk σ [(.pair (.int .i64) (.pair (.sl (.sl (.pair (.int .i64) (.pair (.int .i64) (.pair (.int .i64) (.pair (.int .i64) (.unit))))))) (.unit)), true), (.sl (.sl (.pair (.int .i64) (.pair (.int .i64) (.pair (.int .i64) (.unit))))), false)] us) : s_laws_FnExactNewEngine us σ fun r _ => r = .bool true :=
  law_of (f := df_laws_FnExactNewEngine) (hs := h_laws_FnExactNewEngine) (by have := sp_laws_FnExactNewEngine; unfold p_laws_FnExactNewEngine at this; exact this) rfl rfl ob_laws_FnExactNewEngine st_laws_FnExactNewEngine ck_laws_FnExactNewEngine (fun x hw => by have := plain_FnExactNewEngine x hw; exact ⟨Eq.mp (ou_laws_FnExactNewEngine x) this.1, (vu_laws_FnExactNewEngine x).symm.trans this.2⟩) σ us hro ha
end Go.Ag
namespace Go.Proofs.Ythljgcjmaabnoaa
namespace fnExactNewEngine
open Go.ChangeShapes Go.WideShapes Go.ChangeAt Go.RowKit Go.Ag

theorem own : ownKnob Try.prog.godebug = none := by kernel_rfl
theorem hspec (H : Type) (ds : List (DataW H)) (h : ds.length = 2) : Rows.fnExactNewEngineSpec.fn H ds = { results := [.lit (.bool true)], args := ds } := by
  match ds, h with
  | [d0, d1], _ => rfl

set_option maxRecDepth 100000 in
theorem lifted (os : Os) (started : os.Started) (H : Type) (enc : TypeId × Value → H) :
    ReturnsInHanded {} Try.checked os 11 .any (Rows.fnExactNewEngineSpec.pre6 enc Try.prog Try.f11 Rows.fnExactNewEngineRow.domain false) (Rows.fnExactNewEngineSpec.post enc Try.prog Try.f11 false true false false) := by
  refine returnsInHanded_of_change (C := Try.checked) own started (by kernel_rfl) Try.func11
    (ChangeSpec.witness6 (enc := enc) (C := Try.checked) false ⟨#[], #[.agg #[.int .i64 0, .slice none 0 0], .slice none 0 0], []⟩ 8 (by kernel_rfl) (by kernel_rfl) (by kernel_rfl) (by kernel_rfl)) ?_
  intro W base args ds gs before hval hW _ _
  exact law_contract (tys := [(.pair (.int .i64) (.pair (.sl (.sl (.pair (.int .i64) (.pair (.int .i64) (.pair (.int .i64) (.pair (.int .i64) (.unit))))))) (.unit)), true), (.sl (.sl (.pair (.int .i64) (.pair (.int .i64) (.pair (.int .i64) (.unit))))), false)]) (d := 5) (tb := 4) l_laws_FnExactNewEngine (by kernel_rfl) (by kernel_rfl) (by kernel_rfl) (by kernel_rfl) Try.underlying4 rfl (hspec H) law_FnExactNewEngine hval hW

theorem over : Rows.fnExactNewEngineRow.holds Try.pinned (OpenSpec.ofChange Rows.fnExactNewEngineSpec) :=
  OpenClaim.holds_of_wide 11 Try.f11 rfl rfl rfl rfl rfl rfl rfl ⟨rfl, rfl, rfl, rfl, rfl⟩ rfl rfl rfl rfl rfl (by kernel_rfl) Try.func11 (by kernel_rfl)
    (of_decide_eq_true (by kernel_rfl)) (by unfold Func.isWrapper; first | (rw [if_pos (by decide +kernel)]; kernel_rfl) | (rw [if_neg (by decide +kernel)]; exact ⟨rfl, rfl⟩))
    (fun os started H enc _ => lifted os started H enc)

theorem proved : Rows.FnExactNewEngineSaid := over
#print axioms proved
end fnExactNewEngine
end Go.Proofs.Ythljgcjmaabnoaa
