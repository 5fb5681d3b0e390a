/-
  The function laws.FnExactLayersOn returns true at every input, and what it was given reads behind the call as before.
  NO CONDITION. The plain law is proved over an abstract form of the code that the kernel has checked against the program's own.
-/
import Derived.Test.YtmjjamfkgingcaaRows
import Derived.Test.YtmjjamfkgingcaaLibF
import Derived.Test.YtmjjamfkgingcaaDgLLay
import Derived.Test.YtmjjamfkgingcaaDgLFnExactLayersOn
import Derived.WalkKit
import Derived.ProofKit
import Derived.OpenShut
import Derived.ShutString
namespace Go.Ag
theorem law_FnExactLayersOn (σ : Heap) (us : List V) (hro : AllRo σ) (ha : ArgsOk σ [(.int .i64, false), (.sl (.pair (.int .i64) (.pair (.pair (.int .i64) (.pair (.int .i64) (.pair (.int .i64) (.pair (.int .i64) (.unit))))) (.unit))), false)] us) : s_laws_FnExactLayersOn us σ fun r _ => r = .bool true :=
  law_of (f := df_laws_FnExactLayersOn) (hs := h_laws_FnExactLayersOn) (by have := sp_laws_FnExactLayersOn; unfold p_laws_FnExactLayersOn at this; exact this) rfl rfl ob_laws_FnExactLayersOn st_laws_FnExactLayersOn ck_laws_FnExactLayersOn (fun x hw => by have := plain_FnExactLayersOn x hw; unfold ok_laws_FnExactLayersOn v_laws_FnExactLayersOn at this; exact this) σ us hro ha
end Go.Ag
namespace Go.Proofs.Ytmjjamfkgingcaa
namespace fnExactLayersOn
open Go.ChangeShapes Go.WideShapes Go.ChangeAt Go.RowKit Go.Ag

theorem own : ownKnob Try.prog.godebug = none := by kernel_rfl
theorem hspec (H : Type) (ds : List (DataW H)) (h : ds.length = 2) : Rows.fnExactLayersOnSpec.fn H ds = { results := [.lit (.bool true)], args := ds } := by
  match ds, h with
  | [d0, d1], _ => rfl

set_option maxRecDepth 100000 in
theorem lifted (os : Os) (started : os.Started) (H : Type) (enc : TypeId × Value → H) :
    ReturnsInHanded {} Try.checked os 8 .any (Rows.fnExactLayersOnSpec.pre6 enc Try.prog Try.f8 Rows.fnExactLayersOnRow.domain false) (Rows.fnExactLayersOnSpec.post enc Try.prog Try.f8 false true false false) := by
  refine returnsInHanded_of_change (C := Try.checked) own started (by kernel_rfl) Try.func8
    (ChangeSpec.witness6 (enc := enc) (C := Try.checked) false ⟨#[], #[.int .i64 0, .slice none 0 0], []⟩ 8 (by kernel_rfl) (by kernel_rfl) (by kernel_rfl) (by kernel_rfl)) ?_
  intro W base args ds gs before hval hW _ _
  exact law_contract (tys := [(.int .i64, false), (.sl (.pair (.int .i64) (.pair (.pair (.int .i64) (.pair (.int .i64) (.pair (.int .i64) (.pair (.int .i64) (.unit))))) (.unit))), false)]) (d := 4) (tb := 4) l_laws_FnExactLayersOn (by kernel_rfl) (by kernel_rfl) (by kernel_rfl) (by kernel_rfl) Try.underlying4 rfl (hspec H) law_FnExactLayersOn hval hW

theorem over : Rows.fnExactLayersOnRow.holds Try.pinned (OpenSpec.ofChange Rows.fnExactLayersOnSpec) :=
  OpenClaim.holds_of_wide 8 Try.f8 rfl rfl rfl rfl rfl rfl rfl ⟨rfl, rfl, rfl, rfl, rfl⟩ rfl rfl rfl rfl rfl (by kernel_rfl) Try.func8 (by kernel_rfl)
    (of_decide_eq_true (by kernel_rfl)) (by unfold Func.isWrapper; first | (rw [if_pos (by decide +kernel)]; kernel_rfl) | (rw [if_neg (by decide +kernel)]; exact ⟨rfl, rfl⟩))
    (fun os started H enc _ => lifted os started H enc)

theorem proved : Rows.FnExactLayersOnSaid := over
#print axioms proved
end fnExactLayersOn
end Go.Proofs.Ytmjjamfkgingcaa
