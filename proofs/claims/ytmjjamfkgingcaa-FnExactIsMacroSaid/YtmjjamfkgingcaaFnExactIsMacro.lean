/-
  The function laws.FnExactIsMacro returns true at every input, and what it was given reads behind the call as before.
  NO CONDITION. The plain law is proved over an abstract form of the code that the kernel has checked against the program's own.
-/
import Derived.Test.YtmjjamfkgingcaaRows
import Derived.Test.YtmjjamfkgingcaaLibF
import Derived.Test.YtmjjamfkgingcaaDgLFnExactIsMacro
import Derived.WalkKit
import Derived.ProofKit
import Derived.OpenShut
import Derived.ShutString
namespace Go.Ag
theorem law_FnExactIsMacro (σ : Heap) (us : List V) (hro : AllRo σ) (ha : ArgsOk σ [(.sl (.pair (.int .i64) (.pair (.int .i64) (.pair (.int .i64) (.unit)))), false)] us) : s_laws_FnExactIsMacro us σ fun r _ => r = .bool true :=
  law_of (f := df_laws_FnExactIsMacro) (hs := h_laws_FnExactIsMacro) (by have := sp_laws_FnExactIsMacro; unfold p_laws_FnExactIsMacro at this; exact this) rfl rfl ob_laws_FnExactIsMacro st_laws_FnExactIsMacro ck_laws_FnExactIsMacro (fun x hw => by have := plain_FnExactIsMacro x hw; exact ⟨Eq.mp (ou_laws_FnExactIsMacro x) this.1, (vu_laws_FnExactIsMacro x).symm.trans this.2⟩) σ us hro ha
end Go.Ag
namespace Go.Proofs.Ytmjjamfkgingcaa
namespace fnExactIsMacro
open Go.ChangeShapes Go.WideShapes Go.ChangeAt Go.RowKit Go.Ag

theorem own : ownKnob Try.prog.godebug = none := by kernel_rfl
theorem hspec (H : Type) (ds : List (DataW H)) (h : ds.length = 1) : Rows.fnExactIsMacroSpec.fn H ds = { results := [.lit (.bool true)], args := ds } := by
  match ds, h with
  | [d0], _ => rfl

set_option maxRecDepth 100000 in
theorem lifted (os : Os) (started : os.Started) (H : Type) (enc : TypeId × Value → H) :
    ReturnsInHanded {} Try.checked os 14 .any (Rows.fnExactIsMacroSpec.pre6 enc Try.prog Try.f14 Rows.fnExactIsMacroRow.domain false) (Rows.fnExactIsMacroSpec.post enc Try.prog Try.f14 false true false false) := by
  refine returnsInHanded_of_change (C := Try.checked) own started (by kernel_rfl) Try.func14
    (ChangeSpec.witness6 (enc := enc) (C := Try.checked) false ⟨#[], #[.slice none 0 0], []⟩ 8 (by kernel_rfl) (by kernel_rfl) (by kernel_rfl) (by kernel_rfl)) ?_
  intro W base args ds gs before hval hW _ _
  exact law_contract (tys := [(.sl (.pair (.int .i64) (.pair (.int .i64) (.pair (.int .i64) (.unit)))), false)]) (d := 3) (tb := 4) l_laws_FnExactIsMacro (by kernel_rfl) (by kernel_rfl) (by kernel_rfl) (by kernel_rfl) Try.underlying4 rfl (hspec H) law_FnExactIsMacro hval hW

theorem over : Rows.fnExactIsMacroRow.holds Try.pinned (OpenSpec.ofChange Rows.fnExactIsMacroSpec) :=
  OpenClaim.holds_of_wide 14 Try.f14 rfl rfl rfl rfl rfl rfl rfl ⟨rfl, rfl, rfl, rfl, rfl⟩ rfl rfl rfl rfl rfl (by kernel_rfl) Try.func14 (by kernel_rfl)
    (of_decide_eq_true (by kernel_rfl)) (by unfold Func.isWrapper; first | (rw [if_pos (by decide +kernel)]; kernel_rfl) | (rw [if_neg (by decide +kernel)]; exact ⟨rfl, rfl⟩))
    (fun os started H enc _ => lifted os started H enc)

theorem proved : Rows.FnExactIsMacroSaid := over
#print axioms proved
end fnExactIsMacro
end Go.Proofs.Ytmjjamfkgingcaa
