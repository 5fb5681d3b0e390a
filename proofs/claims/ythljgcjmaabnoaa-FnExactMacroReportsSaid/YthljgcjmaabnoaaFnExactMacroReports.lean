/-
  The function laws.FnExactMacroReports returns true at every input, and what it was given reads behind the call as before.
  NO CONDITION. The plain law is proved over an abstract form of the code that the kernel has checked against the program's own.
-/
import Derived.Test.YthljgcjmaabnoaaRows
import Derived.Test.YthljgcjmaabnoaaLibG
import Derived.Test.YthljgcjmaabnoaaDgLFnExactMacroReports
import Derived.WalkKit
import Derived.ProofKit
import Derived.OpenShut
import Derived.ShutString
namespace Go.Ag
theorem law_FnExactMacroReports (σ : Zax) (us : List V) (hro : Zkq σ) (ha : Zsp σ [(.sl (.pair (.int .i64) (.pair (.pair (.int .i64) (.pair (.int .i64) (.pair (.int .i64) (.pair (.int .i64) (.unit))))) (.unit))), false), (.sl (.pair (.int .i64) (.pair (.int .i64) (.pair (.int .i64) (.unit)))), false)] us) : Zbr us σ fun r _ => r = .bool true :=
  ZF6 (f := df_laws_FnExactMacroReports) (hs := Za2) (by have := Zin; unfold Zc4 at this; exact this) rfl rfl ⟨ZpL, Zqv, Zf7, Zgf, ZlB, Zf7, Zgf, ZhJ, ZgF, Zf7, ZqR, Zgf, ZpB, ZgF, Ziu, Zf7, Zgf, ZhJ, ZgF, Ziu, trivial⟩ (by kernel_rfl) (fun x => by kernel_rfl) (fun x hw => by have := Zjl x hw; exact ⟨Eq.mp (ZiD x) this.1, (ZiP x).symm.trans this.2⟩) σ us hro ha
end Go.Ag
namespace Go.Proofs.Ythljgcjmaabnoaa
namespace fnExactMacroReports
open Go.ChangeShapes Go.WideShapes Go.ChangeAt Go.RowKit Go.Ag

theorem own : ownKnob Try.prog.godebug = none := by kernel_rfl
theorem hspec (H : Type) (ds : List (DataW H)) (h : ds.length = 2) : Rows.fnExactMacroReportsSpec.fn H ds = { results := [.lit (.bool true)], args := ds } := by
  match ds, h with
  | [d0, d1], _ => rfl

set_option maxRecDepth 100000 in
theorem lifted (os : Os) (started : os.Started) (H : Type) (enc : TypeId × Value → H) :
    ReturnsInHanded {} Try.checked os 12 .any (Rows.fnExactMacroReportsSpec.pre6 enc Try.prog Try.f12 Rows.fnExactMacroReportsRow.domain false) (Rows.fnExactMacroReportsSpec.post enc Try.prog Try.f12 false true false false) := by
  refine returnsInHanded_of_change (C := Try.checked) own started (by kernel_rfl) Try.func12
    (ChangeSpec.witness6 (enc := enc) (C := Try.checked) false ⟨#[], #[.slice none 0 0, .slice none 0 0], []⟩ 8 (by kernel_rfl) (by kernel_rfl) (by kernel_rfl) (by kernel_rfl)) ?_
  intro W base args ds gs before hval hW _ _
  exact Zut (tys := [(.sl (.pair (.int .i64) (.pair (.pair (.int .i64) (.pair (.int .i64) (.pair (.int .i64) (.pair (.int .i64) (.unit))))) (.unit))), false), (.sl (.pair (.int .i64) (.pair (.int .i64) (.pair (.int .i64) (.unit)))), false)]) (d := 4) (tb := 4) l_laws_FnExactMacroReports (by kernel_rfl) (by kernel_rfl) (by kernel_rfl) (by kernel_rfl) Try.underlying4 rfl (hspec H) law_FnExactMacroReports hval hW

theorem over : Rows.fnExactMacroReportsRow.holds Try.pinned (OpenSpec.ofChange Rows.fnExactMacroReportsSpec) :=
  OpenClaim.holds_of_wide 12 Try.f12 rfl rfl rfl rfl rfl rfl rfl ⟨rfl, rfl, rfl, rfl, rfl⟩ rfl rfl rfl rfl rfl (by kernel_rfl) Try.func12 (by kernel_rfl)
    (of_decide_eq_true (by kernel_rfl)) (by unfold Func.isWrapper; first | (rw [if_pos (by decide +kernel)]; kernel_rfl) | (rw [if_neg (by decide +kernel)]; exact ⟨rfl, rfl⟩))
    (fun os started H enc _ => lifted os started H enc)

theorem proved : Rows.FnExactMacroReportsSaid := over
#print axioms proved
end fnExactMacroReports
end Go.Proofs.Ythljgcjmaabnoaa
