/-
  The function laws.FnExactSameSent returns true at every input, and what it was given reads behind the call as before.
  NO CONDITION. The plain law is proved over an abstract form of the code that the kernel has checked against the program's own.
-/
import Derived.Test.YtmjjamfkgingcaaRows
import Derived.Test.YtmjjamfkgingcaaLibF
import Derived.Test.YtmjjamfkgingcaaDgLSam
import Derived.Test.YtmjjamfkgingcaaDgLFnExactSameSent
import Derived.WalkKit
import Derived.ProofKit
import Derived.OpenShut
import Derived.ShutString
namespace Go.Ag
theorem law_FnExactSameSent (σ : Heap) (us : List V) (hro : AllRo σ) (ha : ArgsOk σ [(.sl (.pair (.int .i64) (.pair (.pair (.int .i64) (.pair (.sl (.int .i64)) (.unit))) (.unit))), false), (.sl (.pair (.int .i64) (.pair (.pair (.int .i64) (.pair (.sl (.int .i64)) (.unit))) (.unit))), false)] us) : s_laws_FnExactSameSent us σ fun r _ => r = .bool true :=
  law_of (f := df_laws_FnExactSameSent) (hs := h_laws_FnExactSameSent) (by have := sp_laws_FnExactSameSent; unfold p_laws_FnExactSameSent at this; exact this) rfl rfl ob_laws_FnExactSameSent st_laws_FnExactSameSent ck_laws_FnExactSameSent (fun x hw => by have := plain_FnExactSameSent x hw; unfold ok_laws_FnExactSameSent v_laws_FnExactSameSent at this; exact this) σ us hro ha
end Go.Ag
namespace Go.Proofs.Ytmjjamfkgingcaa
namespace fnExactSameSent
open Go.ChangeShapes Go.WideShapes Go.ChangeAt Go.RowKit Go.Ag

theorem own : ownKnob Try.prog.godebug = none := by kernel_rfl
theorem hspec (H : Type) (ds : List (DataW H)) (h : ds.length = 2) : Rows.fnExactSameSentSpec.fn H ds = { results := [.lit (.bool true)], args := ds } := by
  match ds, h with
  | [d0, d1], _ => rfl

set_option maxRecDepth 100000 in
theorem lifted (os : Os) (started : os.Started) (H : Type) (enc : TypeId × Value → H) :
    ReturnsInHanded {} Try.checked os 7 .any (Rows.fnExactSameSentSpec.pre6 enc Try.prog Try.f7 Rows.fnExactSameSentRow.domain false) (Rows.fnExactSameSentSpec.post enc Try.prog Try.f7 false true false false) := by
  refine returnsInHanded_of_change (C := Try.checked) own started (by kernel_rfl) Try.func7
    (ChangeSpec.witness6 (enc := enc) (C := Try.checked) false ⟨#[], #[.slice none 0 0, .slice none 0 0], []⟩ 8 (by kernel_rfl) (by kernel_rfl) (by kernel_rfl) (by kernel_rfl)) ?_
  intro W base args ds gs before hval hW _ _
  exact law_contract (tys := [(.sl (.pair (.int .i64) (.pair (.pair (.int .i64) (.pair (.sl (.int .i64)) (.unit))) (.unit))), false), (.sl (.pair (.int .i64) (.pair (.pair (.int .i64) (.pair (.sl (.int .i64)) (.unit))) (.unit))), false)]) (d := 5) (tb := 4) l_laws_FnExactSameSent (by kernel_rfl) (by kernel_rfl) (by kernel_rfl) (by kernel_rfl) Try.underlying4 rfl (hspec H) law_FnExactSameSent hval hW

theorem over : Rows.fnExactSameSentRow.holds Try.pinned (OpenSpec.ofChange Rows.fnExactSameSentSpec) :=
  OpenClaim.holds_of_wide 7 Try.f7 rfl rfl rfl rfl rfl rfl rfl ⟨rfl, rfl, rfl, rfl, rfl⟩ rfl rfl rfl rfl rfl (by kernel_rfl) Try.func7 (by kernel_rfl)
    (of_decide_eq_true (by kernel_rfl)) (by unfold Func.isWrapper; first | (rw [if_pos (by decide +kernel)]; kernel_rfl) | (rw [if_neg (by decide +kernel)]; exact ⟨rfl, rfl⟩))
    (fun os started H enc _ => lifted os started H enc)

theorem proved : Rows.FnExactSameSentSaid := over
#print axioms proved
end fnExactSameSent
end Go.Proofs.Ytmjjamfkgingcaa
