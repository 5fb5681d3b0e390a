/-
  The function laws.FnExactIsKeymap returns true at every input, and what it was given reads behind the call as before.
  NO CONDITION. The plain law is proved over an abstract form of the code that the kernel has checked against the program's own.
-/
import Derived.Test.YtmjjamfkgingcaaRows
import Derived.Test.YtmjjamfkgingcaaLibF
import Derived.Test.YtmjjamfkgingcaaDgLKey
import Derived.Test.YtmjjamfkgingcaaDgLFnExactIsKeymap
import Derived.WalkKit
import Derived.ProofKit
import Derived.OpenShut
import Derived.ShutString
namespace Go.Ag
theorem law_FnExactIsKeymap (σ : Heap) (us : List V) (hro : AllRo σ) (ha : ArgsOk σ [(.pair (.int .i64) (.pair (.sl (.sl (.pair (.int .i64) (.pair (.int .i64) (.pair (.int .i64) (.pair (.int .i64) (.unit))))))) (.unit)), true)] us) : s_laws_FnExactIsKeymap us σ fun r _ => r = .bool true :=
  law_of (f := df_laws_FnExactIsKeymap) (hs := h_laws_FnExactIsKeymap) (by have := sp_laws_FnExactIsKeymap; unfold p_laws_FnExactIsKeymap at this; exact this) rfl rfl ob_laws_FnExactIsKeymap st_laws_FnExactIsKeymap ck_laws_FnExactIsKeymap (fun x hw => by have := plain_FnExactIsKeymap x hw; unfold ok_laws_FnExactIsKeymap v_laws_FnExactIsKeymap at this; exact this) σ us hro ha
end Go.Ag
namespace Go.Proofs.Ytmjjamfkgingcaa
namespace fnExactIsKeymap
open Go.ChangeShapes Go.WideShapes Go.ChangeAt Go.RowKit Go.Ag

theorem own : ownKnob Try.prog.godebug = none := by kernel_rfl
theorem hspec (H : Type) (ds : List (DataW H)) (h : ds.length = 1) : Rows.fnExactIsKeymapSpec.fn H ds = { results := [.lit (.bool true)], args := ds } := by
  match ds, h with
  | [d0], _ => rfl

set_option maxRecDepth 100000 in
theorem lifted (os : Os) (started : os.Started) (H : Type) (enc : TypeId × Value → H) :
    ReturnsInHanded {} Try.checked os 9 .any (Rows.fnExactIsKeymapSpec.pre6 enc Try.prog Try.f9 Rows.fnExactIsKeymapRow.domain false) (Rows.fnExactIsKeymapSpec.post enc Try.prog Try.f9 false true false false) := by
  refine returnsInHanded_of_change (C := Try.checked) own started (by kernel_rfl) Try.func9
    (ChangeSpec.witness6 (enc := enc) (C := Try.checked) false ⟨#[], #[.agg #[.int .i64 0, .slice none 0 0]], []⟩ 8 (by kernel_rfl) (by kernel_rfl) (by kernel_rfl) (by kernel_rfl)) ?_
  intro W base args ds gs before hval hW _ _
  exact law_contract (tys := [(.pair (.int .i64) (.pair (.sl (.sl (.pair (.int .i64) (.pair (.int .i64) (.pair (.int .i64) (.pair (.int .i64) (.unit))))))) (.unit)), true)]) (d := 5) (tb := 4) l_laws_FnExactIsKeymap (by kernel_rfl) (by kernel_rfl) (by kernel_rfl) (by kernel_rfl) Try.underlying4 rfl (hspec H) law_FnExactIsKeymap hval hW

theorem over : Rows.fnExactIsKeymapRow.holds Try.pinned (OpenSpec.ofChange Rows.fnExactIsKeymapSpec) :=
  OpenClaim.holds_of_wide 9 Try.f9 rfl rfl rfl rfl rfl rfl rfl ⟨rfl, rfl, rfl, rfl, rfl⟩ rfl rfl rfl rfl rfl (by kernel_rfl) Try.func9 (by kernel_rfl)
    (of_decide_eq_true (by kernel_rfl)) (by unfold Func.isWrapper; first | (rw [if_pos (by decide +kernel)]; kernel_rfl) | (rw [if_neg (by decide +kernel)]; exact ⟨rfl, rfl⟩))
    (fun os started H enc _ => lifted os started H enc)

theorem proved : Rows.FnExactIsKeymapSaid := over
#print axioms proved
end fnExactIsKeymap
end Go.Proofs.Ytmjjamfkgingcaa
