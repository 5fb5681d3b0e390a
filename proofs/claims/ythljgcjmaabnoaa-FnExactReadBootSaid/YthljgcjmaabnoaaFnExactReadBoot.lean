/-
  The function laws.FnExactReadBoot returns true at every input, and what it was given reads behind the call as before.
  NO CONDITION. The plain law is proved over an abstract form of the code that the kernel has checked against the program's own.
-/
import Derived.Test.YthljgcjmaabnoaaRows
import Derived.Test.YthljgcjmaabnoaaLibF
import Derived.Test.YthljgcjmaabnoaaDgLFnExactReadBoot
import Derived.WalkKit
import Derived.ProofKit
import Derived.OpenShut
import Derived.ShutString
namespace Go.Ag
theorem law_FnExactReadBoot (σ : Heap) (us : List V) (hro : AllRo σ) (ha : ArgsOk σ [(.sl (.int .u8), false), (.pair (.int .i64) (.pair (.sl (.int .i64)) (.unit)), true)] us) : s_laws_FnExactReadBoot us σ fun r _ => r = .bool true :=
  law_of (f := df_laws_FnExactReadBoot) (hs := h_laws_FnExactReadBoot) (by have := sp_laws_FnExactReadBoot; unfold p_laws_FnExactReadBoot at this; exact this) rfl rfl ob_laws_FnExactReadBoot st_laws_FnExactReadBoot ck_laws_FnExactReadBoot (fun x hw => by have := plain_FnExactReadBoot x hw; exact ⟨Eq.mp (ou_laws_FnExactReadBoot x) this.1, (vu_laws_FnExactReadBoot x).symm.trans this.2⟩) σ us hro ha
end Go.Ag
namespace Go.Proofs.Ythljgcjmaabnoaa
namespace fnExactReadBoot
open Go.ChangeShapes Go.WideShapes Go.ChangeAt Go.RowKit Go.Ag

theorem own : ownKnob Try.prog.godebug = none := by kernel_rfl
theorem hspec (H : Type) (ds : List (DataW H)) (h : ds.length = 2) : Rows.fnExactReadBootSpec.fn H ds = { results := [.lit (.bool true)], args := ds } := by
  match ds, h with
  | [d0, d1], _ => rfl

set_option maxRecDepth 100000 in
theorem lifted (os : Os) (started : os.Started) (H : Type) (enc : TypeId × Value → H) :
    ReturnsInHanded {} Try.checked os 6 .any (Rows.fnExactReadBootSpec.pre6 enc Try.prog Try.f6 Rows.fnExactReadBootRow.domain false) (Rows.fnExactReadBootSpec.post enc Try.prog Try.f6 false true false false) := by
  refine returnsInHanded_of_change (C := Try.checked) own started (by kernel_rfl) Try.func6
    (ChangeSpec.witness6 (enc := enc) (C := Try.checked) false ⟨#[], #[.slice none 0 0, .agg #[.int .i64 0, .slice none 0 0]], []⟩ 8 (by kernel_rfl) (by kernel_rfl) (by kernel_rfl) (by kernel_rfl)) ?_
  intro W base args ds gs before hval hW _ _
  exact law_contract (tys := [(.sl (.int .u8), false), (.pair (.int .i64) (.pair (.sl (.int .i64)) (.unit)), true)]) (d := 3) (tb := 4) l_laws_FnExactReadBoot (by kernel_rfl) (by kernel_rfl) (by kernel_rfl) (by kernel_rfl) Try.underlying4 rfl (hspec H) law_FnExactReadBoot hval hW

theorem over : Rows.fnExactReadBootRow.holds Try.pinned (OpenSpec.ofChange Rows.fnExactReadBootSpec) :=
  OpenClaim.holds_of_wide 6 Try.f6 rfl rfl rfl rfl rfl rfl rfl ⟨rfl, rfl, rfl, rfl, rfl⟩ rfl rfl rfl rfl rfl (by kernel_rfl) Try.func6 (by kernel_rfl)
    (of_decide_eq_true (by kernel_rfl)) (by unfold Func.isWrapper; first | (rw [if_pos (by decide +kernel)]; kernel_rfl) | (rw [if_neg (by decide +kernel)]; exact ⟨rfl, rfl⟩))
    (fun os started H enc _ => lifted os started H enc)

theorem proved : Rows.FnExactReadBootSaid := over
#print axioms proved
end fnExactReadBoot
end Go.Proofs.Ythljgcjmaabnoaa
