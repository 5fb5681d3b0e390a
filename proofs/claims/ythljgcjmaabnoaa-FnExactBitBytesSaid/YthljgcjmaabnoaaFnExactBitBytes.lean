/-
  The function laws.FnExactBitBytes returns true at every input, and what it was given reads behind the call as before.
  NO CONDITION. The plain law is proved over an abstract form of the code that the kernel has checked against the program's own.
-/
import Derived.Test.YthljgcjmaabnoaaRows
import Derived.Test.YthljgcjmaabnoaaLibF
import Derived.Test.YthljgcjmaabnoaaDgLFnExactBitBytes
import Derived.WalkKit
import Derived.ProofKit
import Derived.OpenShut
import Derived.ShutString
namespace Go.Ag
theorem law_FnExactBitBytes (σ : Heap) (us : List V) (hro : AllRo σ) (ha : ArgsOk σ [(.pair (.int .i64) (.pair (.sl (.int .i64)) (.unit)), true)] us) : s_laws_FnExactBitBytes us σ fun r _ => r = .bool true :=
  law_of (f := df_laws_FnExactBitBytes) (hs := h_laws_FnExactBitBytes) (by have := sp_laws_FnExactBitBytes; unfold p_laws_FnExactBitBytes at this; exact this) rfl rfl ob_laws_FnExactBitBytes st_laws_FnExactBitBytes ck_laws_FnExactBitBytes (fun x hw => by have := plain_FnExactBitBytes x hw; unfold ok_laws_FnExactBitBytes v_laws_FnExactBitBytes at this; exact this) σ us hro ha
end Go.Ag
namespace Go.Proofs.Ythljgcjmaabnoaa
namespace fnExactBitBytes
open Go.ChangeShapes Go.WideShapes Go.ChangeAt Go.RowKit Go.Ag

theorem own : ownKnob Try.prog.godebug = none := by kernel_rfl
theorem hspec (H : Type) (ds : List (DataW H)) (h : ds.length = 1) : Rows.fnExactBitBytesSpec.fn H ds = { results := [.lit (.bool true)], args := ds } := by
  match ds, h with
  | [d0], _ => rfl

set_option maxRecDepth 100000 in
theorem lifted (os : Os) (started : os.Started) (H : Type) (enc : TypeId × Value → H) :
    ReturnsInHanded {} Try.checked os 4 .any (Rows.fnExactBitBytesSpec.pre6 enc Try.prog Try.f4 Rows.fnExactBitBytesRow.domain false) (Rows.fnExactBitBytesSpec.post enc Try.prog Try.f4 false true false false) := by
  refine returnsInHanded_of_change (C := Try.checked) own started (by kernel_rfl) Try.func4
    (ChangeSpec.witness6 (enc := enc) (C := Try.checked) false ⟨#[], #[.agg #[.int .i64 0, .slice none 0 0]], []⟩ 8 (by kernel_rfl) (by kernel_rfl) (by kernel_rfl) (by kernel_rfl)) ?_
  intro W base args ds gs before hval hW _ _
  exact law_contract (tys := [(.pair (.int .i64) (.pair (.sl (.int .i64)) (.unit)), true)]) (d := 3) (tb := 4) l_laws_FnExactBitBytes (by kernel_rfl) (by kernel_rfl) (by kernel_rfl) (by kernel_rfl) Try.underlying4 rfl (hspec H) law_FnExactBitBytes hval hW

theorem over : Rows.fnExactBitBytesRow.holds Try.pinned (OpenSpec.ofChange Rows.fnExactBitBytesSpec) :=
  OpenClaim.holds_of_wide 4 Try.f4 rfl rfl rfl rfl rfl rfl rfl ⟨rfl, rfl, rfl, rfl, rfl⟩ rfl rfl rfl rfl rfl (by kernel_rfl) Try.func4 (by kernel_rfl)
    (of_decide_eq_true (by kernel_rfl)) (by unfold Func.isWrapper; first | (rw [if_pos (by decide +kernel)]; kernel_rfl) | (rw [if_neg (by decide +kernel)]; exact ⟨rfl, rfl⟩))
    (fun os started H enc _ => lifted os started H enc)

theorem proved : Rows.FnExactBitBytesSaid := over
#print axioms proved
end fnExactBitBytes
end Go.Proofs.Ythljgcjmaabnoaa
