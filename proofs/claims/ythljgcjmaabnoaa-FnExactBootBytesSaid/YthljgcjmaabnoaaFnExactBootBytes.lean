/-
  The function laws.FnExactBootBytes returns true at every input, and what it was given reads behind the call as before.
  NO CONDITION. The plain law is proved over an abstract form of the code that the kernel has checked against the program's own.
-/
import Derived.Test.YthljgcjmaabnoaaRows
import Derived.Test.YthljgcjmaabnoaaLibF
import Derived.Test.YthljgcjmaabnoaaDgLFnExactBootBytes
import Derived.WalkKit
import Derived.ProofKit
import Derived.OpenShut
import Derived.ShutString
namespace Go.Ag
theorem law_FnExactBootBytes (σ : Heap) (us : List V) (hro : AllRo σ) (ha : ArgsOk σ [(.pair (.int .i64) (.pair (.sl (.int .i64)) (.unit)), true)] us) : s_laws_FnExactBootBytes us σ fun r _ => r = .bool true :=
  law_of (f := df_laws_FnExactBootBytes) (hs := h_laws_FnExactBootBytes) (by have := sp_laws_FnExactBootBytes; unfold p_laws_FnExactBootBytes at this; exact this) rfl rfl ob_laws_FnExactBootBytes st_laws_FnExactBootBytes ck_laws_FnExactBootBytes (fun x hw => by have := plain_FnExactBootBytes x hw; unfold ok_laws_FnExactBootBytes v_laws_FnExactBootBytes at this; exact this) σ us hro ha
end Go.Ag
namespace Go.Proofs.Ythljgcjmaabnoaa
namespace fnExactBootBytes
open Go.ChangeShapes Go.WideShapes Go.ChangeAt Go.RowKit Go.Ag

theorem own : ownKnob Try.prog.godebug = none := by kernel_rfl
theorem hspec (H : Type) (ds : List (DataW H)) (h : ds.length = 1) : Rows.fnExactBootBytesSpec.fn H ds = { results := [.lit (.bool true)], args := ds } := by
  match ds, h with
  | [d0], _ => rfl

set_option maxRecDepth 100000 in
theorem lifted (os : Os) (started : os.Started) (H : Type) (enc : TypeId × Value → H) :
    ReturnsInHanded {} Try.checked os 5 .any (Rows.fnExactBootBytesSpec.pre6 enc Try.prog Try.f5 Rows.fnExactBootBytesRow.domain false) (Rows.fnExactBootBytesSpec.post enc Try.prog Try.f5 false true false false) := by
  refine returnsInHanded_of_change (C := Try.checked) own started (by kernel_rfl) Try.func5
    (ChangeSpec.witness6 (enc := enc) (C := Try.checked) false ⟨#[], #[.agg #[.int .i64 0, .slice none 0 0]], []⟩ 8 (by kernel_rfl) (by kernel_rfl) (by kernel_rfl) (by kernel_rfl)) ?_
  intro W base args ds gs before hval hW _ _
  exact law_contract (tys := [(.pair (.int .i64) (.pair (.sl (.int .i64)) (.unit)), true)]) (d := 3) (tb := 4) l_laws_FnExactBootBytes (by kernel_rfl) (by kernel_rfl) (by kernel_rfl) (by kernel_rfl) Try.underlying4 rfl (hspec H) law_FnExactBootBytes hval hW

theorem over : Rows.fnExactBootBytesRow.holds Try.pinned (OpenSpec.ofChange Rows.fnExactBootBytesSpec) :=
  OpenClaim.holds_of_wide 5 Try.f5 rfl rfl rfl rfl rfl rfl rfl ⟨rfl, rfl, rfl, rfl, rfl⟩ rfl rfl rfl rfl rfl (by kernel_rfl) Try.func5 (by kernel_rfl)
    (of_decide_eq_true (by kernel_rfl)) (by unfold Func.isWrapper; first | (rw [if_pos (by decide +kernel)]; kernel_rfl) | (rw [if_neg (by decide +kernel)]; exact ⟨rfl, rfl⟩))
    (fun os started H enc _ => lifted os started H enc)

theorem proved : Rows.FnExactBootBytesSaid := over
#print axioms proved
end fnExactBootBytes
end Go.Proofs.Ythljgcjmaabnoaa
