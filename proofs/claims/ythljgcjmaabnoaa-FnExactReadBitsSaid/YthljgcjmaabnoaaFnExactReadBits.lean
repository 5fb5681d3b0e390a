/-
  The function laws.FnExactReadBits returns true at every input, and what it was given reads behind the call as before.
  NO CONDITION. The plain law is proved over an abstract form of the code that the kernel has checked against the program's own.
-/
import Derived.Test.YthljgcjmaabnoaaRows
import Derived.Test.YthljgcjmaabnoaaLibF
import Derived.Test.YthljgcjmaabnoaaDgLFnExactReadBits
import Derived.WalkKit
import Derived.ProofKit
import Derived.OpenShut
import Derived.ShutString
namespace Go.Ag
theorem law_FnExactReadBits (σ : Heap) (us : List V) (hro : AllRo σ) (ha : ArgsOk σ [(.sl (.int .u8), false)] us) : s_laws_FnExactReadBits us σ fun r _ => r = .bool true :=
  law_of (f := df_laws_FnExactReadBits) (hs := h_laws_FnExactReadBits) (by have := sp_laws_FnExactReadBits; unfold p_laws_FnExactReadBits at this; exact this) rfl rfl ob_laws_FnExactReadBits st_laws_FnExactReadBits ck_laws_FnExactReadBits (fun x hw => by have := plain_FnExactReadBits x hw; unfold ok_laws_FnExactReadBits v_laws_FnExactReadBits at this; exact this) σ us hro ha
end Go.Ag
namespace Go.Proofs.Ythljgcjmaabnoaa
namespace fnExactReadBits
open Go.ChangeShapes Go.WideShapes Go.ChangeAt Go.RowKit Go.Ag

theorem own : ownKnob Try.prog.godebug = none := by kernel_rfl
theorem hspec (H : Type) (ds : List (DataW H)) (h : ds.length = 1) : Rows.fnExactReadBitsSpec.fn H ds = { results := [.lit (.bool true)], args := ds } := by
  match ds, h with
  | [d0], _ => rfl

set_option maxRecDepth 100000 in
theorem lifted (os : Os) (started : os.Started) (H : Type) (enc : TypeId × Value → H) :
    ReturnsInHanded {} Try.checked os 3 .any (Rows.fnExactReadBitsSpec.pre6 enc Try.prog Try.f3 Rows.fnExactReadBitsRow.domain false) (Rows.fnExactReadBitsSpec.post enc Try.prog Try.f3 false true false false) := by
  refine returnsInHanded_of_change (C := Try.checked) own started (by kernel_rfl) Try.func3
    (ChangeSpec.witness6 (enc := enc) (C := Try.checked) false ⟨#[], #[.slice none 0 0], []⟩ 8 (by kernel_rfl) (by kernel_rfl) (by kernel_rfl) (by kernel_rfl)) ?_
  intro W base args ds gs before hval hW _ _
  exact law_contract (tys := [(.sl (.int .u8), false)]) (d := 2) (tb := 4) l_laws_FnExactReadBits (by kernel_rfl) (by kernel_rfl) (by kernel_rfl) (by kernel_rfl) Try.underlying4 rfl (hspec H) law_FnExactReadBits hval hW

theorem over : Rows.fnExactReadBitsRow.holds Try.pinned (OpenSpec.ofChange Rows.fnExactReadBitsSpec) :=
  OpenClaim.holds_of_wide 3 Try.f3 rfl rfl rfl rfl rfl rfl rfl ⟨rfl, rfl, rfl, rfl, rfl⟩ rfl rfl rfl rfl rfl (by kernel_rfl) Try.func3 (by kernel_rfl)
    (of_decide_eq_true (by kernel_rfl)) (by unfold Func.isWrapper; first | (rw [if_pos (by decide +kernel)]; kernel_rfl) | (rw [if_neg (by decide +kernel)]; exact ⟨rfl, rfl⟩))
    (fun os started H enc _ => lifted os started H enc)

theorem proved : Rows.FnExactReadBitsSaid := over
#print axioms proved
end fnExactReadBits
end Go.Proofs.Ythljgcjmaabnoaa
