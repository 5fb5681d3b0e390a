/-
  The function laws.FnExactNewDecider returns true at every input, and what it was given reads behind the call as before.
  NO CONDITION. The plain law is proved over an abstract form of the code that the kernel has checked against the program's own.
-/
import Derived.Test.YtkjnachjeoeihaaRows
import Derived.Test.YtkjnachjeoeihaaLibG
import Derived.Test.YtkjnachjeoeihaaDgLFnExactNewDecider
import Derived.WalkKit
import Derived.ProofKit
import Derived.OpenShut
import Derived.ShutString
namespace Go.Ag
theorem law_FnExactNewDecider (σ : Ab) (us : List V) (hro : Ds σ) (ha : MN σ [(.pair (.pair (.int .i64) (.pair (.sl (.sl (.pair (.int .i64) (.pair (.int .i64) (.pair (.int .i64) (.pair (.int .i64) (.unit))))))) (.unit))) (.pair (.sl (.sl (.pair (.int .i64) (.pair (.int .i64) (.pair (.int .i64) (.unit)))))) (.pair (.int .i64) (.pair (.sl (.pair (.int .i64) (.pair (.pair (.int .i64) (.pair (.int .i64) (.pair (.int .i64) (.pair (.int .i64) (.unit))))) (.unit)))) (.pair (.int .i64) (.pair (.bool) (.unit)))))), true), (.pair (.int .i64) (.pair (.int .i64) (.pair (.int .i64) (.unit))), true)] us) : Fy.S us σ fun r _ => r = .bool true :=
  yU (f := Fy.d) (hs := Fy.h) (by have := dX; unfold Fn.A Fn.P at this; exact this) rfl rfl ⟨jo, QR, Uf, fx, QR, Uf, XM, Ue, QR, Ya, Ue, XA, QR, Uf, XM, Ue, XA, trivial⟩ (by kernel_rfl) (fun x => by kernel_rfl) (fun x hw => by have := eg x hw; unfold P1 P2 at this; exact ⟨Eq.mp (Fy.o x) this.1, (Fy.v x).symm.trans this.2⟩) σ us hro ha
end Go.Ag
namespace Go.Proofs.Ytkjnachjeoeihaa
namespace fnExactNewDecider
open Go.ChangeShapes Go.WideShapes Go.ChangeAt Go.RowKit Go.Ag

theorem own : ownKnob Try.prog.godebug = none := by kernel_rfl
theorem hspec (H : Type) (ds : List (DataW H)) (h : ds.length = 2) : Rows.fnExactNewDeciderSpec.fn H ds = { results := [.lit (.bool true)], args := ds } := by
  match ds, h with
  | [d0, d1], _ => rfl

set_option maxRecDepth 100000 in
theorem lifted (os : Os) (started : os.Started) (H : Type) (enc : TypeId × Value → H) :
    ReturnsInHanded {} Try.checked os 3 .any (Rows.fnExactNewDeciderSpec.pre6 enc Try.prog Try.f3 Rows.fnExactNewDeciderRow.domain false) (Rows.fnExactNewDeciderSpec.post enc Try.prog Try.f3 false true false false) := by
  refine returnsInHanded_of_change (C := Try.checked) own started (by kernel_rfl) Try.func3
    (ChangeSpec.witness6 (enc := enc) (C := Try.checked) false ⟨#[], #[.agg #[.int .i64 0, .slice none 0 0, .slice none 0 0, .int .i64 0, .slice none 0 0, .int .i64 0, .bool false], .agg #[.int .i64 0, .int .i64 0, .int .i64 0]], []⟩ 8 (by kernel_rfl) (by kernel_rfl) (by kernel_rfl) (by kernel_rfl)) ?_
  intro W base args ds gs before hval hW _ _
  exact qi (tys := [(.pair (.pair (.int .i64) (.pair (.sl (.sl (.pair (.int .i64) (.pair (.int .i64) (.pair (.int .i64) (.pair (.int .i64) (.unit))))))) (.unit))) (.pair (.sl (.sl (.pair (.int .i64) (.pair (.int .i64) (.pair (.int .i64) (.unit)))))) (.pair (.int .i64) (.pair (.sl (.pair (.int .i64) (.pair (.pair (.int .i64) (.pair (.int .i64) (.pair (.int .i64) (.pair (.int .i64) (.unit))))) (.unit)))) (.pair (.int .i64) (.pair (.bool) (.unit)))))), true), (.pair (.int .i64) (.pair (.int .i64) (.pair (.int .i64) (.unit))), true)]) (d := 6) (tb := 4) ed (by kernel_rfl) (by kernel_rfl) (by kernel_rfl) (by kernel_rfl) Try.underlying4 rfl (hspec H) law_FnExactNewDecider hval hW

theorem over : Rows.fnExactNewDeciderRow.holds Try.pinned (OpenSpec.ofChange Rows.fnExactNewDeciderSpec) :=
  OpenClaim.holds_of_wide 3 Try.f3 rfl rfl rfl rfl rfl rfl rfl ⟨rfl, rfl, rfl, rfl, rfl⟩ rfl rfl rfl rfl rfl (by kernel_rfl) Try.func3 (by kernel_rfl)
    (of_decide_eq_true (by kernel_rfl)) (by unfold Func.isWrapper; first | (rw [if_pos (by decide +kernel)]; kernel_rfl) | (rw [if_neg (by decide +kernel)]; exact ⟨rfl, rfl⟩))
    (fun os started H enc _ => lifted os started H enc)

theorem proved : Rows.FnExactNewDeciderSaid := over
#print axioms proved
end fnExactNewDecider
end Go.Proofs.Ytkjnachjeoeihaa
