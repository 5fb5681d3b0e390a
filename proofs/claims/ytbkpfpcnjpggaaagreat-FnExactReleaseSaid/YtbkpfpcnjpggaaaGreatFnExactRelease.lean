/-
  The function laws.FnExactRelease returns true at every input, and what it was given reads behind the call as before.
  NO CONDITION. The plain law is proved over an abstract form of the code that the kernel has checked against the program's own.
-/
import Derived.Test.YtbkpfpcnjpggaaaGreatRows
import Derived.Test.YtbkpfpcnjpggaaaGreatLibH
import Derived.Test.YtbkpfpcnjpggaaaGreatDgLFnExactRelease
import Derived.WalkKit
import Derived.ProofKit
import Derived.OpenShut
import Derived.ShutString
namespace Go.Ag
theorem law_FnExactRelease (σ : Ab) (us : List V) (hro : D7 σ) (ha : Oi σ [(.pair (.pair (.int .i64) (.pair (.sl (.sl (.pair (.int .i64) (.pair (.int .i64) (.pair (.int .i64) (.pair (.int .i64) (.unit))))))) (.unit))) (.pair (.sl (.sl (.pair (.int .i64) (.pair (.int .i64) (.pair (.int .i64) (.unit)))))) (.pair (.int .i64) (.pair (.sl (.pair (.int .i64) (.pair (.pair (.int .i64) (.pair (.int .i64) (.pair (.int .i64) (.pair (.int .i64) (.unit))))) (.unit)))) (.pair (.int .i64) (.pair (.bool) (.unit)))))), true), (.int .i64, false)] us) : Ge.S us σ fun r _ => r = .bool true :=
  ZbP (f := Ge.d) (hs := Ge.h) (by have := jl; unfold Fn.A Fn.P at this; exact this) rfl rfl ⟨nu, RY, pZ, RY, Z5, R7, Vr, RY, R7, R7, Vr, Zv, Zl, RY, Z5, R7, Vr, Zv, Zl, trivial⟩ (by kernel_rfl) (fun x => by kernel_rfl) (fun x hw => by have := js x hw; unfold Re Rf at this; exact ⟨Eq.mp (Ge.o x) this.1, (Ge.v x).symm.trans this.2⟩) σ us hro ha
end Go.Ag
namespace Go.Proofs.YtbkpfpcnjpggaaaGreat
namespace fnExactRelease
open Go.ChangeShapes Go.WideShapes Go.ChangeAt Go.RowKit Go.Ag

theorem own : ownKnob Tryz.prog.godebug = none := by kernel_rfl
theorem hspec (H : Type) (ds : List (DataW H)) (h : ds.length = 2) : Rows.fnExactReleaseSpec.fn H ds = { results := [.lit (.bool true)], args := ds } := by
  match ds, h with
  | [d0, d1], _ => rfl

set_option maxRecDepth 100000 in
theorem lifted (os : Os) (started : os.Started) (H : Type) (enc : TypeId × Value → H) :
    ReturnsInHanded {} Tryz.checked os 5 .any (Rows.fnExactReleaseSpec.pre6 enc Tryz.prog Tryz.f5 Rows.fnExactReleaseRow.domain false) (Rows.fnExactReleaseSpec.post enc Tryz.prog Tryz.f5 false true false false) := by
  refine returnsInHanded_of_change (C := Tryz.checked) own started (by kernel_rfl) Tryz.func5
    (ChangeSpec.witness6 (enc := enc) (C := Tryz.checked) false ⟨#[], #[.agg #[.int .i64 0, .slice none 0 0, .slice none 0 0, .int .i64 0, .slice none 0 0, .int .i64 0, .bool false], .int .i64 0], []⟩ 8 (by kernel_rfl) (by kernel_rfl) (by kernel_rfl) (by kernel_rfl)) ?_
  intro W base args ds gs before hval hW _ _
  exact tM (tys := [(.pair (.pair (.int .i64) (.pair (.sl (.sl (.pair (.int .i64) (.pair (.int .i64) (.pair (.int .i64) (.pair (.int .i64) (.unit))))))) (.unit))) (.pair (.sl (.sl (.pair (.int .i64) (.pair (.int .i64) (.pair (.int .i64) (.unit)))))) (.pair (.int .i64) (.pair (.sl (.pair (.int .i64) (.pair (.pair (.int .i64) (.pair (.int .i64) (.pair (.int .i64) (.pair (.int .i64) (.unit))))) (.unit)))) (.pair (.int .i64) (.pair (.bool) (.unit)))))), true), (.int .i64, false)]) (d := 6) (tb := 4) jq (by kernel_rfl) (by kernel_rfl) (by kernel_rfl) (by kernel_rfl) Tryz.underlying4 rfl (hspec H) law_FnExactRelease hval hW (GlW.none (by kernel_rfl) _)

theorem over : Rows.fnExactReleaseRow.holds Tryz.pinned (OpenSpec.ofChange Rows.fnExactReleaseSpec) :=
  OpenClaim.holds_of_wide 5 Tryz.f5 rfl rfl rfl rfl rfl rfl rfl ⟨rfl, rfl, rfl, rfl, rfl⟩ rfl rfl rfl rfl rfl (by kernel_rfl) Tryz.func5 (by kernel_rfl)
    (of_decide_eq_true (by kernel_rfl)) (by unfold Func.isWrapper; first | (rw [if_pos (by decide +kernel)]; kernel_rfl) | (rw [if_neg (by decide +kernel)]; exact ⟨rfl, rfl⟩))
    (fun os started H enc _ => lifted os started H enc)

theorem proved : Rows.FnExactReleaseSaid := over
#print axioms proved
end fnExactRelease
end Go.Proofs.YtbkpfpcnjpggaaaGreat
