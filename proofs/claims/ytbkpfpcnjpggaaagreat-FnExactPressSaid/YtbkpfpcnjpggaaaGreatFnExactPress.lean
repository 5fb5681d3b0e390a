/-
  The function laws.FnExactPress returns true at every input, and what it was given reads behind the call as before.
  NO CONDITION. The plain law is proved over an abstract form of the code that the kernel has checked against the program's own.
-/
import Derived.Test.YtbkpfpcnjpggaaaGreatRows
import Derived.Test.YtbkpfpcnjpggaaaGreatLibH
import Derived.Test.YtbkpfpcnjpggaaaGreatDgLFnExactPress
import Derived.WalkKit
import Derived.ProofKit
import Derived.OpenShut
import Derived.ShutString
namespace Go.Ag
theorem law_FnExactPress (σ : Ab) (us : List V) (hro : EJ σ) (ha : Qq σ [(.pair (.pair (.int .i64) (.pair (.sl (.sl (.pair (.int .i64) (.pair (.int .i64) (.pair (.int .i64) (.pair (.int .i64) (.unit))))))) (.unit))) (.pair (.sl (.sl (.pair (.int .i64) (.pair (.int .i64) (.pair (.int .i64) (.unit)))))) (.pair (.int .i64) (.pair (.sl (.pair (.int .i64) (.pair (.pair (.int .i64) (.pair (.int .i64) (.pair (.int .i64) (.pair (.int .i64) (.unit))))) (.unit)))) (.pair (.int .i64) (.pair (.bool) (.unit)))))), true), (.int .i64, false), (.bool, false)] us) : Ho.S us σ λr _ => r = .bool true:=
  Zie (f:= Ho.d) (hs:= Ho.h) (by have:= qI; unfold Fn.A Fn.P at this; exact this) rfl rfl ⟨vF, U6, ZaG, U6, iE, U5, YR, U6, U5, U5, YR, fF, ft, U6, iE, U5, YR, fF, ft, trivial⟩ (by kernel_rfl) (λx => by kernel_rfl) (λx hw => by have:= rR x hw; unfold T0 Ue at this; exact ⟨Eq.mp (Ho.o x) this.1, (Ho.v x).symm.trans this.2⟩) σ us hro ha
end Go.Ag
namespace Go.Proofs.YtbkpfpcnjpggaaaGreat
namespace fnExactPress
open Go.ChangeShapes Go.WideShapes Go.ChangeAt Go.RowKit Go.Ag

theorem own : ownKnob Tryz.prog.godebug = none:= by kernel_rfl
theorem hspec (H : Type) (ds : List (DataW H)) (h : ds.length = 3) : Rows.fnExactPressSpec.fn H ds = { results:= [.lit (.bool true)], args:= ds }:= by
  match ds, h with
  | [d0, d1, d2], _ => rfl

set_option maxRecDepth 100000 in
theorem lifted (os : Os) (started : os.Started) (H : Type) (enc : TypeId × Value → H):
    ReturnsInHanded {} Tryz.checked os 6 .any (Rows.fnExactPressSpec.pre6 enc Tryz.prog Tryz.f6 Rows.fnExactPressRow.domain false) (Rows.fnExactPressSpec.post enc Tryz.prog Tryz.f6 false true false false):= by
  refine returnsInHanded_of_change (C:= Tryz.checked) own started (by kernel_rfl) Tryz.func6
    (ChangeSpec.witness6 (enc:= enc) (C:= Tryz.checked) false ⟨#[], #[.agg #[.int .i64 0, .slice none 0 0, .slice none 0 0, .int .i64 0, .slice none 0 0, .int .i64 0, .bool false], .int .i64 0, .bool false], []⟩ 8 (by kernel_rfl) (by kernel_rfl) (by kernel_rfl) (by kernel_rfl)) ?_
  intro W base args ds gs before hval hW _ _
  exact Zby (tys:= [(.pair (.pair (.int .i64) (.pair (.sl (.sl (.pair (.int .i64) (.pair (.int .i64) (.pair (.int .i64) (.pair (.int .i64) (.unit))))))) (.unit))) (.pair (.sl (.sl (.pair (.int .i64) (.pair (.int .i64) (.pair (.int .i64) (.unit)))))) (.pair (.int .i64) (.pair (.sl (.pair (.int .i64) (.pair (.pair (.int .i64) (.pair (.int .i64) (.pair (.int .i64) (.pair (.int .i64) (.unit))))) (.unit)))) (.pair (.int .i64) (.pair (.bool) (.unit)))))), true), (.int .i64, false), (.bool, false)]) (d:= 6) (tb:= 4) qX (by kernel_rfl) (by kernel_rfl) (by kernel_rfl) (by kernel_rfl) Tryz.underlying4 rfl (hspec H) law_FnExactPress hval hW (GlW.none (by kernel_rfl) _)

theorem over : Rows.fnExactPressRow.holds Tryz.pinned (OpenSpec.ofChange Rows.fnExactPressSpec):=
  OpenClaim.holds_of_wide 6 Tryz.f6 rfl rfl rfl rfl rfl rfl rfl ⟨rfl, rfl, rfl, rfl, rfl⟩ rfl rfl rfl rfl rfl (by kernel_rfl) Tryz.func6 (by kernel_rfl)
    (of_decide_eq_true (by kernel_rfl)) (by unfold Func.isWrapper; first | (rw [if_pos (by decide +kernel)]; kernel_rfl) | (rw [if_neg (by decide +kernel)]; exact ⟨rfl, rfl⟩))
    (λos started H enc _ => lifted os started H enc)

theorem proved : Rows.FnExactPressSaid:= over
#print axioms proved
end fnExactPress
end Go.Proofs.YtbkpfpcnjpggaaaGreat
