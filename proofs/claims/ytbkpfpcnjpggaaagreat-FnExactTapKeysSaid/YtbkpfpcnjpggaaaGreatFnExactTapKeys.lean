/-
  The function laws.FnExactTapKeys returns true at every input, and what it was given reads behind the call as before.
  NO CONDITION. The plain law is proved over an abstract form of the code that the kernel has checked against the program's own.
-/
import Derived.Test.YtbkpfpcnjpggaaaGreatRows
import Derived.Test.YtbkpfpcnjpggaaaGreatLibI
import Derived.Test.YtbkpfpcnjpggaaaGreatDgLFnExactTapKeys
import Derived.WalkKit
import Derived.ProofKit
import Derived.OpenShut
import Derived.ShutString
namespace Go.Ag
theorem law_FnExactTapKeys (σ : Ac) (us : List V) (hro : EW σ) (ha : Rl σ [(.pair (.pair (.int .i64) (.pair (.sl (.sl (.pair (.int .i64) (.pair (.int .i64) (.pair (.int .i64) (.pair (.int .i64) (.unit))))))) (.unit))) (.pair (.sl (.sl (.pair (.int .i64) (.pair (.int .i64) (.pair (.int .i64) (.unit)))))) (.pair (.int .i64) (.pair (.sl (.pair (.int .i64) (.pair (.pair (.int .i64) (.pair (.int .i64) (.pair (.int .i64) (.pair (.int .i64) (.unit))))) (.unit)))) (.pair (.int .i64) (.pair (.bool) (.unit)))))), true), (.sl (.int .i64), false)] us) : HQ.S us σ λr _ => r = .bool true:=
  Zj1 (f:= HQ.d) (hs:= HQ.h) (by have:= sU; unfold Fn.A Fn.P at this; exact this) rfl rfl ⟨xn, VY, Wv, Zak, VY, Wv, jx, VQ, ZT, VY, VQ, Wv, jM, VQ, ZT, gY, gM, VY, Wv, jx, VQ, ZT, gY, gM, trivial⟩ (by kernel_rfl) (λx => by kernel_rfl) (λx hw => by have:= sX x hw; unfold U5 U9 at this; exact ⟨Eq.mp (HQ.o x) this.1, (HQ.v x).symm.trans this.2⟩) σ us hro ha
end Go.Ag
namespace Go.Proofs.YtbkpfpcnjpggaaaGreat
namespace fnExactTapKeys
open Go.ChangeShapes Go.WideShapes Go.ChangeAt Go.RowKit Go.Ag

theorem own : ownKnob Tryz.prog.godebug = none:= by kernel_rfl
theorem hspec (H : Type) (ds : List (DataW H)) (h : ds.length = 2) : Rows.fnExactTapKeysSpec.fn H ds = { results:= [.lit (.bool true)], args:= ds }:= by
  match ds, h with
  | [d0, d1], _ => rfl

set_option maxRecDepth 100000 in
theorem lifted (os : Os) (started : os.Started) (H : Type) (enc : TypeId × Value → H):
    ReturnsInHanded {} Tryz.checked os 7 .any (Rows.fnExactTapKeysSpec.pre6 enc Tryz.prog Tryz.f7 Rows.fnExactTapKeysRow.domain false) (Rows.fnExactTapKeysSpec.post enc Tryz.prog Tryz.f7 false true false false):= by
  refine returnsInHanded_of_change (C:= Tryz.checked) own started (by kernel_rfl) Tryz.func7
    (ChangeSpec.witness6 (enc:= enc) (C:= Tryz.checked) false ⟨#[], #[.agg #[.int .i64 0, .slice none 0 0, .slice none 0 0, .int .i64 0, .slice none 0 0, .int .i64 0, .bool false], .slice none 0 0], []⟩ 8 (by kernel_rfl) (by kernel_rfl) (by kernel_rfl) (by kernel_rfl)) ?_
  intro W base args ds gs before hval hW _ _
  exact Zdm (tys:= [(.pair (.pair (.int .i64) (.pair (.sl (.sl (.pair (.int .i64) (.pair (.int .i64) (.pair (.int .i64) (.pair (.int .i64) (.unit))))))) (.unit))) (.pair (.sl (.sl (.pair (.int .i64) (.pair (.int .i64) (.pair (.int .i64) (.unit)))))) (.pair (.int .i64) (.pair (.sl (.pair (.int .i64) (.pair (.pair (.int .i64) (.pair (.int .i64) (.pair (.int .i64) (.pair (.int .i64) (.unit))))) (.unit)))) (.pair (.int .i64) (.pair (.bool) (.unit)))))), true), (.sl (.int .i64), false)]) (d:= 6) (tb:= 4) sW (by kernel_rfl) (by kernel_rfl) (by kernel_rfl) (by kernel_rfl) Tryz.underlying4 rfl (hspec H) law_FnExactTapKeys hval hW (GlW.none (by kernel_rfl) _)

theorem over : Rows.fnExactTapKeysRow.holds Tryz.pinned (OpenSpec.ofChange Rows.fnExactTapKeysSpec):=
  OpenClaim.holds_of_wide 7 Tryz.f7 rfl rfl rfl rfl rfl rfl rfl ⟨rfl, rfl, rfl, rfl, rfl⟩ rfl rfl rfl rfl rfl (by kernel_rfl) Tryz.func7 (by kernel_rfl)
    (of_decide_eq_true (by kernel_rfl)) (by unfold Func.isWrapper; first | (rw [if_pos (by decide +kernel)]; kernel_rfl) | (rw [if_neg (by decide +kernel)]; exact ⟨rfl, rfl⟩))
    (λos started H enc _ => lifted os started H enc)

theorem proved : Rows.FnExactTapKeysSaid:= over
#print axioms proved
end fnExactTapKeys
end Go.Proofs.YtbkpfpcnjpggaaaGreat
