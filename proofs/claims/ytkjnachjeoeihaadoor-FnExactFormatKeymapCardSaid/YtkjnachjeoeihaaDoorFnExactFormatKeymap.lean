/-
  The function laws.FnExactFormatKeymap returns true at every input, and what it was given reads behind the call as before.
  NO CONDITION. The plain law is proved over an abstract form of the code that the kernel has checked against the program's own.
-/
import Derived.Test.YtkjnachjeoeihaaDoorRows
import Derived.Test.YtkjnachjeoeihaaDoorLibF
import Derived.Test.YtkjnachjeoeihaaDoorDgLFnExactFormatKeymap
import Derived.Test.YtkjnachjeoeihaaDoorCards
import Derived.Test.YtkjnachjeoeihaaDoorTie
import Derived.LaidMore
import Derived.Lay
import Derived.SevenTiedAt
import Derived.Stop.Joined
import Derived.WalkKit
import Derived.ProofKit
import Derived.OpenShut
import Derived.ShutString
namespace Go.Ag
theorem law_FnExactFormatKeymap (σ : Ac) (us : List V) (hro : CM σ) (ha : Kt σ [(.pair (.int .i64) (.pair (.sl (.sl (.pair (.int .i64) (.pair (.int .i64) (.pair (.int .i64) (.pair (.int .i64) (.unit))))))) (.unit)), true)] us) : Ex.S us σ fun r _ => r = .bool true :=
  jP (f := Ex.d) (hs := Ex.h) (by have := X3; unfold Fn.A Fn.P at this; exact this) rfl rfl ⟨Z4, P2, Yn, P2, Ya, P2, ZF, trivial⟩ (by kernel_rfl) (fun x => by kernel_rfl) (fun x hw => by have := X8 x hw; unfold M5 M6 at this; exact ⟨Eq.mp (Ex.o x) this.1, (Ex.v x).symm.trans this.2⟩) σ us hro ha
end Go.Ag
namespace Go.Proofs.YtkjnachjeoeihaaDoor
namespace fnExactFormatKeymap
open Go
open Go.ChangeShapes Go.WideShapes Go.ChangeAt Go.RowKit Go.Ag

theorem own : ownKnob Tryd.prog.godebug = none := by kernel_rfl
theorem hspec (H : Type) (ds : List (DataW H)) (h : ds.length = 1) : Rows.fnExactFormatKeymapSpec.fn H ds = { results := [.lit (.bool true)], args := ds } := by
  match ds, h with
  | [d0], _ => rfl

set_option maxRecDepth 100000 in
theorem lifted (os : Os) (started : os.Started) (H : Type) (enc : TypeId × Value → H) :
    ReturnsInHanded {} Tryd.checked os 5 .any (fun w args => (Rows.fnExactFormatKeymapSpec.pre enc Tryd.prog Tryd.f5 Rows.fnExactFormatKeymapRow.domain false w args ∧ laidMetH Tryd.prog Rows.fnExactFormatKeymapRow.laid w) ∧ sizedMet enc Tryd.prog Tryd.f5 (OpenSpec.ofChange Rows.fnExactFormatKeymapSpec) false w args) (Rows.fnExactFormatKeymapSpec.post enc Tryd.prog Tryd.f5 false true false false) := by
  refine returnsInHanded_of_change_and (C := Tryd.checked) (X := fun w _ => laidMetH Tryd.prog Rows.fnExactFormatKeymapRow.laid w) (fun _ _ _ hh h => h.of_heap hh) own started (by kernel_rfl) Tryd.func5
    (ChangeSpec.witness_shaped (enc := enc) (C := Tryd.checked) (os := os) (X := fun w _ => laidMetH Tryd.prog Rows.fnExactFormatKeymapRow.laid w) false (World.laidAll Tryd.prog os Rows.fnExactFormatKeymapRow.laid) #[.agg #[.int .i64 0, .slice none 0 0]] 8 (World.laidAll_os _ _ _)
      (World.shaped_of_ZipB (by kernel_rfl) (by kernel_rfl)) (by kernel_rfl) (by kernel_rfl) (by kernel_rfl)
      (by rw [MakeChecks.laidMetH_plain _ _ _ (by kernel_rfl)]; exact laidMet_laidAll _ (by kernel_rfl) (by kernel_rfl))) ?_
  intro W base args ds gs before hval hW _ _ _ _
  exact bT (tys := [(.pair (.int .i64) (.pair (.sl (.sl (.pair (.int .i64) (.pair (.int .i64) (.pair (.int .i64) (.pair (.int .i64) (.unit))))))) (.unit)), true)]) (d := 5) (tb := 4) X7 (by kernel_rfl) (by kernel_rfl) (by kernel_rfl) (by kernel_rfl) Tryd.underlying4 rfl (hspec H) law_FnExactFormatKeymap hval hW

theorem over : Rows.fnExactFormatKeymapRow.holds Tryd.pinned (OpenSpec.ofChange Rows.fnExactFormatKeymapSpec) :=
  OpenClaim.holds_of_wide 5 Tryd.f5 rfl rfl rfl rfl rfl rfl rfl ⟨rfl, rfl, rfl, rfl, rfl⟩ rfl rfl rfl rfl rfl (by kernel_rfl) Tryd.func5 (by kernel_rfl)
    (of_decide_eq_true (by kernel_rfl)) (by unfold Func.isWrapper; first | (rw [if_pos (by decide +kernel)]; kernel_rfl) | (rw [if_neg (by decide +kernel)]; exact ⟨rfl, rfl⟩))
    (fun os started H enc _ => lifted os started H enc)

theorem proved : Rows.FnExactFormatKeymapCardSaid :=
  Claim7.holds_tied_plain_at .later [] [.data, .data, .data, .data, .pinned] true (true, "3e8ee511298c13a7d2d505b5a8cc56fa998670876ccaca25627cec033e486cfe") false over (fun _ h => by cases h) (by kernel_rfl) (fun _ h => by cases h) fnExactFormatKeymap_row_tie rfl ⟨rfl, rfl⟩ (by kernel_rfl) rfl
    (fun f fn hf hfn => by
      obtain rfl : f = 5 := Option.some.inj ((show Tryd.prog.funcNamed "loop.example/g03414/laws.FnExactFormatKeymap" = some 5 by kernel_rfl).symm.trans hf) |>.symm
      obtain rfl : fn = Tryd.f5 := (Option.some.inj (Tryd.func5.symm.trans hfn)).symm
      exact ⟨by kernel_rfl, fun j t ht => by
        rw [Tryd.params5] at ht
        have hm : t ∈ [40] := by simpa using Array.mem_of_getElem? ht
        have hall : ([40].all fun u => !Tryd.prog.wantsStandIn u) = true := by kernel_rfl
        exact (show Tryd.prog.wantsStandIn t = false by simpa using List.all_eq_true.1 hall t hm)⟩)
    (by kernel_rfl)
#print axioms proved
end fnExactFormatKeymap
end Go.Proofs.YtkjnachjeoeihaaDoor
