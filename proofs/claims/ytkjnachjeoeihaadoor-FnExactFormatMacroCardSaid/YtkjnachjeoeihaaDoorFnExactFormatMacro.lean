/-
  The function laws.FnExactFormatMacro returns true at every input, and what it was given reads behind the call as before.
  NO CONDITION. The plain law is proved over an abstract form of the code that the kernel has checked against the program's own.
-/
import Derived.Test.YtkjnachjeoeihaaDoorRows
import Derived.Test.YtkjnachjeoeihaaDoorLibF
import Derived.Test.YtkjnachjeoeihaaDoorDgLFnExactFormatMacro
import Derived.Test.YtkjnachjeoeihaaDoorCards
import Derived.Test.YtkjnachjeoeihaaDoorTie
import Derived.LaidMore
import Derived.Lay
import Derived.SevenTiedAt
import Derived.Stop.Joined
import Derived.WalkKit
import Derived.ProofKit
import Derived.OpenShut
import Derived.ShutString
namespace Go.Ag
theorem law_FnExactFormatMacro (σ : Ac) (us : List V) (hro : CK σ) (ha : Kl σ [(.sl (.pair (.int .i64) (.pair (.int .i64) (.pair (.int .i64) (.unit)))), false)] us) : ED.S us σ fun r _ => r = .bool true :=
  jk (f := ED.d) (hs := ED.h) (by have := XK; unfold Fn.A Fn.P at this; exact this) rfl rfl ⟨Zx, PT, XZ, PT, X8, PT, ZB, trivial⟩ (by kernel_rfl) (fun x => by kernel_rfl) (fun x hw => by have := XO x hw; unfold MW MX at this; exact ⟨Eq.mp (ED.o x) this.1, (ED.v x).symm.trans this.2⟩) σ us hro ha
end Go.Ag
namespace Go.Proofs.YtkjnachjeoeihaaDoor
namespace fnExactFormatMacro
open Go
open Go.ChangeShapes Go.WideShapes Go.ChangeAt Go.RowKit Go.Ag

theorem own : ownKnob Tryd.prog.godebug = none := by kernel_rfl
theorem hspec (H : Type) (ds : List (DataW H)) (h : ds.length = 1) : Rows.fnExactFormatMacroSpec.fn H ds = { results := [.lit (.bool true)], args := ds } := by
  match ds, h with
  | [d0], _ => rfl

set_option maxRecDepth 100000 in
theorem lifted (os : Os) (started : os.Started) (H : Type) (enc : TypeId × Value → H) :
    ReturnsInHanded {} Tryd.checked os 4 .any (fun w args => (Rows.fnExactFormatMacroSpec.pre enc Tryd.prog Tryd.f4 Rows.fnExactFormatMacroRow.domain false w args ∧ laidMetH Tryd.prog Rows.fnExactFormatMacroRow.laid w) ∧ sizedMet enc Tryd.prog Tryd.f4 (OpenSpec.ofChange Rows.fnExactFormatMacroSpec) false w args) (Rows.fnExactFormatMacroSpec.post enc Tryd.prog Tryd.f4 false true false false) := by
  refine returnsInHanded_of_change_and (C := Tryd.checked) (X := fun w _ => laidMetH Tryd.prog Rows.fnExactFormatMacroRow.laid w) (fun _ _ _ hh h => h.of_heap hh) own started (by kernel_rfl) Tryd.func4
    (ChangeSpec.witness_shaped (enc := enc) (C := Tryd.checked) (os := os) (X := fun w _ => laidMetH Tryd.prog Rows.fnExactFormatMacroRow.laid w) false (World.laidAll Tryd.prog os Rows.fnExactFormatMacroRow.laid) #[.slice none 0 0] 8 (World.laidAll_os _ _ _)
      (World.shaped_of_ZipB (by kernel_rfl) (by kernel_rfl)) (by kernel_rfl) (by kernel_rfl) (by kernel_rfl)
      (by rw [MakeChecks.laidMetH_plain _ _ _ (by kernel_rfl)]; exact laidMet_laidAll _ (by kernel_rfl) (by kernel_rfl))) ?_
  intro W base args ds gs before hval hW _ _ _ _
  exact bf (tys := [(.sl (.pair (.int .i64) (.pair (.int .i64) (.pair (.int .i64) (.unit)))), false)]) (d := 3) (tb := 4) XN (by kernel_rfl) (by kernel_rfl) (by kernel_rfl) (by kernel_rfl) Tryd.underlying4 rfl (hspec H) law_FnExactFormatMacro hval hW

theorem over : Rows.fnExactFormatMacroRow.holds Tryd.pinned (OpenSpec.ofChange Rows.fnExactFormatMacroSpec) :=
  OpenClaim.holds_of_wide 4 Tryd.f4 rfl rfl rfl rfl rfl rfl rfl ⟨rfl, rfl, rfl, rfl, rfl⟩ rfl rfl rfl rfl rfl (by kernel_rfl) Tryd.func4 (by kernel_rfl)
    (of_decide_eq_true (by kernel_rfl)) (by unfold Func.isWrapper; first | (rw [if_pos (by decide +kernel)]; kernel_rfl) | (rw [if_neg (by decide +kernel)]; exact ⟨rfl, rfl⟩))
    (fun os started H enc _ => lifted os started H enc)

theorem proved : Rows.FnExactFormatMacroCardSaid :=
  Claim7.holds_tied_plain_at .later [] [.data, .data, .data, .data, .pinned] true (true, "3e8ee511298c13a7d2d505b5a8cc56fa998670876ccaca25627cec033e486cfe") false over (fun _ h => by cases h) (by kernel_rfl) (fun _ h => by cases h) fnExactFormatMacro_row_tie rfl ⟨rfl, rfl⟩ (by kernel_rfl) rfl
    (fun f fn hf hfn => by
      obtain rfl : f = 4 := Option.some.inj ((show Tryd.prog.funcNamed "loop.example/g03414/laws.FnExactFormatMacro" = some 4 by kernel_rfl).symm.trans hf) |>.symm
      obtain rfl : fn = Tryd.f4 := (Option.some.inj (Tryd.func4.symm.trans hfn)).symm
      exact ⟨by kernel_rfl, fun j t ht => by
        rw [Tryd.params4] at ht
        have hm : t ∈ [31] := by simpa using Array.mem_of_getElem? ht
        have hall : ([31].all fun u => !Tryd.prog.wantsStandIn u) = true := by kernel_rfl
        exact (show Tryd.prog.wantsStandIn t = false by simpa using List.all_eq_true.1 hall t hm)⟩)
    (by kernel_rfl)
#print axioms proved
end fnExactFormatMacro
end Go.Proofs.YtkjnachjeoeihaaDoor
