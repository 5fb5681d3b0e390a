/-
  The function laws.FnReports returns true at every input, and what it was given reads behind the call as before.
  NO CONDITION. The plain law is proved over an abstract form of the code that the kernel has checked against the program's own.
-/
import Derived.Test.YthnglpojbfkpoaaDoorRows
import Derived.Test.YthnglpojbfkpoaaDoorLibF
import Derived.Test.YthnglpojbfkpoaaDoorDgLFnReports
import Derived.Test.YthnglpojbfkpoaaDoorCards
import Derived.Test.YthnglpojbfkpoaaDoorTie
import Derived.LaidMore
import Derived.Lay
import Derived.SevenTiedAt
import Derived.Stop.Joined
import Derived.WalkKit
import Derived.ProofKit
import Derived.OpenShut
import Derived.ShutString
namespace Go.Ag
theorem law_FnReports (σ : Ac) (us : List V) (hro : Dv σ) (ha : L4 σ [(.sl (.int .u8), false)] us) : FA.S us σ fun r _ => r = .bool true :=
  oW (f := FA.d) (hs := FA.h) (by have := cD; unfold Fn.A Fn.P at this; exact this) rfl rfl ⟨iq, Wi, Wi, Wb, bX, dK, de, Wj, dw, O9, O9, O9, O9, trivial⟩ (by kernel_rfl) (fun x => by kernel_rfl) (fun x hw => by have := fh x hw; unfold Pm Pv at this; exact ⟨Eq.mp (FA.o x) this.1, (FA.v x).symm.trans this.2⟩) σ us hro ha
end Go.Ag
namespace Go.Proofs.YthnglpojbfkpoaaDoor
namespace fnReports
open Go
open Go.ChangeShapes Go.WideShapes Go.ChangeAt Go.RowKit Go.Ag

theorem own : ownKnob Tryd.prog.godebug = none := by kernel_rfl
theorem hspec (H : Type) (ds : List (DataW H)) (h : ds.length = 1) : Rows.fnReportsSpec.fn H ds = { results := [.lit (.bool true)], args := ds } := by
  match ds, h with
  | [d0], _ => rfl

set_option maxRecDepth 100000 in
theorem lifted (os : Os) (started : os.Started) (H : Type) (enc : TypeId × Value → H) :
    ReturnsInHanded {} Tryd.checked os 3 .any (fun w args => (Rows.fnReportsSpec.pre enc Tryd.prog Tryd.f3 Rows.fnReportsRow.domain false w args ∧ laidMetH Tryd.prog Rows.fnReportsRow.laid w) ∧ sizedMet enc Tryd.prog Tryd.f3 (OpenSpec.ofChange Rows.fnReportsSpec) false w args) (Rows.fnReportsSpec.post enc Tryd.prog Tryd.f3 false true false false) := by
  refine returnsInHanded_of_change_and (C := Tryd.checked) (X := fun w _ => laidMetH Tryd.prog Rows.fnReportsRow.laid w) (fun _ _ _ hh h => h.of_heap hh) own started (by kernel_rfl) Tryd.func3
    (ChangeSpec.witness_shaped (enc := enc) (C := Tryd.checked) (os := os) (X := fun w _ => laidMetH Tryd.prog Rows.fnReportsRow.laid w) false (World.laidAll Tryd.prog os Rows.fnReportsRow.laid) #[.slice none 0 0] 8 (World.laidAll_os _ _ _)
      (World.shaped_of_ZipB (by kernel_rfl) (by kernel_rfl)) (by kernel_rfl) (by kernel_rfl) (by kernel_rfl)
      (by rw [MakeChecks.laidMetH_plain _ _ _ (by kernel_rfl)]; exact laidMet_laidAll _ (by kernel_rfl) (by kernel_rfl))) ?_
  intro W base args ds gs before hval hW _ _ _ _
  exact gG (tys := [(.sl (.int .u8), false)]) (d := 2) (tb := 4) dX (by kernel_rfl) (by kernel_rfl) (by kernel_rfl) (by kernel_rfl) Tryd.underlying4 rfl (hspec H) law_FnReports hval hW

theorem over : Rows.fnReportsRow.holds Tryd.pinned (OpenSpec.ofChange Rows.fnReportsSpec) :=
  OpenClaim.holds_of_wide 3 Tryd.f3 rfl rfl rfl rfl rfl rfl rfl ⟨rfl, rfl, rfl, rfl, rfl⟩ rfl rfl rfl rfl rfl (by kernel_rfl) Tryd.func3 (by kernel_rfl)
    (of_decide_eq_true (by kernel_rfl)) (by unfold Func.isWrapper; first | (rw [if_pos (by decide +kernel)]; kernel_rfl) | (rw [if_neg (by decide +kernel)]; exact ⟨rfl, rfl⟩))
    (fun os started H enc _ => lifted os started H enc)

theorem proved : Rows.FnReportsCardSaid :=
  Claim7.holds_tied_plain_at .later [] [.data, .pinned] true (true, "2b437635a75c7a9c47466edbcb5e922a330f56590bb037da8759258fafa9ed88") false over (fun _ h => by cases h) (by kernel_rfl) (fun _ h => by cases h) fnReports_row_tie rfl ⟨rfl, rfl⟩ (by kernel_rfl) rfl
    (fun f fn hf hfn => by
      obtain rfl : f = 3 := Option.some.inj ((show Tryd.prog.funcNamed "loop.example/g03414/laws.FnReports" = some 3 by kernel_rfl).symm.trans hf) |>.symm
      obtain rfl : fn = Tryd.f3 := (Option.some.inj (Tryd.func3.symm.trans hfn)).symm
      exact ⟨by kernel_rfl, fun j t ht => by
        rw [Tryd.params3] at ht
        have hm : t ∈ [22] := by simpa using Array.mem_of_getElem? ht
        have hall : ([22].all fun u => !Tryd.prog.wantsStandIn u) = true := by kernel_rfl
        exact (show Tryd.prog.wantsStandIn t = false by simpa using List.all_eq_true.1 hall t hm)⟩)
    (by kernel_rfl)
#print axioms proved
end fnReports
end Go.Proofs.YthnglpojbfkpoaaDoor
