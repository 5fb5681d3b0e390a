/-
  WHAT THE HELPERS to*, eq*, sz* OF THE LAWS DO, type by type (written by program, gen.py).
-/
import Derived.Test.YtmjjamfkgingcaaDgP6E
import Derived.Test.YtmjjamfkgingcaaDgHP1
import Derived.Test.YtmjjamfkgingcaaDgHP2
import Derived.Test.YtmjjamfkgingcaaDgNf
namespace Go.Ag
set_option linter.unusedSimpArgs false
set_option linter.unusedVariables false

def sm_Event (_ : Int × Int × Bool) : Prop := True
def wl_Event (_ : Int × Int × Bool) : Prop := True
def sm_EventS (x : List (Int × Int × Bool)) : Prop := x.length ≤ 1048576 ∧ ∀ a ∈ x, sm_Event a
def wl_EventS (x : List (Int × Int × Bool)) : Prop := x.length ≤ 9223372036854775807 ∧ ∀ a ∈ x, wl_Event a
theorem sz_EventS (x : List (Int × Int × Bool)) (hw : wl_EventS x) (l : Int) (h0 : 0 ≤ l) (h1 : l ≤ 1048576) : ok_laws_szEventS (x, l) ∧ (v_laws_szEventS (x, l) < 0 ∨ (0 ≤ v_laws_szEventS (x, l) ∧ v_laws_szEventS (x, l) ≤ l ∧ sm_EventS x)) := by
  rw [oe_laws_szEventS, ve_laws_szEventS]
  have hl : x.length ≤ 9223372036854775807 := hw.1
  have hs : iSub .i64 l (lLen x) = l - x.length := by rw [lLen_eq]; exact iSub_i64 (by unfold In64; omega)
  refine ⟨trivial, ?_⟩
  simp only [hs, iLt_eq, bSel_eq, decide_eq_true_eq]
  split
  · left; omega
  · right; exact ⟨by omega, by omega, ⟨by omega, fun a _ => by simp [sm_Event]⟩⟩

def sm_Timing (_ : Int × Int × Int) : Prop := True
def wl_Timing (_ : Int × Int × Int) : Prop := True
theorem to_Timing (x : Int × Int × Int) (h : sm_Timing x) : ok_laws_toTiming x ∧ v_laws_toTiming x = x := by
  rw [oe_laws_toTiming, ve_laws_toTiming]
  exact ⟨trivial, rfl⟩

theorem to_Event (x : Int × Int × Bool) (h : sm_Event x) : ok_laws_toEvent x ∧ v_laws_toEvent x = x := by
  rw [oe_laws_toEvent, ve_laws_toEvent]
  exact ⟨trivial, rfl⟩

theorem to_EventS (x : List (Int × Int × Bool)) (h : sm_EventS x) : ok_laws_toEventS x ∧ v_laws_toEventS x = x := by
  rw [oe_laws_toEventS, ve_laws_toEventS]
  obtain ⟨h1, h2⟩ := h
  have hY : ∀ i : Nat, i < x.length → ok_laws_toEvent ((x.getD i (0, 0, false)).1, (x.getD i (0, 0, false)).2.1, (x.getD i (0, 0, false)).2.2) ∧ v_laws_toEvent ((x.getD i (0, 0, false)).1, (x.getD i (0, 0, false)).2.1, (x.getD i (0, 0, false)).2.2) = x.getD i (0, 0, false) := fun i hi => to_Event _ (h2 _ (getD_mem x i (0, 0, false) hi))
  refine ⟨⟨⟨by rw [lLen_eq]; omega, roomy_of (by rw [lLen_eq]; omega) (by rw [lLen_eq]; omega) (by omega)⟩, copyg_ok x (0, 0, false) (0, 0, false) h1 (fun _ => rfl) (fun l i hi => by simp only [lSet_eq, lGet_eq, iNat_eq, Int.toNat_natCast]; rw [(hY i hi).2]) (fun l i hl hi => ?_)⟩, copyg_v x (0, 0, false) (0, 0, false) h1 (fun _ => rfl) (fun l i hi => by simp only [lSet_eq, lGet_eq, iNat_eq, Int.toNat_natCast]; rw [(hY i hi).2])⟩
  simp only [iLt_eq, lLen_eq, iNat_eq, lGet_eq, decide_eq_true_eq, Int.toNat_natCast]
  exact ⟨fun hh => ⟨by omega, by omega, (hY i (by omega)).1, by omega, by omega⟩, fun _ => trivial⟩

theorem eq_Event (a b : Int × Int × Bool) (h : sm_Event a) : ok_laws_eqEvent (a, b) ∧ (v_laws_eqEvent (a, b) = true ↔ a = b) := by
  obtain ⟨a0, a1, a2⟩ := a
  obtain ⟨b0, b1, b2⟩ := b
  rw [oe_laws_eqEvent, ve_laws_eqEvent]
  refine ⟨by simp, ?_⟩
  simp only [bNot_eq, bAnd_eq, bIff_eq, iNe_eq, Bool.and_eq_true, Bool.not_not, decide_eq_true_eq, Prod.mk.injEq, beq_iff_eq]
  try (constructor <;> intro h <;> simp_all)

theorem eq_EventS (a b : List (Int × Int × Bool)) (h : sm_EventS a) : ok_laws_eqEventS (a, b) ∧ (v_laws_eqEventS (a, b) = true ↔ a = b) := by
  rw [oe_laws_eqEventS, ve_laws_eqEventS]
  obtain ⟨h1, h2⟩ := h
  have hY : ∀ i : Nat, i < a.length → ok_laws_eqEvent (((lGet a i (0, 0, false)).1, (lGet a i (0, 0, false)).2.1, (lGet a i (0, 0, false)).2.2), ((lGet b i (0, 0, false)).1, (lGet b i (0, 0, false)).2.1, (lGet b i (0, 0, false)).2.2)) ∧ (v_laws_eqEvent (((lGet a i (0, 0, false)).1, (lGet a i (0, 0, false)).2.1, (lGet a i (0, 0, false)).2.2), ((lGet b i (0, 0, false)).1, (lGet b i (0, 0, false)).2.1, (lGet b i (0, 0, false)).2.2)) = true ↔ a.getD i (0, 0, false) = b.getD i (0, 0, false)) := fun i hi => by
    have := eq_Event (a.getD i (0, 0, false)) (b.getD i (0, 0, false)) (h2 _ (getD_mem a i (0, 0, false) hi))
    rw [lGet_eq, lGet_eq]; exact this
  by_cases hl : a.length = b.length
  · refine ⟨⟨fun _ => trivial, fun _ => eq_ok a b (0, 0, false) (fun i => bNot (v_laws_eqEvent (((lGet a i (0, 0, false)).1, (lGet a i (0, 0, false)).2.1, (lGet a i (0, 0, false)).2.2), ((lGet b i (0, 0, false)).1, (lGet b i (0, 0, false)).2.1, (lGet b i (0, 0, false)).2.2)))) hl (fun i hi => by simp only [bNot_eq, Bool.not_eq_false', (hY i hi).2]) (by omega) (fun i hi => by simp only [bAnd_eq, iLt_eq, lLen_eq, iNat_eq, bNot_eq, Int.toNat_natCast, Int.ofNat_lt]) (fun i hi => rfl) (fun i hi => ?_)⟩, ?_⟩
    · simp only [iLt_eq, lLen_eq, iNat_eq, decide_eq_true_eq, Int.toNat_natCast]
      exact ⟨fun hh => ⟨by omega, by omega, by omega, by omega, (hY i (by omega)).1⟩, fun _ => trivial⟩
    · have hv := eq_v (c := fun i : Int => bAnd (iLt i (lLen a)) (bNot ((fun i => bNot (v_laws_eqEvent (((lGet a i (0, 0, false)).1, (lGet a i (0, 0, false)).2.1, (lGet a i (0, 0, false)).2.2), ((lGet b i (0, 0, false)).1, (lGet b i (0, 0, false)).2.1, (lGet b i (0, 0, false)).2.2)))) i.toNat))) (f := fun i => iAdd .i64 i 1) a b (0, 0, false) (fun i => bNot (v_laws_eqEvent (((lGet a i (0, 0, false)).1, (lGet a i (0, 0, false)).2.1, (lGet a i (0, 0, false)).2.2), ((lGet b i (0, 0, false)).1, (lGet b i (0, 0, false)).2.1, (lGet b i (0, 0, false)).2.2)))) hl (fun i hi => by simp only [bNot_eq, Bool.not_eq_false', (hY i hi).2]) (by omega) (fun i hi => by simp only [bAnd_eq, iLt_eq, lLen_eq, bNot_eq, Int.toNat_natCast, Int.ofNat_lt]) (fun i hi => rfl)
      have e1 : bNot (iNe (lLen a) (lLen b)) = true := by rw [bNot_eq, iNe_eq, lLen_eq, lLen_eq, hl]; simp
      rw [e1, bAnd_eq true, Bool.true_and, bNot_eq (iLt _ (lLen a)), iLt_eq _ (lLen a)]
      simp only [← iNat_eq, lLen_eq] at hv ⊢
      simp only [Bool.not_eq_true', decide_eq_false_iff_not]
      rw [hv]; simp
  · have e1 : bNot (iNe (lLen a) (lLen b)) = false := by rw [bNot_eq, iNe_eq, lLen_eq, lLen_eq]; simp; omega
    refine ⟨⟨fun _ => trivial, fun h => ?_⟩, ?_⟩
    · rw [bNot_eq] at e1; rw [h] at e1; cases e1
    · rw [e1, bAnd_eq, Bool.false_and]; constructor
      · intro h; cases h
      · intro e; subst e; exact absurd rfl hl

end Go.Ag
