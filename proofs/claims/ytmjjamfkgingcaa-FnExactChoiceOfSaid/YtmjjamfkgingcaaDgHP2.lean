/-
  WHAT THE HELPERS to*, eq*, sz* OF THE LAWS DO, type by type (written by program, gen.py).
-/
import Derived.Test.YtmjjamfkgingcaaDgP2E
import Derived.Test.YtmjjamfkgingcaaDgHP1
import Derived.Test.YtmjjamfkgingcaaDgNf
namespace Go.Ag
set_option linter.unusedSimpArgs false
set_option linter.unusedVariables false

def sm_Held (x : Int × Int × Int × Int × Int) : Prop := sm_Action (x.2.1, x.2.2.1, x.2.2.2.1, x.2.2.2.2) ∧ True
def wl_Held (x : Int × Int × Int × Int × Int) : Prop := wl_Action (x.2.1, x.2.2.1, x.2.2.2.1, x.2.2.2.2) ∧ True
def sm_HeldS (x : List (Int × Int × Int × Int × Int)) : Prop := x.length ≤ 1048576 ∧ ∀ a ∈ x, sm_Held a
def wl_HeldS (x : List (Int × Int × Int × Int × Int)) : Prop := x.length ≤ 9223372036854775807 ∧ ∀ a ∈ x, wl_Held a
theorem sz_HeldS (x : List (Int × Int × Int × Int × Int)) (hw : wl_HeldS x) (l : Int) (h0 : 0 ≤ l) (h1 : l ≤ 1048576) : ok_laws_szHeldS (x, l) ∧ (v_laws_szHeldS (x, l) < 0 ∨ (0 ≤ v_laws_szHeldS (x, l) ∧ v_laws_szHeldS (x, l) ≤ l ∧ sm_HeldS x)) := by
  rw [oe_laws_szHeldS, ve_laws_szHeldS]
  have hl : x.length ≤ 9223372036854775807 := hw.1
  have hs : iSub .i64 l (lLen x) = l - x.length := by rw [lLen_eq]; exact iSub_i64 (by unfold In64; omega)
  refine ⟨trivial, ?_⟩
  simp only [hs, iLt_eq, bSel_eq, decide_eq_true_eq]
  split
  · left; omega
  · right; exact ⟨by omega, by omega, ⟨by omega, fun a _ => by simp [sm_Held, sm_Action]⟩⟩

theorem to_Action (x : Int × Int × Int × Int) (h : sm_Action x) : ok_laws_toAction x ∧ v_laws_toAction x = x := by
  rw [oe_laws_toAction, ve_laws_toAction]
  exact ⟨trivial, rfl⟩

theorem to_Held (x : Int × Int × Int × Int × Int) (h : sm_Held x) : ok_laws_toHeld x ∧ v_laws_toHeld x = x := by
  rw [oe_laws_toHeld, ve_laws_toHeld]
  have k0 := to_Action (x.2.1, x.2.2.1, x.2.2.2.1, x.2.2.2.2) (by unfold sm_Held at h; exact h.1)
  refine ⟨k0.1, ?_⟩
  simp only [k0.2]

theorem to_HeldS (x : List (Int × Int × Int × Int × Int)) (h : sm_HeldS x) : ok_laws_toHeldS x ∧ v_laws_toHeldS x = x := by
  rw [oe_laws_toHeldS, ve_laws_toHeldS]
  obtain ⟨h1, h2⟩ := h
  have hY : ∀ i : Nat, i < x.length → ok_laws_toHeld ((x.getD i (0, 0, 0, 0, 0)).1, (x.getD i (0, 0, 0, 0, 0)).2.1, (x.getD i (0, 0, 0, 0, 0)).2.2.1, (x.getD i (0, 0, 0, 0, 0)).2.2.2.1, (x.getD i (0, 0, 0, 0, 0)).2.2.2.2) ∧ v_laws_toHeld ((x.getD i (0, 0, 0, 0, 0)).1, (x.getD i (0, 0, 0, 0, 0)).2.1, (x.getD i (0, 0, 0, 0, 0)).2.2.1, (x.getD i (0, 0, 0, 0, 0)).2.2.2.1, (x.getD i (0, 0, 0, 0, 0)).2.2.2.2) = x.getD i (0, 0, 0, 0, 0) := fun i hi => to_Held _ (h2 _ (getD_mem x i (0, 0, 0, 0, 0) hi))
  refine ⟨⟨⟨by rw [lLen_eq]; omega, roomy_of (by rw [lLen_eq]; omega) (by rw [lLen_eq]; omega) (by omega)⟩, copyg_ok x (0, 0, 0, 0, 0) (0, 0, 0, 0, 0) h1 (fun _ => rfl) (fun l i hi => by simp only [lSet_eq, lGet_eq, iNat_eq, Int.toNat_natCast]; rw [(hY i hi).2]) (fun l i hl hi => ?_)⟩, copyg_v x (0, 0, 0, 0, 0) (0, 0, 0, 0, 0) h1 (fun _ => rfl) (fun l i hi => by simp only [lSet_eq, lGet_eq, iNat_eq, Int.toNat_natCast]; rw [(hY i hi).2])⟩
  simp only [iLt_eq, lLen_eq, iNat_eq, lGet_eq, decide_eq_true_eq, Int.toNat_natCast]
  exact ⟨fun hh => ⟨by omega, by omega, (hY i (by omega)).1, by omega, by omega⟩, fun _ => trivial⟩

theorem eq_Held (a b : Int × Int × Int × Int × Int) (h : sm_Held a) : ok_laws_eqHeld (a, b) ∧ (v_laws_eqHeld (a, b) = true ↔ a = b) := by
  obtain ⟨a0, a1, a2, a3, a4⟩ := a
  obtain ⟨b0, b1, b2, b3, b4⟩ := b
  have k0 := eq_Action (a1, a2, a3, a4) (b1, b2, b3, b4) (by unfold sm_Held at h; exact h.1)
  rw [oe_laws_eqHeld, ve_laws_eqHeld]
  refine ⟨by simp [k0.1, k0.2], ?_⟩
  simp only [k0.1, k0.2, bNot_eq, bAnd_eq, bIff_eq, iNe_eq, Bool.and_eq_true, Bool.not_not, decide_eq_true_eq, Prod.mk.injEq, beq_iff_eq]
  try (constructor <;> intro h <;> simp_all)

theorem eq_HeldS (a b : List (Int × Int × Int × Int × Int)) (h : sm_HeldS a) : ok_laws_eqHeldS (a, b) ∧ (v_laws_eqHeldS (a, b) = true ↔ a = b) := by
  rw [oe_laws_eqHeldS, ve_laws_eqHeldS]
  obtain ⟨h1, h2⟩ := h
  have hY : ∀ i : Nat, i < a.length → ok_laws_eqHeld (((lGet a i (0, 0, 0, 0, 0)).1, (lGet a i (0, 0, 0, 0, 0)).2.1, (lGet a i (0, 0, 0, 0, 0)).2.2.1, (lGet a i (0, 0, 0, 0, 0)).2.2.2.1, (lGet a i (0, 0, 0, 0, 0)).2.2.2.2), ((lGet b i (0, 0, 0, 0, 0)).1, (lGet b i (0, 0, 0, 0, 0)).2.1, (lGet b i (0, 0, 0, 0, 0)).2.2.1, (lGet b i (0, 0, 0, 0, 0)).2.2.2.1, (lGet b i (0, 0, 0, 0, 0)).2.2.2.2)) ∧ (v_laws_eqHeld (((lGet a i (0, 0, 0, 0, 0)).1, (lGet a i (0, 0, 0, 0, 0)).2.1, (lGet a i (0, 0, 0, 0, 0)).2.2.1, (lGet a i (0, 0, 0, 0, 0)).2.2.2.1, (lGet a i (0, 0, 0, 0, 0)).2.2.2.2), ((lGet b i (0, 0, 0, 0, 0)).1, (lGet b i (0, 0, 0, 0, 0)).2.1, (lGet b i (0, 0, 0, 0, 0)).2.2.1, (lGet b i (0, 0, 0, 0, 0)).2.2.2.1, (lGet b i (0, 0, 0, 0, 0)).2.2.2.2)) = true ↔ a.getD i (0, 0, 0, 0, 0) = b.getD i (0, 0, 0, 0, 0)) := fun i hi => by
    have := eq_Held (a.getD i (0, 0, 0, 0, 0)) (b.getD i (0, 0, 0, 0, 0)) (h2 _ (getD_mem a i (0, 0, 0, 0, 0) hi))
    rw [lGet_eq, lGet_eq]; exact this
  by_cases hl : a.length = b.length
  · refine ⟨⟨fun _ => trivial, fun _ => eq_ok a b (0, 0, 0, 0, 0) (fun i => bNot (v_laws_eqHeld (((lGet a i (0, 0, 0, 0, 0)).1, (lGet a i (0, 0, 0, 0, 0)).2.1, (lGet a i (0, 0, 0, 0, 0)).2.2.1, (lGet a i (0, 0, 0, 0, 0)).2.2.2.1, (lGet a i (0, 0, 0, 0, 0)).2.2.2.2), ((lGet b i (0, 0, 0, 0, 0)).1, (lGet b i (0, 0, 0, 0, 0)).2.1, (lGet b i (0, 0, 0, 0, 0)).2.2.1, (lGet b i (0, 0, 0, 0, 0)).2.2.2.1, (lGet b i (0, 0, 0, 0, 0)).2.2.2.2)))) hl (fun i hi => by simp only [bNot_eq, Bool.not_eq_false', (hY i hi).2]) (by omega) (fun i hi => by simp only [bAnd_eq, iLt_eq, lLen_eq, iNat_eq, bNot_eq, Int.toNat_natCast, Int.ofNat_lt]) (fun i hi => rfl) (fun i hi => ?_)⟩, ?_⟩
    · simp only [iLt_eq, lLen_eq, iNat_eq, decide_eq_true_eq, Int.toNat_natCast]
      exact ⟨fun hh => ⟨by omega, by omega, by omega, by omega, (hY i (by omega)).1⟩, fun _ => trivial⟩
    · have hv := eq_v (c := fun i : Int => bAnd (iLt i (lLen a)) (bNot ((fun i => bNot (v_laws_eqHeld (((lGet a i (0, 0, 0, 0, 0)).1, (lGet a i (0, 0, 0, 0, 0)).2.1, (lGet a i (0, 0, 0, 0, 0)).2.2.1, (lGet a i (0, 0, 0, 0, 0)).2.2.2.1, (lGet a i (0, 0, 0, 0, 0)).2.2.2.2), ((lGet b i (0, 0, 0, 0, 0)).1, (lGet b i (0, 0, 0, 0, 0)).2.1, (lGet b i (0, 0, 0, 0, 0)).2.2.1, (lGet b i (0, 0, 0, 0, 0)).2.2.2.1, (lGet b i (0, 0, 0, 0, 0)).2.2.2.2)))) i.toNat))) (f := fun i => iAdd .i64 i 1) a b (0, 0, 0, 0, 0) (fun i => bNot (v_laws_eqHeld (((lGet a i (0, 0, 0, 0, 0)).1, (lGet a i (0, 0, 0, 0, 0)).2.1, (lGet a i (0, 0, 0, 0, 0)).2.2.1, (lGet a i (0, 0, 0, 0, 0)).2.2.2.1, (lGet a i (0, 0, 0, 0, 0)).2.2.2.2), ((lGet b i (0, 0, 0, 0, 0)).1, (lGet b i (0, 0, 0, 0, 0)).2.1, (lGet b i (0, 0, 0, 0, 0)).2.2.1, (lGet b i (0, 0, 0, 0, 0)).2.2.2.1, (lGet b i (0, 0, 0, 0, 0)).2.2.2.2)))) hl (fun i hi => by simp only [bNot_eq, Bool.not_eq_false', (hY i hi).2]) (by omega) (fun i hi => by simp only [bAnd_eq, iLt_eq, lLen_eq, bNot_eq, Int.toNat_natCast, Int.ofNat_lt]) (fun i hi => rfl)
      have e1 : bNot (iNe (lLen a) (lLen b)) = true := by rw [bNot_eq, iNe_eq, lLen_eq, lLen_eq, hl]; simp
      rw [e1, bAnd_eq true, Bool.true_and, bNot_eq (iLt _ (lLen a)), iLt_eq _ (lLen a)]
      simp only [← iNat_eq, lLen_eq] at hv ⊢
      simp only [Bool.not_eq_true', decide_eq_false_iff_not]
      rw [hv]; simp
  · have e1 : bNot (iNe (lLen a) (lLen b)) = false := by rw [bNot_eq, iNe_eq, lLen_eq, lLen_eq]; simp; omega
    refine ⟨⟨fun _ => trivial, fun h => ?_⟩, ?_⟩
    · rw [bNot_eq] at e1; rw [h] at e1; cases e1
    · rw [e1, bAnd_eq, Bool.false_and]; constructor
      · intro h; cases h
      · intro e; subst e; exact absurd rfl hl

end Go.Ag
