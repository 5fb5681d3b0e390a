/-
  WHAT THE HELPERS to*, eq*, sz* OF THE LAWS DO, type by type (written by program, gen.py).
-/
import Derived.Test.YtmjjamfkgingcaaDgP1E
import Derived.Test.YtmjjamfkgingcaaDgNf
namespace Go.Ag
set_option linter.unusedSimpArgs false
set_option linter.unusedVariables false

def sm_ByteS (x : List (Int)) : Prop := x.length ≤ 1048576
def wl_ByteS (x : List (Int)) : Prop := x.length ≤ 9223372036854775807
theorem to_ByteS (x : List (Int)) (h : sm_ByteS x) : ok_laws_toByteS x ∧ v_laws_toByteS x = x := by
  rw [oe_laws_toByteS, ve_laws_toByteS]
  have h1 : x.length ≤ 1048576 := h
  refine ⟨⟨⟨by rw [lLen_eq]; omega, roomy_of (by rw [lLen_eq]; omega) (by rw [lLen_eq]; omega) (by omega)⟩, copyg_ok x 0 0 h1 (fun _ => rfl) (fun l i hi => by simp only [lSet_eq, lGet_eq, iNat_eq, Int.toNat_natCast]) (fun l i hl hi => ?_)⟩, copyg_v x 0 0 h1 (fun _ => rfl) (fun l i hi => by simp only [lSet_eq, lGet_eq, iNat_eq, Int.toNat_natCast])⟩
  simp only [iLt_eq, lLen_eq, iNat_eq, decide_eq_true_eq, Int.toNat_natCast]
  exact ⟨fun hh => (by omega), fun _ => trivial⟩

def sm_Action (_ : Int × Int × Int × Int) : Prop := True
def wl_Action (_ : Int × Int × Int × Int) : Prop := True
theorem eq_Action (a b : Int × Int × Int × Int) (h : sm_Action a) : ok_laws_eqAction (a, b) ∧ (v_laws_eqAction (a, b) = true ↔ a = b) := by
  obtain ⟨a0, a1, a2, a3⟩ := a
  obtain ⟨b0, b1, b2, b3⟩ := b
  rw [oe_laws_eqAction, ve_laws_eqAction]
  refine ⟨by simp, ?_⟩
  simp only [bNot_eq, bAnd_eq, bIff_eq, iNe_eq, Bool.and_eq_true, Bool.not_not, decide_eq_true_eq, Prod.mk.injEq, beq_iff_eq]
  try (constructor <;> intro h <;> simp_all)

theorem eq_ByteS (a b : List (Int)) (h : sm_ByteS a) : ok_laws_eqByteS (a, b) ∧ (v_laws_eqByteS (a, b) = true ↔ a = b) := by
  rw [oe_laws_eqByteS, ve_laws_eqByteS]
  have h1 : a.length ≤ 1048576 := h
  by_cases hl : a.length = b.length
  · refine ⟨⟨fun _ => trivial, fun _ => eq_ok a b 0 (fun i => iNe (lGet a i 0) (lGet b i 0)) hl (fun i hi => by simp [iNe_eq, lGet_eq]) (by omega) (fun i hi => by simp only [bAnd_eq, iLt_eq, lLen_eq, iNat_eq, bNot_eq, Int.toNat_natCast, Int.ofNat_lt]) (fun i hi => rfl) (fun i hi => ?_)⟩, ?_⟩
    · simp only [iLt_eq, lLen_eq, iNat_eq, decide_eq_true_eq, Int.toNat_natCast]
      exact ⟨fun hh => (by omega), fun _ => trivial⟩
    · have hv := eq_v (c := fun i : Int => bAnd (iLt i (lLen a)) (bNot ((fun i => iNe (lGet a i 0) (lGet b i 0)) i.toNat))) (f := fun i => iAdd .i64 i 1) a b 0 (fun i => iNe (lGet a i 0) (lGet b i 0)) hl (fun i hi => by simp [iNe_eq, lGet_eq]) (by omega) (fun i hi => by simp only [bAnd_eq, iLt_eq, lLen_eq, bNot_eq, Int.toNat_natCast, Int.ofNat_lt]) (fun i hi => rfl)
      have e1 : bNot (iNe (lLen a) (lLen b)) = true := by rw [bNot_eq, iNe_eq, lLen_eq, lLen_eq, hl]; simp
      rw [e1, bAnd_eq true, Bool.true_and, bNot_eq (iLt _ (lLen a)), iLt_eq _ (lLen a)]
      simp only [← iNat_eq, lLen_eq] at hv ⊢
      simp only [Bool.not_eq_true', decide_eq_false_iff_not]
      rw [hv]; simp
  · have e1 : bNot (iNe (lLen a) (lLen b)) = false := by rw [bNot_eq, iNe_eq, lLen_eq, lLen_eq]; simp; omega
    refine ⟨⟨fun _ => trivial, fun h => ?_⟩, ?_⟩
    · rw [bNot_eq] at e1; rw [h] at e1; cases e1
    · rw [e1, bAnd_eq, Bool.false_and]; constructor
      · intro h; cases h
      · intro e; subst e; exact absurd rfl hl

end Go.Ag
