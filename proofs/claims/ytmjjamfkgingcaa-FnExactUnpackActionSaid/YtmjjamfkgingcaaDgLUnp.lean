/-
  THE LAW FnExactUnpackAction, in plain Lean
-/
import Derived.Test.YtmjjamfkgingcaaDgP1E
import Derived.Test.YtmjjamfkgingcaaDgNf
namespace Go.Ag
set_option linter.unusedSimpArgs false
set_option linter.unusedVariables false

theorem isAction_eq (x : Int × Int × Int × Int) : v_spec_IsAction x = v_impl_IsAction x := by
  simp only [ve_spec_IsAction, ve_impl_IsAction, ve_spec_l1In, ve_impl_isCode, ve_impl_isMods, ve_impl_isUpper, bNot_eq, bAnd_eq, bOr_eq, bIff_eq, bSel_eq, iEq_eq, iNe_eq, iLt_eq, iLe_eq, iGt_eq, iGe_eq, sEq_eq, sNe_eq, lLen_eq, lN_eq, lGet_eq, lSet_eq, lSub_eq, lTake_eq, lApp_eq, lRep_eq, iNat_eq, sAdd_eq]
  rw [Bool.eq_iff_iff]
  repeat' split
  all_goals simp only [Bool.and_eq_true, Bool.or_eq_true, Bool.not_eq_true', Bool.not_eq_false', Bool.and_eq_false_iff, Bool.or_eq_false_iff, decide_eq_true_eq, decide_eq_false_iff_not, Bool.not_eq_true, Bool.not_eq_false, beq_iff_eq, beq_eq_false_iff_ne] at *
  all_goals omega
theorem ok_spec_IsAction_t (x : Int × Int × Int × Int) : ok_spec_IsAction x := by
  have h : ∀ y, ok_spec_l1In y := fun y => by rw [oe_spec_l1In]; trivial
  rw [oe_spec_IsAction]
  simp [h]
theorem ok_impl_IsAction_t (x : Int × Int × Int × Int) : ok_impl_IsAction x := by
  have h1 : ∀ y, ok_impl_isCode y := fun y => by rw [oe_impl_isCode]; trivial
  have h2 : ∀ y, ok_impl_isMods y := fun y => by rw [oe_impl_isMods]; trivial
  have h3 : ∀ y, ok_impl_isUpper y := fun y => by rw [oe_impl_isUpper]; trivial
  rw [oe_impl_IsAction]
  simp [h1, h2, h3]
theorem eqAction_iff (a b : Int × Int × Int × Int) : v_laws_eqAction (a, b) = decide (a = b) := by
  obtain ⟨a1, a2, a3, a4⟩ := a
  obtain ⟨b1, b2, b3, b4⟩ := b
  rw [ve_laws_eqAction, Bool.eq_iff_iff]
  simp only [bNot_eq, bAnd_eq, bOr_eq, bIff_eq, bSel_eq, iEq_eq, iNe_eq, iLt_eq, iLe_eq, iGt_eq, iGe_eq, sEq_eq, sNe_eq, lLen_eq, lN_eq, lGet_eq, lSet_eq, lSub_eq, lTake_eq, lApp_eq, lRep_eq, iNat_eq, sAdd_eq, Bool.and_eq_true, Bool.or_eq_true, Bool.not_eq_true', Bool.not_eq_false', Bool.and_eq_false_iff, Bool.or_eq_false_iff, decide_eq_true_eq, decide_eq_false_iff_not, Bool.not_eq_true, Bool.not_eq_false, beq_iff_eq, beq_eq_false_iff_ne, Prod.mk.injEq, Bool.not_not]
theorem ok_eqAction (x) : ok_laws_eqAction x := by rw [oe_laws_eqAction]; simp
theorem toByteS_eq (x : List Int) (h : x.length ≤ 2 ^ 20) : ok_laws_toByteS x ∧ v_laws_toByteS x = x := by
  rw [oe_laws_toByteS, ve_laws_toByteS]
  refine ⟨⟨⟨by rw [lLen_eq]; omega, ?_⟩, copy_ok x 0 0 (by omega) (fun _ => rfl) (fun _ => rfl) (fun l i hl hi => ?_)⟩, copy_v x 0 0 (by omega) (fun _ => rfl) (fun _ => rfl)⟩
  · rw [lLen_eq]; show _ ≤ 2 ^ 40; omega
  · simp only [iLt_eq, lLen_eq, iNat_eq, decide_eq_true_eq, Int.toNat_natCast]
    exact ⟨fun hh => (by omega), fun _ => trivial⟩
theorem eqByteS_iff (a b : List Int) (ha : a.length ≤ 2 ^ 20) : ok_laws_eqByteS (a, b) ∧ v_laws_eqByteS (a, b) = decide (a = b) := by
  rw [oe_laws_eqByteS, ve_laws_eqByteS]
  by_cases hl : a.length = b.length
  · refine ⟨⟨fun _ => trivial, fun _ => eq_ok a b 0 (fun i => iNe (lGet a i 0) (lGet b i 0)) hl (fun i hi => by simp [iNe_eq, lGet_eq]) (by omega) (fun i hi => by simp only [bNot_eq, bAnd_eq, bOr_eq, bIff_eq, bSel_eq, iEq_eq, iNe_eq, iLt_eq, iLe_eq, iGt_eq, iGe_eq, sEq_eq, sNe_eq, lLen_eq, lN_eq, lGet_eq, lSet_eq, lSub_eq, lTake_eq, lApp_eq, lRep_eq, iNat_eq, sAdd_eq, Int.toNat_natCast]; simp) (fun i hi => rfl) (fun i hi => ?_)⟩, ?_⟩
    · simp only [iLt_eq, lLen_eq, iNat_eq, decide_eq_true_eq, Int.toNat_natCast]
      exact ⟨fun hh => (by omega), fun _ => trivial⟩
    · rw [Bool.eq_iff_iff]
      simp only [bAnd_eq, bNot_eq, iNe_eq, iLt_eq, lLen_eq, Bool.and_eq_true, Bool.or_eq_true, Bool.not_eq_true', Bool.not_eq_false', Bool.and_eq_false_iff, Bool.or_eq_false_iff, decide_eq_true_eq, decide_eq_false_iff_not, Bool.not_eq_true, Bool.not_eq_false, beq_iff_eq, beq_eq_false_iff_ne, Bool.not_not]
      rw [eq_v a b 0 (fun i => iNe (lGet a i 0) (lGet b i 0)) hl (fun i hi => by simp [iNe_eq, lGet_eq]) (by omega) (fun i hi => by simp only [bNot_eq, bAnd_eq, bOr_eq, bIff_eq, bSel_eq, iEq_eq, iNe_eq, iLt_eq, iLe_eq, iGt_eq, iGe_eq, sEq_eq, sNe_eq, lLen_eq, lN_eq, lGet_eq, lSet_eq, lSub_eq, lTake_eq, lApp_eq, lRep_eq, iNat_eq, sAdd_eq, Int.toNat_natCast]; simp) (fun i hi => rfl)]
      simp [hl]
  · refine ⟨⟨fun _ => trivial, fun h => ?_⟩, ?_⟩
    · simp only [iNe_eq, lLen_eq, Bool.and_eq_true, Bool.or_eq_true, Bool.not_eq_true', Bool.not_eq_false', Bool.and_eq_false_iff, Bool.or_eq_false_iff, decide_eq_true_eq, decide_eq_false_iff_not, Bool.not_eq_true, Bool.not_eq_false, beq_iff_eq, beq_eq_false_iff_ne] at h; omega
    · rw [Bool.eq_iff_iff]
      simp only [bAnd_eq, bNot_eq, iNe_eq, iLt_eq, lLen_eq, Bool.and_eq_true, Bool.or_eq_true, Bool.not_eq_true', Bool.not_eq_false', Bool.and_eq_false_iff, Bool.or_eq_false_iff, decide_eq_true_eq, decide_eq_false_iff_not, Bool.not_eq_true, Bool.not_eq_false, beq_iff_eq, beq_eq_false_iff_ne, Bool.not_not]
      constructor
      · intro h; omega
      · intro h; subst h; exact absurd rfl hl

theorem unpack_eq (x : List Int) : v_spec_UnpackAction x = v_impl_UnpackAction x := by
  rw [ve_spec_UnpackAction, ve_impl_UnpackAction, isAction_eq]
theorem ok_unpack (x : List Int) : ok_spec_UnpackAction x ∧ ok_impl_UnpackAction x := by
  rw [oe_spec_UnpackAction, oe_impl_UnpackAction]
  simp only [bNot_eq, bAnd_eq, bOr_eq, bIff_eq, bSel_eq, iEq_eq, iNe_eq, iLt_eq, iLe_eq, iGt_eq, iGe_eq, sEq_eq, sNe_eq, lLen_eq, lN_eq, lGet_eq, lSet_eq, lSub_eq, lTake_eq, lApp_eq, lRep_eq, iNat_eq, sAdd_eq]
  refine ⟨⟨fun _ => trivial, fun h => ?_⟩, ⟨fun _ => trivial, fun h => ?_⟩⟩ <;>
  · simp only [Bool.and_eq_true, Bool.or_eq_true, Bool.not_eq_true', Bool.not_eq_false', Bool.and_eq_false_iff, Bool.or_eq_false_iff, decide_eq_true_eq, decide_eq_false_iff_not, Bool.not_eq_true, Bool.not_eq_false, beq_iff_eq, beq_eq_false_iff_ne, Bool.not_eq_false'] at h
    have h : x.length = 3 := by omega
    simp [h, ok_spec_IsAction_t, ok_impl_IsAction_t]
theorem plain_FnExactUnpackAction (x : List Int) (_ : TuX.wf h_laws_FnExactUnpackAction x) : ok_laws_FnExactUnpackAction x ∧ v_laws_FnExactUnpackAction x = true := by
  rw [oe_laws_FnExactUnpackAction, ve_laws_FnExactUnpackAction]
  by_cases hx : x.length ≤ 2 ^ 20
  · obtain ⟨t1, t2⟩ := toByteS_eq x hx
    obtain ⟨e1, e2⟩ := eqByteS_iff x x hx
    have hg : iGt (lLen x) 1048576 = false := by rw [iGt_eq, lLen_eq]; simp; omega
    simp only [t2, hg, unpack_eq, eqAction_iff, e2]
    simp [t1, ok_eqAction, (ok_unpack x).1, (ok_unpack x).2, e1, bNot_eq, bAnd_eq, bOr_eq, bIff_eq, bSel_eq, iEq_eq, iNe_eq, iLt_eq, iLe_eq, iGt_eq, iGe_eq, sEq_eq, sNe_eq, lLen_eq, lN_eq, lGet_eq, lSet_eq, lSub_eq, lTake_eq, lApp_eq, lRep_eq, iNat_eq, sAdd_eq]
  · have hg : iGt (lLen x) 1048576 = true := by rw [iGt_eq, lLen_eq]; simp; omega
    simp only [hg]
    simp [bOr_eq]
end Go.Ag
