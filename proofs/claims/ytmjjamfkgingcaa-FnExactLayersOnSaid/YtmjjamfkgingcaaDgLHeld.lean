/-
  THE LAWS FnExactIsHeld, FnExactLayersOn, in plain Lean
-/
import Derived.Test.YtmjjamfkgingcaaDgLUnp
import Derived.Test.YtmjjamfkgingcaaDgHP2
namespace Go.Ag
set_option linter.unusedSimpArgs false
set_option linter.unusedVariables false

theorem l1In_eq (a b c : Int) : v_spec_l1In (a, b, c) = (decide (b ≤ a) && decide (a ≤ c)) := by rw [ve_spec_l1In]; simp only [bAnd_eq, iGe_eq, iLe_eq]
theorem ok_l1In (x) : ok_spec_l1In x := by rw [oe_spec_l1In]; trivial
theorem ok_TapHold (x) : ok_spec_IsTapHold x := by rw [oe_spec_IsTapHold]; exact ok_spec_IsAction_t _
theorem isHeld_eq (x : List (Int × Int × Int × Int × Int)) : v_spec_IsHeld x = v_impl_IsHeld x := by
  rw [ve_spec_IsHeld, ve_impl_IsHeld]
  have : ∀ {c c' : Int × Int → Bool} {f : Int × Int → Int × Int} {a : Int × Int} {n : Int}, (∀ x, c x = c' x) → bNot (iLt (loopV c f a).2 n) = bNot (iLt (loopV c' f a).2 n) := by
    intro c c' f a n h; rw [funext h]
  apply this
  intro st
  rw [Bool.eq_iff_iff]
  simp only [ve_spec_IsTapHold, isAction_eq, l1In_eq, ve_impl_bit, bNot_eq, bAnd_eq, bOr_eq, iEq_eq, iLt_eq, iGt_eq, Bool.and_eq_true, Bool.or_eq_true, Bool.not_eq_true', Bool.not_eq_false', Bool.and_eq_false_iff, Bool.or_eq_false_iff, decide_eq_true_eq, decide_eq_false_iff_not, Bool.not_eq_true, Bool.not_eq_false, beq_iff_eq, beq_eq_false_iff_ne]
  generalize v_impl_IsAction _ = A
  cases A <;> simp <;> omega
theorem ok_spec_IsHeld_t (x : List (Int × Int × Int × Int × Int)) (h : x.length ≤ 1048576) : ok_spec_IsHeld x := by
  rw [oe_spec_IsHeld]
  refine cnt_ok (fun st => st.2) x.length (by omega) (fun st _ _ hc => ?_) (fun st => rfl) (fun st h0 h1 => ?_) (by simp) (by simp)
  · simp only [bAnd_eq, iLt_eq, lLen_eq, Bool.and_eq_true, decide_eq_true_eq] at hc
    exact hc.1
  · refine ⟨fun hlt => ?_, fun _ => trivial⟩
    simp only [iLt_eq, lLen_eq, decide_eq_true_eq] at hlt
    have h3 : st.2.toNat < x.length := by omega
    simp only [l1In_eq, iNat_eq, h3, h0, hlt, ok_l1In, ok_TapHold, ok_spec_IsAction_t, true_and, implies_true, and_true, bNot_eq, bOr_eq, Bool.and_eq_true, Bool.or_eq_true, Bool.not_eq_true', Bool.not_eq_false', Bool.and_eq_false_iff, Bool.or_eq_false_iff, decide_eq_true_eq, decide_eq_false_iff_not, Bool.not_eq_true, Bool.not_eq_false, beq_iff_eq, beq_eq_false_iff_ne, Bool.not_eq_false', Bool.or_eq_false_iff]
    exact ⟨fun hh => hh.1, fun hh => hh.1.1⟩
theorem ok_impl_IsHeld_t (x : List (Int × Int × Int × Int × Int)) (h : x.length ≤ 1048576) : ok_impl_IsHeld x := by
  rw [oe_impl_IsHeld]
  refine cnt_ok (fun st => st.2) x.length (by omega) (fun st _ _ hc => ?_) (fun st => rfl) (fun st h0 h1 => ?_) (by simp) (by simp)
  · simp only [bAnd_eq, iLt_eq, lLen_eq, Bool.and_eq_true, decide_eq_true_eq] at hc
    exact hc.1
  · refine ⟨fun hlt => ?_, fun _ => trivial⟩
    simp only [iLt_eq, lLen_eq, decide_eq_true_eq] at hlt
    have h3 : st.2.toNat < x.length := by omega
    simp only [oe_impl_bit, iNat_eq, h3, h0, hlt, ok_impl_IsAction_t, true_and, implies_true, and_true, iLt_eq, iGt_eq, bNot_eq, bOr_eq, Bool.and_eq_true, Bool.or_eq_true, Bool.not_eq_true', Bool.not_eq_false', Bool.and_eq_false_iff, Bool.or_eq_false_iff, decide_eq_true_eq, decide_eq_false_iff_not, Bool.not_eq_true, Bool.not_eq_false, beq_iff_eq, beq_eq_false_iff_ne, Bool.not_eq_false', Bool.or_eq_false_iff]
    refine ⟨fun h4 h5 => by omega, fun h4 h5 => by omega⟩
theorem wl_HeldS_of {x : List (Int × Int × Int × Int × Int)} (h : TuX.wf h_laws_FnExactIsHeld x) : wl_HeldS x := by
  exact ⟨h.1, fun a _ => by simp [wl_Held, wl_Action]⟩
theorem plain_FnExactIsHeld (x : List (Int × Int × Int × Int × Int)) (hw : TuX.wf h_laws_FnExactIsHeld x) : ok_laws_FnExactIsHeld x ∧ v_laws_FnExactIsHeld x = true := by
  rw [oe_laws_FnExactIsHeld, ve_laws_FnExactIsHeld]
  obtain ⟨k1, k2⟩ := sz_HeldS x (wl_HeldS_of hw) 1048576 (by omega) (by omega)
  rcases k2 with k2 | ⟨k2, _, k3⟩
  · have e : iLt (v_laws_szHeldS (x, 1048576)) 0 = true := by rw [iLt_eq]; simpa using k2
    simp only [e]; simp [bOr_eq, k1]
  · have e : iLt (v_laws_szHeldS (x, 1048576)) 0 = false := by rw [iLt_eq]; simpa using k2
    obtain ⟨t1, t2⟩ := to_HeldS x k3
    obtain ⟨q1, q2⟩ := eq_HeldS x x k3
    have q2 := q2.2 rfl
    simp only [e, t2, isHeld_eq, q2]
    simp [k1, t1, q1, ok_spec_IsHeld_t x k3.1, ok_impl_IsHeld_t x k3.1, bOr_eq, bAnd_eq, bNot_eq, bIff_eq]
end Go.Ag
