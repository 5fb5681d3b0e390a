/-
  THE LAW FnExactLayersOn, in plain Lean
-/
import Derived.Test.YtmjjamfkgingcaaDgLHeld
namespace Go.Ag
set_option linter.unusedSimpArgs false
set_option linter.unusedVariables false

/-- What valid held keys are, one by one. -/
def HeldOk (h : Int × Int × Int × Int × Int) : Prop := 0 ≤ h.1 ∧ h.1 ≤ 31 ∧ v_impl_IsAction h.2 = true ∧ h.2.1 ≠ 1 ∧ h.2.1 ≠ 6 ∧ h.2.1 ≠ 7
theorem isHeld_all {x : List (Int × Int × Int × Int × Int)} (hl : x.length ≤ 1048576) (h : v_impl_IsHeld x = true) : ∀ a ∈ x, HeldOk a := by
  rw [ve_impl_IsHeld, bNot_eq, Bool.not_eq_true', iLt_eq _ (lLen x), decide_eq_false_iff_not] at h
  have key := loop_inv_v (c := fun x0 : Int × Int => (bAnd (iLt x0.2 (lLen x)) (bAnd (bNot (bOr (iLt (lGet x (iNat x0.2) (0, 0, 0, 0, 0)).1 0) (bOr (iGt (lGet x (iNat x0.2) (0, 0, 0, 0, 0)).1 31) (bOr (iEq (v_impl_bit (x0.1, (lGet x (iNat x0.2) (0, 0, 0, 0, 0)).1)) 1) (bNot (v_impl_IsAction ((lGet x (iNat x0.2) (0, 0, 0, 0, 0)).2.1, (lGet x (iNat x0.2) (0, 0, 0, 0, 0)).2.2.1, (lGet x (iNat x0.2) (0, 0, 0, 0, 0)).2.2.2.1, (lGet x (iNat x0.2) (0, 0, 0, 0, 0)).2.2.2.2))))))) (bNot (bOr (iEq (lGet x (iNat x0.2) (0, 0, 0, 0, 0)).2.1 1) (bOr (iEq (lGet x (iNat x0.2) (0, 0, 0, 0, 0)).2.1 6) (iEq (lGet x (iNat x0.2) (0, 0, 0, 0, 0)).2.1 7)))))))
    (f := fun x0 => ((iOr Go.IntKind.i64 x0.1 (iShl Go.IntKind.i64 1 (lGet x (iNat x0.2) (0, 0, 0, 0, 0)).1)), (iAdd Go.IntKind.i64 x0.2 1)))
    (fun st => ∃ i : Nat, st.2 = i ∧ i ≤ x.length ∧ ∀ j, j < i → HeldOk (x.getD j (0, 0, 0, 0, 0))) (fun st => x.length - st.2.toNat) (fun st hI hc => ?_) (x0 := (0, 0)) ⟨0, rfl, Nat.zero_le _, fun j hj => by omega⟩
  · obtain ⟨⟨i, k1, k2, k3⟩, _⟩ := key
    rw [k1, lLen_eq] at h
    have : i = x.length := by omega
    subst this
    intro a ha
    obtain ⟨j, hj, rfl⟩ := List.getElem_of_mem ha
    have := k3 j hj
    rw [List.getD_eq_getElem?_getD, List.getElem?_eq_getElem hj] at this
    exact this
  · obtain ⟨i, k1, k2, k3⟩ := hI
    obtain ⟨s, j⟩ := st
    simp only at k1
    subst k1
    simp only [bAnd_eq, bNot_eq, bOr_eq, iLt_eq, iGt_eq, iEq_eq, lLen_eq, lGet_eq, iNat_eq, Int.toNat_natCast, Bool.and_eq_true, Bool.not_eq_true', Bool.or_eq_false_iff, decide_eq_true_eq, decide_eq_false_iff_not, Bool.not_eq_false'] at hc
    obtain ⟨c1, ⟨c2, c3, _, c5⟩, c6, c7, c8⟩ := hc
    refine ⟨⟨i + 1, ?_, by omega, fun j hj => ?_⟩, ?_⟩
    · simp only; rw [iAdd_i64 (by unfold In64; omega)]; omega
    · by_cases hji : j = i
      · subst hji; exact ⟨by omega, by omega, c5, c6, c7, c8⟩
      · exact k3 j (by omega)
    · simp only; rw [iAdd_i64 (by unfold In64; omega)]; omega
theorem isAction_mo {a : Int × Int × Int × Int} (h : v_impl_IsAction a = true) (hk : a.1 = 3) : a.2.1 = 0 ∧ a.2.2.1 = 0 ∧ 1 ≤ a.2.2.2 ∧ a.2.2.2 ≤ 3 := by
  rw [ve_impl_IsAction] at h
  simp only [ve_impl_isUpper, ve_impl_isCode, ve_impl_isMods, hk, bNot_eq, bAnd_eq, bOr_eq, bIff_eq, bSel_eq, iEq_eq, iNe_eq, iLt_eq, iLe_eq, iGt_eq, iGe_eq, sEq_eq, sNe_eq, lLen_eq, lN_eq, lGet_eq, lSet_eq, lSub_eq, lTake_eq, lApp_eq, lRep_eq, iNat_eq, sAdd_eq] at h
  simp at h
  omega

theorem layersOn_eq (f : Int) (x : List (Int × Int × Int × Int × Int)) : v_spec_LayersOn (f, x) = v_impl_LayersOn (f, x) := by
  rw [ve_spec_LayersOn, ve_impl_LayersOn]
  have e : v_spec_l1In (f, 0, 15) = bAnd (iGe f 0) (iLe f 15) := by rw [l1In_eq, bAnd_eq, iGe_eq, iLe_eq]
  simp only [isHeld_eq, e]
  cases h : v_impl_IsHeld x with
  | true =>
    rw [show bNot true = false from by rw [bNot_eq]; rfl, bSel_f]
    have : ∀ a : Bool, bAnd a true = a := fun a => by rw [bAnd_eq, Bool.and_true]
    simp only [this]
  | false =>
    rw [show bNot false = true from by rw [bNot_eq]; rfl, bSel_t]
    rw [loopV_stop (by rw [bAnd_eq, Bool.and_false])]
theorem ok_spec_LayersOn_t (f : Int) (x : List (Int × Int × Int × Int × Int)) (h : x.length ≤ 1048576) : ok_spec_LayersOn (f, x) := by
  rw [oe_spec_LayersOn]
  refine ⟨ok_l1In _, ?_⟩
  refine cnt_ok (fun st => st.2) x.length (by omega) (fun st _ _ hc => ?_) (fun st => rfl) (fun st h0 h1 => ?_) (by simp) (by simp)
  · simp only [bAnd_eq, iLt_eq, lLen_eq, Bool.and_eq_true, decide_eq_true_eq] at hc
    exact hc.1
  · refine ⟨⟨fun _ => ok_spec_IsHeld_t x h, fun _ => trivial⟩, fun hlt => ?_, fun _ => trivial⟩
    simp only [bAnd_eq, iLt_eq, lLen_eq, Bool.and_eq_true, decide_eq_true_eq, isHeld_eq] at hlt
    obtain ⟨hlt, hh⟩ := hlt
    have h3 : st.2.toNat < x.length := by omega
    simp only [iNat_eq, lGet_eq, h3, h0, hlt, true_and, implies_true, and_true, iEq_eq, decide_eq_true_eq]
    intro hk
    have := isHeld_all h hh _ (getD_mem x st.2.toNat (0, 0, 0, 0, 0) h3)
    have := isAction_mo this.2.2.1 hk
    omega
theorem ok_impl_LayersOn_t (f : Int) (x : List (Int × Int × Int × Int × Int)) (h : x.length ≤ 1048576) : ok_impl_LayersOn (f, x) := by
  rw [oe_impl_LayersOn]
  refine ⟨ok_impl_IsHeld_t x h, fun _ => trivial, fun hh => ?_⟩
  have hh : v_impl_IsHeld x = true := by simpa [bNot_eq] using hh
  refine cnt_ok (fun st => st.2) x.length (by omega) (fun st _ _ hc => ?_) (fun st => rfl) (fun st h0 h1 => ?_) (by simp) (by simp)
  · simp only [iLt_eq, lLen_eq, decide_eq_true_eq] at hc
    exact hc
  · refine ⟨fun hlt => ?_, fun _ => trivial⟩
    simp only [iLt_eq, lLen_eq, decide_eq_true_eq] at hlt
    have h3 : st.2.toNat < x.length := by omega
    simp only [iNat_eq, lGet_eq, h3, h0, hlt, true_and, implies_true, and_true, iEq_eq, decide_eq_true_eq]
    intro hk
    have := isHeld_all h hh _ (getD_mem x st.2.toNat (0, 0, 0, 0, 0) h3)
    have := isAction_mo this.2.2.1 hk
    omega
theorem plain_FnExactLayersOn (x : Int × List (Int × Int × Int × Int × Int)) (hw : TuX.wf h_laws_FnExactLayersOn x) : ok_laws_FnExactLayersOn x ∧ v_laws_FnExactLayersOn x = true := by
  obtain ⟨f, x⟩ := x
  rw [oe_laws_FnExactLayersOn, ve_laws_FnExactLayersOn]
  obtain ⟨k1, k2⟩ := sz_HeldS x ⟨hw.2.1, fun a _ => by simp [wl_Held, wl_Action]⟩ 1048576 (by omega) (by omega)
  rcases k2 with k2 | ⟨k2, _, k3⟩
  · have e : iLt (v_laws_szHeldS (x, 1048576)) 0 = true := by rw [iLt_eq]; simpa using k2
    simp only [e]; simp [bOr_eq, k1]
  · have e : iLt (v_laws_szHeldS (x, 1048576)) 0 = false := by rw [iLt_eq]; simpa using k2
    obtain ⟨t1, t2⟩ := to_HeldS x k3
    obtain ⟨q1, q2⟩ := eq_HeldS x x k3
    have q2 := q2.2 rfl
    simp only [e, t2, layersOn_eq, q2]
    simp [k1, t1, q1, ok_spec_LayersOn_t f x k3.1, ok_impl_LayersOn_t f x k3.1, bOr_eq, bAnd_eq, bNot_eq, iNe_eq]
end Go.Ag
