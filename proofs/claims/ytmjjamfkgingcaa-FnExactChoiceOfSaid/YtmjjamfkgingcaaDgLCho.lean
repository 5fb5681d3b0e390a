/-
  THE LAW FnExactChoiceOf, in plain Lean
-/
import Derived.Test.YtmjjamfkgingcaaDgHP6
namespace Go.Ag
set_option linter.unusedSimpArgs false
set_option linter.unusedVariables false

theorem isTiming_eq (x : Int × Int × Int) : v_spec_IsTiming x = v_impl_IsTiming x := by
  rw [ve_spec_IsTiming, ve_impl_IsTiming]; simp only [ve_spec_l1In, bAnd_eq, Bool.and_assoc]
theorem isEvent_eq (x : Int × Int × Bool) : v_spec_IsEvent x = v_impl_IsEvent x := by
  rw [ve_spec_IsEvent, ve_impl_IsEvent]; simp only [ve_spec_l1In, bAnd_eq, Bool.and_assoc]
theorem ok_isTiming (x : Int × Int × Int) : ok_spec_IsTiming x ∧ ok_impl_IsTiming x := by
  rw [oe_spec_IsTiming, oe_impl_IsTiming]; simp [oe_spec_l1In]
theorem ok_isEvent (x : Int × Int × Bool) : ok_spec_IsEvent x ∧ ok_impl_IsEvent x := by
  rw [oe_spec_IsEvent, oe_impl_IsEvent]; simp [oe_spec_l1In]
theorem isEvent_key {x : Int × Int × Bool} (h : v_impl_IsEvent x = true) : 0 ≤ x.2.1 := by
  rw [ve_impl_IsEvent] at h
  simp only [bAnd_eq, iGe_eq, iLe_eq, Bool.and_eq_true, decide_eq_true_eq] at h
  exact h.2.2.1
theorem cho_rule (d p q : Bool) : bAnd (bNot (bAnd d p)) (bOr d q) = bSel d (bNot p) q := by
  simp only [bAnd_eq, bNot_eq, bOr_eq, bSel_eq]; cases d <;> cases p <;> cases q <;> rfl
theorem sel_same {α : Type} (c : Bool) (x : α) : bSel c x x = x := by rw [bSel_eq]; split <;> rfl
theorem in_range (t : Int) : bNot (v_spec_l1In (t, 0, 1000000)) = bOr (iLt t 0) (iGt t 1000000) := by
  rw [ve_spec_l1In]; simp only [bAnd_eq, bNot_eq, bOr_eq, iGe_eq, iLe_eq, iLt_eq, iGt_eq, Bool.not_and, ← decide_not, Int.not_le]
theorem choiceOf_eq (x : (Int × Int × Int) × Int × Int × (List (Int × Int × Bool)) × Int) : v_spec_ChoiceOf x = v_impl_ChoiceOf x := by
  rw [ve_spec_ChoiceOf, ve_impl_ChoiceOf]
  simp only [isEvent_eq, isTiming_eq, ve_impl_bit, cho_rule, sel_same, in_range]
theorem ok_choiceOf (x : (Int × Int × Int) × Int × Int × (List (Int × Int × Bool)) × Int) (h : x.2.2.2.1.length ≤ 1048576) : ok_spec_ChoiceOf x ∧ ok_impl_ChoiceOf x := by
  rw [oe_spec_ChoiceOf, oe_impl_ChoiceOf]
  have lp : ∀ {c : Int × Int → Bool} {f : Int × Int → Int × Int} {p : Int × Int → Prop}, (∀ st, c st = true → st.2 < x.2.2.2.1.length) → (∀ st, (f st).2 = iAdd .i64 st.2 1) → (∀ st : Int × Int, 0 ≤ st.2 → st.2 ≤ x.2.2.2.1.length → p st) → LoopOk c f p (0, 0) := fun hc hf hp =>
    cnt_ok (fun st => st.2) x.2.2.2.1.length (by omega) (fun st _ _ h => hc st h) hf hp (by simp) (by simp)
  have cc : ∀ {st : Int} {t : Bool}, bAnd (iLt st (lLen x.2.2.2.1)) t = true → st < x.2.2.2.1.length := fun {st t} h => by
    rw [bAnd_eq, iLt_eq, lLen_eq, Bool.and_eq_true, decide_eq_true_eq] at h; exact h.1
  have pp : ∀ st : Int, 0 ≤ st → iLt st (lLen x.2.2.2.1) = true → (((0 : Int) ≤ st ∧ st < (x.2.2.2.1.length : Int)) ∧ iNat st < x.2.2.2.1.length) := fun st h0 h1 => by
    rw [iLt_eq, lLen_eq, decide_eq_true_eq] at h1
    rw [iNat_eq]; omega
  constructor
  · refine ⟨⟨(ok_isTiming _).1, fun _ => trivial, fun _ => by rw [oe_spec_l1In]; trivial⟩, fun _ => trivial, fun _ => ?_⟩
    refine lp (fun st hc => cc hc) (fun _ => rfl) (fun st h0 h1 => ⟨fun hlt => ?_, fun _ => trivial⟩)
    obtain ⟨p1, p2⟩ := pp st.2 h0 hlt
    refine ⟨p1, p2, (ok_isEvent _).1, fun _ => trivial, fun he => ⟨fun _ => trivial, fun _ => ⟨fun _ => trivial, fun _ => ⟨fun _ => trivial, fun _ => ⟨fun _ => trivial, fun _ => ?_⟩⟩⟩⟩⟩
    rw [bNot_eq, Bool.not_eq_false', isEvent_eq] at he
    have hk := isEvent_key he
    exact ⟨fun _ => hk, fun _ => ⟨fun _ => hk, fun _ => trivial⟩⟩
  · refine ⟨(ok_isTiming _).2, fun _ => trivial, fun _ => ?_⟩
    refine lp (fun st hc => cc hc) (fun _ => rfl) (fun st h0 h1 => ⟨fun hlt => ?_, fun _ => trivial⟩)
    obtain ⟨p1, p2⟩ := pp st.2 h0 hlt
    refine ⟨p1, p2, (ok_isEvent _).2, fun _ => trivial, fun he => ⟨fun _ => trivial, fun _ => ⟨fun _ => trivial, fun _ => ⟨fun _ => trivial, fun _ => ?_⟩⟩⟩⟩
    rw [bNot_eq, Bool.not_eq_false'] at he
    have hk := isEvent_key he
    exact ⟨fun _ => ⟨fun _ => trivial, fun _ => hk⟩, fun _ => ⟨fun _ => by rw [oe_impl_bit]; exact hk, fun _ => trivial⟩⟩
theorem plain_FnExactChoiceOf (x : (Int × Int × Int) × Int × Int × (List (Int × Int × Bool)) × Int) (hw : TuX.wf h_laws_FnExactChoiceOf x) : ok_laws_FnExactChoiceOf x ∧ v_laws_FnExactChoiceOf x = true := by
  obtain ⟨t, key, time, rest, now⟩ := x
  rw [oe_laws_FnExactChoiceOf, ve_laws_FnExactChoiceOf]
  have hwl : wl_EventS rest := ⟨hw.2.2.2.1.1, fun a _ => by simp [wl_Event]⟩
  obtain ⟨k1, k2⟩ := sz_EventS rest hwl 1048576 (by omega) (by omega)
  rcases k2 with k2 | ⟨k2, _, k3⟩
  · have e : iLt (v_laws_szEventS (rest, 1048576)) 0 = true := by rw [iLt_eq]; simpa using k2
    simp only [e]; simp [bOr_eq, k1]
  · have e : iLt (v_laws_szEventS (rest, 1048576)) 0 = false := by rw [iLt_eq]; simpa using k2
    obtain ⟨t1, t2⟩ := to_EventS rest k3
    obtain ⟨u1, u2⟩ := to_Timing (t.1, t.2.1, t.2.2) (by simp [sm_Timing])
    obtain ⟨q1, q2⟩ := eq_EventS rest rest k3
    have q2 := q2.2 rfl
    have hl : rest.length ≤ 1048576 := k3.1
    simp only [e, t2, u2, choiceOf_eq, q2]
    have o := ok_choiceOf (t, key, time, rest, now) hl
    simp [k1, t1, u1, q1, o.1, o.2, bOr_eq, bAnd_eq, bNot_eq, iNe_eq]
end Go.Ag
