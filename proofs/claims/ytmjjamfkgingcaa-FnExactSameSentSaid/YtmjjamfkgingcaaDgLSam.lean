/-
  THE LAW FnExactSameSent, in plain Lean
-/
import Derived.Test.YtmjjamfkgingcaaDgHP5
namespace Go.Ag
set_option linter.unusedSimpArgs false
set_option linter.unusedVariables false

theorem sameReport_eq (x : (Int × List Int) × (Int × List Int)) : v_spec_SameReport x = v_impl_SameReport x := by
  rw [ve_spec_SameReport, ve_impl_SameReport, ve_impl_sameInts]
  generalize bNot (iLt (loopV _ _ _) _) = L
  simp only [bAnd_eq, bNot_eq, bOr_eq, iNe_eq, iEq_eq]
  by_cases h : x.1.1 = x.2.1 <;> simp [h]
theorem ok_sameReport (a b : Int × List Int) (h : a.2.length ≤ 1048576) : ok_spec_SameReport (a, b) ∧ ok_impl_SameReport (a, b) := by
  obtain ⟨m, a⟩ := a
  obtain ⟨n, b⟩ := b
  rw [oe_spec_SameReport, oe_impl_SameReport, oe_impl_sameInts]
  have h : a.length ≤ 1048576 := h
  have lp : ∀ {c : Int → Bool} {f : Int → Int} {p : Int → Prop}, (∀ st, c st = true → st < a.length) → (∀ st, f st = iAdd .i64 st 1) → (∀ st : Int, 0 ≤ st → st ≤ a.length → p st) → LoopOk c f p 0 := fun hc hf hp =>
    cnt_ok (fun st => st) a.length (by omega) (fun st _ _ h => hc st h) hf hp (by simp) (by simp)
  have cc : ∀ {st : Int} {t : Bool}, bAnd (iLt st (lLen a)) t = true → st < a.length := fun {st t} h => by
    rw [bAnd_eq, iLt_eq, lLen_eq, Bool.and_eq_true, decide_eq_true_eq] at h; exact h.1
  have pp : a.length = b.length → ∀ st : Int, 0 ≤ st → iLt st (lLen a) = true → (((0 : Int) ≤ st ∧ st < (a.length : Int)) ∧ iNat st < a.length ∧ ((0 : Int) ≤ st ∧ st < (b.length : Int)) ∧ iNat st < b.length) := fun hl st h0 h1 => by
    rw [iLt_eq, lLen_eq, decide_eq_true_eq] at h1
    rw [iNat_eq]; omega
  refine ⟨⟨fun _ => trivial, fun hb => ?_⟩, fun _ => ⟨fun _ => trivial, fun hb => ?_⟩, fun _ => trivial⟩
  · simp only [bOr_eq, iNe_eq, lLen_eq, Bool.or_eq_false_iff, Bool.not_eq_false', decide_eq_true_eq] at hb
    exact lp (fun st hc => cc hc) (fun _ => rfl) (fun st h0 h1 => ⟨pp (by omega) st h0, fun _ => trivial⟩)
  · simp only [iNe_eq, lLen_eq, Bool.not_eq_false', decide_eq_true_eq] at hb
    exact lp (fun st hc => cc hc) (fun _ => rfl) (fun st h0 h1 => ⟨pp (by omega) st h0, fun _ => trivial⟩)
theorem sameSent_eq (x : List (Int × Int × List Int) × List (Int × Int × List Int)) : v_spec_SameSent x = v_impl_SameSent x := by
  rw [ve_spec_SameSent, ve_impl_SameSent]
  simp only [sameReport_eq]
theorem ok_sameSent (a b : List (Int × Int × List Int)) (h : sm_SentS a) : ok_spec_SameSent (a, b) ∧ ok_impl_SameSent (a, b) := by
  rw [oe_spec_SameSent, oe_impl_SameSent]
  have cc : ∀ {st : Int} {t : Bool}, bAnd (iLt st (lLen a)) t = true → st < a.length := fun {st t} h => by
    rw [bAnd_eq, iLt_eq, lLen_eq, Bool.and_eq_true, decide_eq_true_eq] at h; exact h.1
  have rep : ∀ (st : Int), 0 ≤ st → st < a.length → ∀ r, ok_spec_SameReport (((lGet a (iNat st) (0, 0, [])).2.1, (lGet a (iNat st) (0, 0, [])).2.2), r) ∧ ok_impl_SameReport (((lGet a (iNat st) (0, 0, [])).2.1, (lGet a (iNat st) (0, 0, [])).2.2), r) := fun st h0 h1 r => by
    refine ok_sameReport _ r ?_
    rw [lGet_eq, iNat_eq]
    have := h.2 _ (getD_mem a st.toNat (0, 0, []) (by omega))
    exact this.1.1
  have hl := h.1
  refine ⟨⟨fun _ => trivial, fun hb => ?_⟩, fun _ => trivial, fun hb => ?_⟩
  all_goals
    simp only [iNe_eq, lLen_eq, Bool.not_eq_false', decide_eq_true_eq] at hb
    refine cnt_ok (fun st => st) a.length (by omega) (fun st _ _ hc => cc hc) (fun _ => rfl) (fun st h0 h1 => ⟨fun hlt => ?_, fun _ => trivial⟩) (by simp) (by simp)
    rw [iLt_eq, lLen_eq, decide_eq_true_eq] at hlt
    have hlt : st < (a.length : Int) := hlt
    have k1 : iNat st < a.length ∧ st < (b.length : Int) ∧ iNat st < b.length := by rw [iNat_eq]; omega
    first
      | exact ⟨⟨h0, hlt⟩, k1.1, ⟨h0, k1.2.1⟩, k1.2.2, fun _ => trivial, fun _ => ⟨⟨h0, hlt⟩, k1.1, ⟨h0, k1.2.1⟩, k1.2.2, (rep st h0 hlt _).1⟩⟩
      | exact ⟨⟨h0, hlt⟩, k1.1, ⟨h0, k1.2.1⟩, k1.2.2, fun _ => trivial, fun _ => ⟨⟨h0, hlt⟩, k1.1, ⟨h0, k1.2.1⟩, k1.2.2, (rep st h0 hlt _).2⟩⟩
theorem wl_SentS_of {x : List (Int × Int × List Int)} (h : CT.wf (.sl (.cons (.int .i64) (.cons (.int .i64) (.one (.sl (.one (.int .i64))))))) x) : wl_SentS x := by
  exact ⟨h.1, fun a ha => ⟨⟨(h.2 a ha).2.2.1, trivial⟩, trivial⟩⟩
theorem plain_FnExactSameSent (x : List (Int × Int × List Int) × List (Int × Int × List Int)) (hw : TuX.wf h_laws_FnExactSameSent x) : ok_laws_FnExactSameSent x ∧ v_laws_FnExactSameSent x = true := by
  obtain ⟨a, b⟩ := x
  rw [oe_laws_FnExactSameSent, ve_laws_FnExactSameSent]
  obtain ⟨k1, k2⟩ := sz_SentS a (wl_SentS_of hw.1) 1048576 (by omega) (by omega)
  rcases k2 with k2 | ⟨k2, k4, k3⟩
  · have e : iLt (v_laws_szSentS (a, 1048576)) 0 = true := by rw [iLt_eq]; simpa using k2
    simp only [e]; simp [bOr_eq, k1]
  · have e : iLt (v_laws_szSentS (a, 1048576)) 0 = false := by rw [iLt_eq]; simpa using k2
    obtain ⟨l1, l2⟩ := sz_SentS b (wl_SentS_of hw.2) (v_laws_szSentS (a, 1048576)) k2 k4
    rcases l2 with l2 | ⟨l2, _, l3⟩
    · have e2 : iLt (v_laws_szSentS (b, v_laws_szSentS (a, 1048576))) 0 = true := by rw [iLt_eq]; simpa using l2
      simp only [e, e2]; simp [bOr_eq, k1, l1]
    · have e2 : iLt (v_laws_szSentS (b, v_laws_szSentS (a, 1048576))) 0 = false := by rw [iLt_eq]; simpa using l2
      obtain ⟨t1, t2⟩ := to_SentS a k3
      obtain ⟨q1, q2⟩ := eq_SentS a a k3
      obtain ⟨t3, t4⟩ := to_SentS b l3
      obtain ⟨q3, q4⟩ := eq_SentS b b l3
      have q2 := q2.2 rfl
      have q4 := q4.2 rfl
      simp only [e, e2, t2, t4, sameSent_eq, q2, q4]
      simp [k1, l1, t1, t3, q1, q3, (ok_sameSent a b k3).1, (ok_sameSent a b k3).2, bOr_eq, bAnd_eq, bNot_eq, bIff_eq]
end Go.Ag
