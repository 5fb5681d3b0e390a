/-
  THE LAW FnExactIsKeymap, in plain Lean
-/
import Derived.Test.YtmjjamfkgingcaaDgLLay
import Derived.Test.YtmjjamfkgingcaaDgHP3
namespace Go.Ag
set_option linter.unusedSimpArgs false
set_option linter.unusedVariables false

theorem loop_congr {X : Type} {c c' : X → Bool} {f f' : X → X} {a : X} (hc : ∀ x, c x = c' x) (hf : ∀ x, f x = f' x) : loopV c f a = loopV c' f' a := by rw [funext hc, funext hf]
theorem isKeymap_eq (x : Int × List (List (Int × Int × Int × Int))) : v_spec_IsKeymap x = v_impl_IsKeymap x := by
  rw [ve_spec_IsKeymap, ve_impl_IsKeymap, l1In_eq, l1In_eq]
  have inner : ∀ (i a n : Int) (A B : Bool), bNot (bOr A (bSel (iEq a 1) (bOr (iEq i 0) B) B)) = bNot (bOr A (bSel (iEq i 0) (bOr (iEq a 1) B) B)) := by
    intro i a n A B
    simp only [bNot_eq, bOr_eq, bSel_eq, iEq_eq]
    by_cases h1 : a = 1 <;> by_cases h2 : i = 0 <;> simp [h1, h2]
  simp only [isAction_eq, fun i a A B => inner i a 0 A B]
  generalize bNot (iLt (loopV _ _ _) (lLen x.2)) = L
  rw [Bool.eq_iff_iff]
  simp only [bAnd_eq, bNot_eq, bOr_eq, iLt_eq, iGt_eq, lLen_eq, Bool.and_eq_true, Bool.or_eq_true, Bool.not_eq_true', Bool.not_eq_false', Bool.and_eq_false_iff, Bool.or_eq_false_iff, decide_eq_true_eq, decide_eq_false_iff_not, Bool.not_eq_true, Bool.not_eq_false, beq_iff_eq, beq_eq_false_iff_ne]
  cases L <;> simp <;> omega
theorem ok_IsKeymap_t (x : Int × List (List (Int × Int × Int × Int))) (h : sm_Keymap x) : ok_spec_IsKeymap x ∧ ok_impl_IsKeymap x := by
  obtain ⟨k, x⟩ := x
  have h : sm_ActionSS x := h.1
  rw [oe_spec_IsKeymap, oe_impl_IsKeymap]
  have inl : ∀ i : Int, 0 ≤ i → i < x.length → (lGet x (iNat i) []).length ≤ 1048576 := fun i h0 hi => by
    rw [lGet_eq, iNat_eq]; exact (h.2 _ (getD_mem x i.toNat [] (by omega))).1
  refine ⟨⟨?_, fun _ => trivial, fun _ => ⟨ok_l1In _, fun _ => ok_l1In _, fun _ => trivial⟩⟩, fun _ => trivial, fun _ => ?_⟩
  all_goals
    refine cnt_ok (fun st => st) x.length (by have := h.1; omega) (fun st _ _ hc => ?_) (fun st => rfl) (fun st h0 h1 => ?_) (by simp) (by simp)
    · rw [bAnd_eq, iLt_eq st, lLen_eq, Bool.and_eq_true, decide_eq_true_eq] at hc
      exact hc.1
    · refine ⟨fun hlt => ?_, fun _ => trivial⟩
      rw [iLt_eq, lLen_eq, decide_eq_true_eq] at hlt
      have hlt : st < (x.length : Int) := hlt
      have h3 : iNat st < x.length := by rw [iNat_eq]; omega
      have hl := inl st h0 hlt
      refine ⟨⟨h0, hlt⟩, h3, fun _ => trivial, fun _ => ?_⟩
      refine cnt_ok (fun st => st) (lGet x (iNat st) []).length (by omega) (fun j _ _ hc => ?_) (fun st => rfl) (fun j j0 j1 => ?_) (by simp) (by simp)
      · rw [bAnd_eq, iLt_eq j, lLen_eq, Bool.and_eq_true, decide_eq_true_eq] at hc
        exact hc.1
      · have fin : iLt j (lLen (lGet x (iNat st) [])) = true → j < ((lGet x (iNat st) []).length : Int) ∧ iNat j < (lGet x (iNat st) []).length := fun hj => by
          rw [iLt_eq, lLen_eq, decide_eq_true_eq] at hj
          exact ⟨hj, by rw [iNat_eq]; omega⟩
        first
          | exact ⟨⟨h0, hlt⟩, h3, fun hj => ⟨⟨h0, hlt⟩, h3, ⟨j0, (fin hj).1⟩, (fin hj).2, ok_spec_IsAction_t _⟩, fun _ => trivial⟩
          | exact ⟨fun hj => ⟨⟨j0, (fin hj).1⟩, (fin hj).2, ok_impl_IsAction_t _⟩, fun _ => trivial⟩
theorem wl_Keymap_of {k : Int} {x : List (List (Int × Int × Int × Int))} (h : CT.wf (.sl (.one (.sl (.cons (.int .i64) (.cons (.int .i64) (.cons (.int .i64) (.one (.int .i64)))))))) x) : wl_Keymap (k, x) := by
  exact ⟨⟨h.1, fun l hl => ⟨(h.2 l hl).1, fun a _ => by simp [wl_Action]⟩⟩, trivial⟩
theorem plain_FnExactIsKeymap (x : Int × List (List (Int × Int × Int × Int))) (hw : TuX.wf h_laws_FnExactIsKeymap x) : ok_laws_FnExactIsKeymap x ∧ v_laws_FnExactIsKeymap x = true := by
  obtain ⟨k, x⟩ := x
  rw [oe_laws_FnExactIsKeymap, ve_laws_FnExactIsKeymap]
  obtain ⟨k1, k2⟩ := sz_Keymap (k, x) (wl_Keymap_of hw.2) 1048576 (by omega) (by omega)
  rcases k2 with k2 | ⟨k2, _, k3⟩
  · have e : iLt (v_laws_szKeymap ((k, x), 1048576)) 0 = true := by rw [iLt_eq]; simpa using k2
    simp only [e]; simp [bOr_eq, k1]
  · have e : iLt (v_laws_szKeymap ((k, x), 1048576)) 0 = false := by rw [iLt_eq]; simpa using k2
    obtain ⟨t1, t2⟩ := to_Keymap (k, x) k3
    obtain ⟨q1, q2⟩ := eq_Keymap (k, x) (k, x) k3
    have q2 := q2.2 rfl
    simp only [e, t2, isKeymap_eq, q2]
    simp [k1, t1, q1, (ok_IsKeymap_t (k, x) k3).1, (ok_IsKeymap_t (k, x) k3).2, bOr_eq, bAnd_eq, bNot_eq, bIff_eq]
end Go.Ag
