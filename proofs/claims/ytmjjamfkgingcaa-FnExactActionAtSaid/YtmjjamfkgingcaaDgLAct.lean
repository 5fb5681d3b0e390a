/-
  THE LAW FnExactActionAt, in plain Lean
-/
import Derived.Test.YtmjjamfkgingcaaDgLLat
namespace Go.Ag
set_option linter.unusedSimpArgs false
set_option linter.unusedVariables false

theorem layerAt_range (k : Int) (x : List (List (Int × Int × Int × Int))) (on key : Int) (hs : sm_Keymap (k, x)) (h : ¬ v_impl_LayerAt ((k, x), on, key) < 0) :
    MapOk k x ∧ v_impl_IsKeymap (k, x) = true ∧ 0 ≤ key ∧ key < k ∧ 0 ≤ v_impl_LayerAt ((k, x), on, key) ∧ v_impl_LayerAt ((k, x), on, key) < x.length := by
  rw [ve_impl_LayerAt, bSel_eq] at h ⊢
  by_cases hb : bOr (bNot (v_impl_IsKeymap (k, x))) (bOr (iLt key 0) (iGe key k)) = true
  · rw [if_pos hb] at h; exact absurd (by decide) h
  · rw [if_neg hb] at h ⊢
    simp only [iLt_eq, iGe_eq, bNot_eq, bOr_eq, Bool.not_eq_true, Bool.or_eq_false_iff, Bool.not_eq_false', decide_eq_false_iff_not] at hb
    obtain ⟨hk, h0, h1⟩ := hb
    have m := isKeymap_ok hs hk
    refine ⟨m, hk, by omega, by omega, by omega, ?_⟩
    rw [ve_impl_layerAt]
    have := m.l1; have := m.l2
    have hv : ∀ {c : Int → Bool} {f : Int → Int}, (∀ st, c st = true → 0 < st) → (∀ st, f st = iSub .i64 st 1) → bSel (iGt (loopV c f (iSub .i64 (lLen x) 1)) 0) (loopV c f (iSub .i64 (lLen x) 1)) 0 < x.length := by
      intro c f hc hf
      have := (loop_inv_v (c := c) (f := f) (fun st : Int => 0 ≤ st ∧ st < x.length) (fun st => st.toNat) (fun st hI hcc => by
        have := hc st hcc
        rw [hf, iSub_i64 (by unfold In64; omega)]
        omega) (x0 := iSub .i64 (lLen x) 1) (by rw [lLen_eq, iSub_i64 (by unfold In64; omega)]; omega)).1
      rw [bSel_eq]; split <;> omega
    exact hv (fun st hc => by rw [bAnd_eq, iGt_eq, Bool.and_eq_true, decide_eq_true_eq] at hc; exact hc.1) (fun st => rfl)
theorem actionAt_eq (k : Int) (x : List (List (Int × Int × Int × Int))) (on key : Int) (hs : sm_Keymap (k, x)) : v_spec_ActionAt ((k, x), on, key) = v_impl_ActionAt ((k, x), on, key) := by
  rw [ve_spec_ActionAt, ve_impl_ActionAt]
  simp only [layerAt_eq k x on key hs]
theorem ok_actionAt (k : Int) (x : List (List (Int × Int × Int × Int))) (on key : Int) (hs : sm_Keymap (k, x)) : ok_spec_ActionAt ((k, x), on, key) ∧ ok_impl_ActionAt ((k, x), on, key) := by
  obtain ⟨o1, o2⟩ := ok_layerAt k x on key hs
  rw [oe_spec_ActionAt, oe_impl_ActionAt]
  simp only [layerAt_eq k x on key hs]
  have fin : iLt (v_impl_LayerAt ((k, x), on, key)) 0 = false → (((0 : Int) ≤ v_impl_LayerAt ((k, x), on, key) ∧ v_impl_LayerAt ((k, x), on, key) < (x.length : Int)) ∧ iNat (v_impl_LayerAt ((k, x), on, key)) < x.length ∧ ((0 : Int) ≤ key ∧ key < ((lGet x (iNat (v_impl_LayerAt ((k, x), on, key))) []).length : Int)) ∧ iNat key < (lGet x (iNat (v_impl_LayerAt ((k, x), on, key))) []).length) := by
    intro h
    rw [iLt_eq, decide_eq_false_iff_not] at h
    obtain ⟨m, _, h0, h1, h2, h3⟩ := layerAt_range k x on key hs h
    have := m.row (v_impl_LayerAt ((k, x), on, key)).toNat (by omega)
    rw [lGet_eq, iNat_eq, iNat_eq]
    omega
  exact ⟨⟨o1, fun _ => trivial, fin⟩, o2, fun _ => trivial, fin⟩
theorem plain_FnExactActionAt (x : (Int × List (List (Int × Int × Int × Int))) × Int × Int) (hw : TuX.wf h_laws_FnExactActionAt x) : ok_laws_FnExactActionAt x ∧ v_laws_FnExactActionAt x = true := by
  obtain ⟨⟨k, x⟩, on, key⟩ := x
  rw [oe_laws_FnExactActionAt, ve_laws_FnExactActionAt]
  obtain ⟨k1, k2⟩ := sz_Keymap (k, x) (wl_Keymap_of hw.1.2) 1048576 (by omega) (by omega)
  rcases k2 with k2 | ⟨k2, _, k3⟩
  · have e : iLt (v_laws_szKeymap ((k, x), 1048576)) 0 = true := by rw [iLt_eq]; simpa using k2
    simp only [e]; simp [bOr_eq, k1]
  · have e : iLt (v_laws_szKeymap ((k, x), 1048576)) 0 = false := by rw [iLt_eq]; simpa using k2
    obtain ⟨t1, t2⟩ := to_Keymap (k, x) k3
    obtain ⟨q1, q2⟩ := eq_Keymap (k, x) (k, x) k3
    have q2 := q2.2 rfl
    have q3 : ∀ a : Int × Int × Int × Int, v_laws_eqAction (a, a) = true := fun a => by rw [eqAction_iff]; simp
    simp only [e, t2, actionAt_eq k x on key k3, q2, q3]
    simp [k1, t1, q1, ok_eqAction, (ok_actionAt k x on key k3).1, (ok_actionAt k x on key k3).2, bOr_eq, bAnd_eq, bNot_eq]
end Go.Ag
