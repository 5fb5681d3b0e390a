/-
  THE LAWS FnExactLayerAt, FnExactActionAt, in plain Lean
-/
import Derived.Test.YtmjjamfkgingcaaDgLKey
namespace Go.Ag
set_option linter.unusedSimpArgs false
set_option linter.unusedVariables false

/-- What a valid keymap is. -/
structure MapOk (k : Int) (x : List (List (Int × Int × Int × Int))) : Prop where
  k1 : 1 ≤ k
  k2 : k ≤ 32
  l1 : 1 ≤ x.length
  l2 : x.length ≤ 4
  row : ∀ i : Nat, i < x.length → ((x.getD i []).length : Int) = k
  act : ∀ i j : Nat, i < x.length → j < (x.getD i []).length → v_impl_IsAction ((x.getD i []).getD j (0, 0, 0, 0)) = true ∧ (i = 0 → ((x.getD i []).getD j (0, 0, 0, 0)).1 ≠ 1) ∧ (((x.getD i []).getD j (0, 0, 0, 0)).1 ≠ 9 → ((x.getD i []).getD j (0, 0, 0, 0)).2.2.2 < x.length)
theorem isKeymap_ok {k : Int} {x : List (List (Int × Int × Int × Int))} (hs : sm_Keymap (k, x)) (h : v_impl_IsKeymap (k, x) = true) : MapOk k x := by
  rw [ve_impl_IsKeymap, bAnd_eq, Bool.and_eq_true] at h
  obtain ⟨h1, h2⟩ := h
  simp only [bNot_eq, bOr_eq, iLt_eq, iGt_eq, lLen_eq, Bool.and_eq_true, Bool.or_eq_true, Bool.not_eq_true', Bool.not_eq_false', Bool.and_eq_false_iff, Bool.or_eq_false_iff, decide_eq_true_eq, decide_eq_false_iff_not, Bool.not_eq_true, Bool.not_eq_false, beq_iff_eq, beq_eq_false_iff_ne] at h1
  rw [bNot_eq, Bool.not_eq_true', iLt_eq _ (lLen _), lLen_eq, decide_eq_false_iff_not] at h2
  have hs : sm_ActionSS x := hs.1
  have all := scan_all h2 (by show (x.length : Int) ≤ _; omega) (fun i hi hc => by
    rw [bAnd_eq, iLt_eq (i : Int), lLen_eq, Bool.and_eq_true, decide_eq_true_eq] at hc
    have := hc.1; show i < x.length; simp only at this; omega) (fun i hi => rfl)
  have row : ∀ i : Nat, i < x.length → ((x.getD i []).length : Int) = k ∧ ∀ j : Nat, j < (x.getD i []).length → v_impl_IsAction ((x.getD i []).getD j (0, 0, 0, 0)) = true ∧ (i = 0 → ((x.getD i []).getD j (0, 0, 0, 0)).1 ≠ 1) ∧ (((x.getD i []).getD j (0, 0, 0, 0)).1 ≠ 9 → ((x.getD i []).getD j (0, 0, 0, 0)).2.2.2 < x.length) := by
    intro i hi
    have hc := all i hi
    rw [bAnd_eq, bAnd_eq, Bool.and_eq_true, Bool.and_eq_true] at hc
    obtain ⟨_, c1, c2⟩ := hc
    simp only [bNot_eq, iNe_eq, lLen_eq, lGet_eq, iNat_eq, Int.toNat_natCast, Bool.not_not, decide_eq_true_eq] at c1
    rw [bNot_eq, Bool.not_eq_true', iLt_eq _ (lLen _), lLen_eq, decide_eq_false_iff_not] at c2
    have hli := (hs.2 _ (getD_mem x i [] hi)).1
    have hin : (lGet x (iNat (i : Int)) []) = x.getD i [] := by rw [lGet_eq, iNat_eq, Int.toNat_natCast]
    have all2 := scan_all c2 (by show ((lGet x (iNat (i : Int)) []).length : Int) ≤ _; rw [hin]; omega) (fun j hj hc => by
      simp only [bAnd_eq, iLt_eq, lLen_eq, Bool.and_eq_true, decide_eq_true_eq] at hc
      have := hc.1; show j < (lGet x (iNat (i : Int)) []).length; omega) (fun j hj => rfl)
    refine ⟨c1, fun j hj => ?_⟩
    have hc := all2 j (by show j < (lGet x (iNat (i : Int)) []).length; rw [hin]; exact hj)
    simp only [hin] at hc
    simp only [bAnd_eq, bNot_eq, bOr_eq, bSel_eq, iEq_eq, iNe_eq, iGe_eq, lLen_eq, lGet_eq, iNat_eq, Int.toNat_natCast, Bool.and_eq_true, Bool.not_eq_true', Bool.or_eq_false_iff, Bool.not_eq_false'] at hc
    obtain ⟨_, d1, d2⟩ := hc
    refine ⟨d1, fun hz => ?_, fun h9 => ?_⟩
    · subst hz
      simp only [Int.ofNat_zero, Int.natCast_zero, decide_true, if_true, Bool.or_eq_false_iff, decide_eq_false_iff_not] at d2
      exact d2.1
    · split at d2
      · simp only [Bool.or_eq_false_iff, Bool.and_eq_false_iff, decide_eq_false_iff_not, Bool.not_eq_false', decide_eq_true_eq] at d2
        rcases d2.2 with d2 | d2
        · exact absurd d2 h9
        · omega
      · simp only [Bool.and_eq_false_iff, decide_eq_false_iff_not, Bool.not_eq_false', decide_eq_true_eq] at d2
        rcases d2 with d2 | d2
        · exact absurd d2 h9
        · omega
  exact ⟨by omega, by omega, by omega, by omega, fun i hi => (row i hi).1, fun i j hi hj => (row i hi).2 j hj⟩

theorem layerAt_eq (k : Int) (x : List (List (Int × Int × Int × Int))) (on key : Int) (hs : sm_Keymap (k, x)) : v_spec_LayerAt ((k, x), on, key) = v_impl_LayerAt ((k, x), on, key) := by
  rw [ve_spec_LayerAt, ve_impl_LayerAt, ve_impl_layerAt]
  simp only [isKeymap_eq, ve_impl_bit, l1In_eq]
  cases h : v_impl_IsKeymap (k, x) with
  | false => simp only [bNot_eq, bOr_eq]; simp [bSel_eq]
  | true =>
    have m := isKeymap_ok hs h
    rw [iSub_i64 (by unfold In64; have := m.k1; have := m.k2; omega)]
    have : bOr (bNot true) (bNot (decide (0 ≤ key) && decide (key ≤ k - 1))) = bOr (bNot true) (bOr (iLt key 0) (iGe key k)) := by
      rw [Bool.eq_iff_iff]
      simp only [bNot_eq, bOr_eq, iLt_eq, iGe_eq, Bool.and_eq_true, Bool.or_eq_true, Bool.not_eq_true', Bool.not_eq_false', Bool.and_eq_false_iff, Bool.or_eq_false_iff, decide_eq_true_eq, decide_eq_false_iff_not, Bool.not_eq_true, Bool.not_eq_false, beq_iff_eq, beq_eq_false_iff_ne]
      simp; omega
    rw [this]
theorem ok_layerAt (k : Int) (x : List (List (Int × Int × Int × Int))) (on key : Int) (hs : sm_Keymap (k, x)) : ok_spec_LayerAt ((k, x), on, key) ∧ ok_impl_LayerAt ((k, x), on, key) := by
  obtain ⟨o1, o2⟩ := ok_IsKeymap_t (k, x) hs
  have loop : ∀ {c : Int → Bool} {f : Int → Int} {p : Int → Prop}, v_impl_IsKeymap (k, x) = true → (∀ st, c st = true → 0 < st) → (∀ st, f st = iSub .i64 st 1) → (∀ st : Int, 0 ≤ st → st < x.length → p st) → LoopOk c f p (iSub .i64 (lLen x) 1) := by
    intro c f p h hc hf hp
    have m := isKeymap_ok hs h
    have := m.l1; have := m.l2
    rw [lLen_eq, iSub_i64 (by unfold In64; omega)]
    refine (loop_inv (fun st : Int => 0 ≤ st ∧ st < x.length) (fun st => st.toNat) (fun st hI => ⟨hp st hI.1 hI.2, fun hcc => ?_⟩) (by omega)).1
    have := hc st hcc
    rw [hf, iSub_i64 (by unfold In64; omega)]
    omega
  have cell : v_impl_IsKeymap (k, x) = true → 0 ≤ key → key < k → ∀ st : Int, 0 ≤ st → st < x.length → iNat st < x.length ∧ key < ((lGet x (iNat st) []).length : Int) ∧ iNat key < (lGet x (iNat st) []).length := by
    intro h h0 h1 st s0 s1
    have m := isKeymap_ok hs h
    have := m.row st.toNat (by omega)
    rw [lGet_eq, iNat_eq, iNat_eq]
    omega
  rw [oe_spec_LayerAt, oe_impl_LayerAt]
  simp only [isKeymap_eq]
  refine ⟨⟨⟨o1, fun _ => trivial, fun _ => ok_l1In _⟩, fun _ => trivial, fun hb => ?_⟩, o2, fun _ => trivial, fun hb => ?_⟩
  · simp only [l1In_eq, bNot_eq, bOr_eq, Bool.or_eq_false_iff, Bool.not_eq_false', Bool.and_eq_true, decide_eq_true_eq] at hb
    obtain ⟨h, h0, h1⟩ := hb
    have m := isKeymap_ok hs h
    rw [iSub_i64 (by unfold In64; have := m.k1; have := m.k2; omega)] at h1
    refine loop h (fun st hc => ?_) (fun st => rfl) (fun st s0 s1 => ?_)
    · rw [bAnd_eq, iGt_eq, Bool.and_eq_true, decide_eq_true_eq] at hc; exact hc.1
    · obtain ⟨e1, e2, e3⟩ := cell h h0 (by omega) st s0 s1
      exact ⟨fun _ => ⟨s0, fun _ => ⟨⟨s0, s1⟩, e1, ⟨h0, e2⟩, e3⟩, fun _ => trivial⟩, fun _ => trivial⟩
  · simp only [iLt_eq, iGe_eq, bNot_eq, bOr_eq, Bool.or_eq_false_iff, Bool.not_eq_false', decide_eq_false_iff_not] at hb
    obtain ⟨h, h0, h1⟩ := hb
    have hk0 : 0 ≤ key := Int.not_lt.mp h0
    rw [oe_impl_layerAt]
    refine loop h (fun st hc => ?_) (fun st => rfl) (fun st s0 s1 => ?_)
    · rw [bAnd_eq, iGt_eq, Bool.and_eq_true, decide_eq_true_eq] at hc; exact hc.1
    · obtain ⟨e1, e2, e3⟩ := cell h (by omega) (by omega) st s0 s1
      exact ⟨fun _ => ⟨by rw [oe_impl_bit]; exact s0, fun _ => ⟨⟨s0, s1⟩, e1, ⟨hk0, e2⟩, e3⟩, fun _ => trivial⟩, fun _ => trivial⟩
theorem plain_FnExactLayerAt (x : (Int × List (List (Int × Int × Int × Int))) × Int × Int) (hw : TuX.wf h_laws_FnExactLayerAt x) : ok_laws_FnExactLayerAt x ∧ v_laws_FnExactLayerAt x = true := by
  obtain ⟨⟨k, x⟩, on, key⟩ := x
  rw [oe_laws_FnExactLayerAt, ve_laws_FnExactLayerAt]
  obtain ⟨k1, k2⟩ := sz_Keymap (k, x) (wl_Keymap_of hw.1.2) 1048576 (by omega) (by omega)
  rcases k2 with k2 | ⟨k2, _, k3⟩
  · have e : iLt (v_laws_szKeymap ((k, x), 1048576)) 0 = true := by rw [iLt_eq]; simpa using k2
    simp only [e]; simp [bOr_eq, k1]
  · have e : iLt (v_laws_szKeymap ((k, x), 1048576)) 0 = false := by rw [iLt_eq]; simpa using k2
    obtain ⟨t1, t2⟩ := to_Keymap (k, x) k3
    obtain ⟨q1, q2⟩ := eq_Keymap (k, x) (k, x) k3
    have q2 := q2.2 rfl
    simp only [e, t2, layerAt_eq k x on key k3, q2]
    simp [k1, t1, q1, (ok_layerAt k x on key k3).1, (ok_layerAt k x on key k3).2, bOr_eq, bAnd_eq, bNot_eq, iNe_eq]
end Go.Ag
