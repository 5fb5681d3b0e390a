/-
  WHAT THE HELPERS to*, eq*, sz* OF THE LAWS DO, type by type (written by program, gen.py).
-/
import Derived.Test.YtmjjamfkgingcaaDgP5E
import Derived.Test.YtmjjamfkgingcaaDgHP1
import Derived.Test.YtmjjamfkgingcaaDgNf
namespace Go.Ag
set_option linter.unusedSimpArgs false
set_option linter.unusedVariables false

def sm_IntS (x : List (Int)) : Prop := x.length ≤ 1048576
def wl_IntS (x : List (Int)) : Prop := x.length ≤ 9223372036854775807
theorem sz_IntS (x : List (Int)) (hw : wl_IntS x) (l : Int) (h0 : 0 ≤ l) (h1 : l ≤ 1048576) : ok_laws_szIntS (x, l) ∧ (v_laws_szIntS (x, l) < 0 ∨ (0 ≤ v_laws_szIntS (x, l) ∧ v_laws_szIntS (x, l) ≤ l ∧ sm_IntS x)) := by
  rw [oe_laws_szIntS, ve_laws_szIntS]
  have hl : x.length ≤ 9223372036854775807 := hw
  have hs : iSub .i64 l (lLen x) = l - x.length := by rw [lLen_eq]; exact iSub_i64 (by unfold In64; omega)
  refine ⟨trivial, ?_⟩
  simp only [hs, iLt_eq, bSel_eq, decide_eq_true_eq]
  split
  · left; omega
  · right; exact ⟨by omega, by omega, (by show x.length ≤ 1048576; omega)⟩

def sm_Report (x : Int × List (Int)) : Prop := sm_IntS x.2 ∧ True
def wl_Report (x : Int × List (Int)) : Prop := wl_IntS x.2 ∧ True
theorem sz_Report (x : Int × List (Int)) (hw : wl_Report x) (l : Int) (h0 : 0 ≤ l) (h1 : l ≤ 1048576) : ok_laws_szReport (x, l) ∧ (v_laws_szReport (x, l) < 0 ∨ (0 ≤ v_laws_szReport (x, l) ∧ v_laws_szReport (x, l) ≤ l ∧ sm_Report x)) := by
  rw [oe_laws_szReport, ve_laws_szReport]
  have hx := hw
  unfold wl_Report at hw
  obtain ⟨k0, g0⟩ := sz_IntS x.2 hw.1 l (by omega) (by omega)
  generalize hz0 : v_laws_szIntS (x.2, l) = z0 at g0 ⊢
  rcases g0 with g0 | ⟨g0, g0', g0''⟩
  · have hb : iLt z0 0 = true := by rw [iLt_eq]; simpa using g0
    refine ⟨?_, ?_⟩
    · simp [k0, hb]
    · simp only [hb, bSel_t]; left; omega
  have hb0 : iLt z0 0 = false := by rw [iLt_eq]; simpa using g0
  simp only [hb0, bSel_f]
  exact ⟨by simp [k0], .inr ⟨by omega, by omega, g0'', trivial⟩⟩

def sm_Sent (x : Int × Int × List (Int)) : Prop := sm_Report (x.2.1, x.2.2) ∧ True
def wl_Sent (x : Int × Int × List (Int)) : Prop := wl_Report (x.2.1, x.2.2) ∧ True
theorem sz_Sent (x : Int × Int × List (Int)) (hw : wl_Sent x) (l : Int) (h0 : 0 ≤ l) (h1 : l ≤ 1048576) : ok_laws_szSent (x, l) ∧ (v_laws_szSent (x, l) < 0 ∨ (0 ≤ v_laws_szSent (x, l) ∧ v_laws_szSent (x, l) ≤ l ∧ sm_Sent x)) := by
  rw [oe_laws_szSent, ve_laws_szSent]
  have hx := hw
  unfold wl_Sent at hw
  obtain ⟨k0, g0⟩ := sz_Report (x.2.1, x.2.2) hw.1 l (by omega) (by omega)
  generalize hz0 : v_laws_szReport ((x.2.1, x.2.2), l) = z0 at g0 ⊢
  rcases g0 with g0 | ⟨g0, g0', g0''⟩
  · have hb : iLt z0 0 = true := by rw [iLt_eq]; simpa using g0
    refine ⟨?_, ?_⟩
    · simp [k0, hb]
    · simp only [hb, bSel_t]; left; omega
  have hb0 : iLt z0 0 = false := by rw [iLt_eq]; simpa using g0
  simp only [hb0, bSel_f]
  exact ⟨by simp [k0], .inr ⟨by omega, by omega, g0'', trivial⟩⟩

def sm_SentS (x : List (Int × Int × List (Int))) : Prop := x.length ≤ 1048576 ∧ ∀ a ∈ x, sm_Sent a
def wl_SentS (x : List (Int × Int × List (Int))) : Prop := x.length ≤ 9223372036854775807 ∧ ∀ a ∈ x, wl_Sent a
theorem sz_SentS (x : List (Int × Int × List (Int))) (hw : wl_SentS x) (l : Int) (h0 : 0 ≤ l) (h1 : l ≤ 1048576) : ok_laws_szSentS (x, l) ∧ (v_laws_szSentS (x, l) < 0 ∨ (0 ≤ v_laws_szSentS (x, l) ∧ v_laws_szSentS (x, l) ≤ l ∧ sm_SentS x)) := by
  rw [oe_laws_szSentS, ve_laws_szSentS]
  obtain ⟨hl, hw2⟩ := hw
  have hs : iSub .i64 l (lLen x) = l - x.length := by rw [lLen_eq]; exact iSub_i64 (by unfold In64; omega)
  simp only [hs]
  by_cases hneg : l - (x.length : Int) < 0
  · have hb : iLt (l - (x.length : Int)) 0 = true := by rw [iLt_eq]; simpa using hneg
    rw [hb]
    exact ⟨⟨fun _ => trivial, fun h => (by cases h)⟩, by rw [bSel_t]; left; omega⟩
  · have hb : iLt (l - (x.length : Int)) 0 = false := by rw [iLt_eq]; simpa using hneg
    rw [hb]
    have hg : ∀ i : Nat, i < x.length → ∀ m : Int, 0 ≤ m → m ≤ 1048576 → ok_laws_szSent (x.getD i (0, 0, []), m) ∧ (v_laws_szSent (x.getD i (0, 0, []), m) < 0 ∨ (0 ≤ v_laws_szSent (x.getD i (0, 0, []), m) ∧ v_laws_szSent (x.getD i (0, 0, []), m) ≤ m ∧ sm_Sent (x.getD i (0, 0, [])))) := fun i hi m g0 g1 => sz_Sent _ (hw2 _ (getD_mem x i (0, 0, []) hi)) m g0 g1
    refine ⟨⟨fun h => (by cases h), fun _ => sz_ok x (0, 0, []) sm_Sent (fun a m => v_laws_szSent (a, m)) (l - (x.length : Int)) (by omega) (by omega) (by omega) (fun i hi m g0 g1 => (hg i hi m g0 g1).2) (fun m i hi => by simp only [bAnd_eq, iLt_eq, lLen_eq, iNat_eq, lGet_eq, bNot_eq, Int.toNat_natCast, Int.ofNat_lt]) (fun m i hi => by simp only [iNat_eq, lGet_eq, Int.toNat_natCast]) (fun m i g0 g1 hi => ?_)⟩, ?_⟩
    · simp only [iLt_eq, lLen_eq, iNat_eq, lGet_eq, decide_eq_true_eq, Int.toNat_natCast]
      exact ⟨fun hh => ⟨by omega, by omega, (hg i (by omega) m g0 g1).1⟩, fun _ => trivial⟩
    · rw [bSel_f]
      have hv := sz_v (c := fun st : Int × Int => bAnd (iLt st.2 (lLen x)) (bNot (iLt (v_laws_szSent (((lGet x (iNat st.2) (0, 0, [])).1, (lGet x (iNat st.2) (0, 0, [])).2.1, (lGet x (iNat st.2) (0, 0, [])).2.2), st.1)) 0))) (f := fun st => (v_laws_szSent (((lGet x (iNat st.2) (0, 0, [])).1, (lGet x (iNat st.2) (0, 0, [])).2.1, (lGet x (iNat st.2) (0, 0, [])).2.2), st.1), iAdd .i64 st.2 1)) x (0, 0, []) sm_Sent (fun a m => v_laws_szSent (a, m)) (l - (x.length : Int)) (by omega) (by omega) (by omega) (fun i hi m g0 g1 => (hg i hi m g0 g1).2) (fun m i hi => by simp only [bAnd_eq, iLt_eq, lLen_eq, iNat_eq, lGet_eq, bNot_eq, Int.toNat_natCast, Int.ofNat_lt]) (fun m i hi => by simp only [iNat_eq, lGet_eq, Int.toNat_natCast])
      rcases sz_fin (l := l) (by omega) hv with h | ⟨h2, h3, h4⟩
      · exact .inl h
      · exact .inr ⟨h2, h3, (by omega), h4⟩

theorem to_IntS (x : List (Int)) (h : sm_IntS x) : ok_laws_toIntS x ∧ v_laws_toIntS x = x := by
  rw [oe_laws_toIntS, ve_laws_toIntS]
  have h1 : x.length ≤ 1048576 := h
  refine ⟨⟨⟨by rw [lLen_eq]; omega, roomy_of (by rw [lLen_eq]; omega) (by rw [lLen_eq]; omega) (by omega)⟩, copyg_ok x 0 0 h1 (fun _ => rfl) (fun l i hi => by simp only [lSet_eq, lGet_eq, iNat_eq, Int.toNat_natCast]) (fun l i hl hi => ?_)⟩, copyg_v x 0 0 h1 (fun _ => rfl) (fun l i hi => by simp only [lSet_eq, lGet_eq, iNat_eq, Int.toNat_natCast])⟩
  simp only [iLt_eq, lLen_eq, iNat_eq, decide_eq_true_eq, Int.toNat_natCast]
  exact ⟨fun hh => (by omega), fun _ => trivial⟩

theorem to_Report (x : Int × List (Int)) (h : sm_Report x) : ok_laws_toReport x ∧ v_laws_toReport x = x := by
  rw [oe_laws_toReport, ve_laws_toReport]
  have k0 := to_IntS x.2 (by unfold sm_Report at h; exact h.1)
  refine ⟨k0.1, ?_⟩
  simp only [k0.2]

theorem to_Sent (x : Int × Int × List (Int)) (h : sm_Sent x) : ok_laws_toSent x ∧ v_laws_toSent x = x := by
  rw [oe_laws_toSent, ve_laws_toSent]
  have k0 := to_Report (x.2.1, x.2.2) (by unfold sm_Sent at h; exact h.1)
  refine ⟨k0.1, ?_⟩
  simp only [k0.2]

theorem to_SentS (x : List (Int × Int × List (Int))) (h : sm_SentS x) : ok_laws_toSentS x ∧ v_laws_toSentS x = x := by
  rw [oe_laws_toSentS, ve_laws_toSentS]
  obtain ⟨h1, h2⟩ := h
  have hY : ∀ i : Nat, i < x.length → ok_laws_toSent ((x.getD i (0, 0, [])).1, (x.getD i (0, 0, [])).2.1, (x.getD i (0, 0, [])).2.2) ∧ v_laws_toSent ((x.getD i (0, 0, [])).1, (x.getD i (0, 0, [])).2.1, (x.getD i (0, 0, [])).2.2) = x.getD i (0, 0, []) := fun i hi => to_Sent _ (h2 _ (getD_mem x i (0, 0, []) hi))
  refine ⟨⟨⟨by rw [lLen_eq]; omega, roomy_of (by rw [lLen_eq]; omega) (by rw [lLen_eq]; omega) (by omega)⟩, copyg_ok x (0, 0, []) (0, 0, []) h1 (fun _ => rfl) (fun l i hi => by simp only [lSet_eq, lGet_eq, iNat_eq, Int.toNat_natCast]; rw [(hY i hi).2]) (fun l i hl hi => ?_)⟩, copyg_v x (0, 0, []) (0, 0, []) h1 (fun _ => rfl) (fun l i hi => by simp only [lSet_eq, lGet_eq, iNat_eq, Int.toNat_natCast]; rw [(hY i hi).2])⟩
  simp only [iLt_eq, lLen_eq, iNat_eq, lGet_eq, decide_eq_true_eq, Int.toNat_natCast]
  exact ⟨fun hh => ⟨by omega, by omega, (hY i (by omega)).1, by omega, by omega⟩, fun _ => trivial⟩

theorem eq_IntS (a b : List (Int)) (h : sm_IntS a) : ok_laws_eqIntS (a, b) ∧ (v_laws_eqIntS (a, b) = true ↔ a = b) := by
  rw [oe_laws_eqIntS, ve_laws_eqIntS]
  have h1 : a.length ≤ 1048576 := h
  by_cases hl : a.length = b.length
  · refine ⟨⟨fun _ => trivial, fun _ => eq_ok a b 0 (fun i => iNe (lGet a i 0) (lGet b i 0)) hl (fun i hi => by simp [iNe_eq, lGet_eq]) (by omega) (fun i hi => by simp only [bAnd_eq, iLt_eq, lLen_eq, iNat_eq, bNot_eq, Int.toNat_natCast, Int.ofNat_lt]) (fun i hi => rfl) (fun i hi => ?_)⟩, ?_⟩
    · simp only [iLt_eq, lLen_eq, iNat_eq, decide_eq_true_eq, Int.toNat_natCast]
      exact ⟨fun hh => (by omega), fun _ => trivial⟩
    · have hv := eq_v (c := fun i : Int => bAnd (iLt i (lLen a)) (bNot ((fun i => iNe (lGet a i 0) (lGet b i 0)) i.toNat))) (f := fun i => iAdd .i64 i 1) a b 0 (fun i => iNe (lGet a i 0) (lGet b i 0)) hl (fun i hi => by simp [iNe_eq, lGet_eq]) (by omega) (fun i hi => by simp only [bAnd_eq, iLt_eq, lLen_eq, bNot_eq, Int.toNat_natCast, Int.ofNat_lt]) (fun i hi => rfl)
      have e1 : bNot (iNe (lLen a) (lLen b)) = true := by rw [bNot_eq, iNe_eq, lLen_eq, lLen_eq, hl]; simp
      rw [e1, bAnd_eq true, Bool.true_and, bNot_eq (iLt _ (lLen a)), iLt_eq _ (lLen a)]
      simp only [← iNat_eq, lLen_eq] at hv ⊢
      simp only [Bool.not_eq_true', decide_eq_false_iff_not]
      rw [hv]; simp
  · have e1 : bNot (iNe (lLen a) (lLen b)) = false := by rw [bNot_eq, iNe_eq, lLen_eq, lLen_eq]; simp; omega
    refine ⟨⟨fun _ => trivial, fun h => ?_⟩, ?_⟩
    · rw [bNot_eq] at e1; rw [h] at e1; cases e1
    · rw [e1, bAnd_eq, Bool.false_and]; constructor
      · intro h; cases h
      · intro e; subst e; exact absurd rfl hl

theorem eq_Report (a b : Int × List (Int)) (h : sm_Report a) : ok_laws_eqReport (a, b) ∧ (v_laws_eqReport (a, b) = true ↔ a = b) := by
  obtain ⟨a0, a1⟩ := a
  obtain ⟨b0, b1⟩ := b
  have k0 := eq_IntS a1 b1 (by unfold sm_Report at h; exact h.1)
  rw [oe_laws_eqReport, ve_laws_eqReport]
  refine ⟨by simp [k0.1, k0.2], ?_⟩
  simp only [k0.1, k0.2, bNot_eq, bAnd_eq, bIff_eq, iNe_eq, Bool.and_eq_true, Bool.not_not, decide_eq_true_eq, Prod.mk.injEq, beq_iff_eq]
  try (constructor <;> intro h <;> simp_all)

theorem eq_Sent (a b : Int × Int × List (Int)) (h : sm_Sent a) : ok_laws_eqSent (a, b) ∧ (v_laws_eqSent (a, b) = true ↔ a = b) := by
  obtain ⟨a0, a1, a2⟩ := a
  obtain ⟨b0, b1, b2⟩ := b
  have k0 := eq_Report (a1, a2) (b1, b2) (by unfold sm_Sent at h; exact h.1)
  rw [oe_laws_eqSent, ve_laws_eqSent]
  refine ⟨by simp [k0.1, k0.2], ?_⟩
  simp only [k0.1, k0.2, bNot_eq, bAnd_eq, bIff_eq, iNe_eq, Bool.and_eq_true, Bool.not_not, decide_eq_true_eq, Prod.mk.injEq, beq_iff_eq]
  try (constructor <;> intro h <;> simp_all)

theorem eq_SentS (a b : List (Int × Int × List (Int))) (h : sm_SentS a) : ok_laws_eqSentS (a, b) ∧ (v_laws_eqSentS (a, b) = true ↔ a = b) := by
  rw [oe_laws_eqSentS, ve_laws_eqSentS]
  obtain ⟨h1, h2⟩ := h
  have hY : ∀ i : Nat, i < a.length → ok_laws_eqSent (((lGet a i (0, 0, [])).1, (lGet a i (0, 0, [])).2.1, (lGet a i (0, 0, [])).2.2), ((lGet b i (0, 0, [])).1, (lGet b i (0, 0, [])).2.1, (lGet b i (0, 0, [])).2.2)) ∧ (v_laws_eqSent (((lGet a i (0, 0, [])).1, (lGet a i (0, 0, [])).2.1, (lGet a i (0, 0, [])).2.2), ((lGet b i (0, 0, [])).1, (lGet b i (0, 0, [])).2.1, (lGet b i (0, 0, [])).2.2)) = true ↔ a.getD i (0, 0, []) = b.getD i (0, 0, [])) := fun i hi => by
    have := eq_Sent (a.getD i (0, 0, [])) (b.getD i (0, 0, [])) (h2 _ (getD_mem a i (0, 0, []) hi))
    rw [lGet_eq, lGet_eq]; exact this
  by_cases hl : a.length = b.length
  · refine ⟨⟨fun _ => trivial, fun _ => eq_ok a b (0, 0, []) (fun i => bNot (v_laws_eqSent (((lGet a i (0, 0, [])).1, (lGet a i (0, 0, [])).2.1, (lGet a i (0, 0, [])).2.2), ((lGet b i (0, 0, [])).1, (lGet b i (0, 0, [])).2.1, (lGet b i (0, 0, [])).2.2)))) hl (fun i hi => by simp only [bNot_eq, Bool.not_eq_false', (hY i hi).2]) (by omega) (fun i hi => by simp only [bAnd_eq, iLt_eq, lLen_eq, iNat_eq, bNot_eq, Int.toNat_natCast, Int.ofNat_lt]) (fun i hi => rfl) (fun i hi => ?_)⟩, ?_⟩
    · simp only [iLt_eq, lLen_eq, iNat_eq, decide_eq_true_eq, Int.toNat_natCast]
      exact ⟨fun hh => ⟨by omega, by omega, by omega, by omega, (hY i (by omega)).1⟩, fun _ => trivial⟩
    · have hv := eq_v (c := fun i : Int => bAnd (iLt i (lLen a)) (bNot ((fun i => bNot (v_laws_eqSent (((lGet a i (0, 0, [])).1, (lGet a i (0, 0, [])).2.1, (lGet a i (0, 0, [])).2.2), ((lGet b i (0, 0, [])).1, (lGet b i (0, 0, [])).2.1, (lGet b i (0, 0, [])).2.2)))) i.toNat))) (f := fun i => iAdd .i64 i 1) a b (0, 0, []) (fun i => bNot (v_laws_eqSent (((lGet a i (0, 0, [])).1, (lGet a i (0, 0, [])).2.1, (lGet a i (0, 0, [])).2.2), ((lGet b i (0, 0, [])).1, (lGet b i (0, 0, [])).2.1, (lGet b i (0, 0, [])).2.2)))) hl (fun i hi => by simp only [bNot_eq, Bool.not_eq_false', (hY i hi).2]) (by omega) (fun i hi => by simp only [bAnd_eq, iLt_eq, lLen_eq, bNot_eq, Int.toNat_natCast, Int.ofNat_lt]) (fun i hi => rfl)
      have e1 : bNot (iNe (lLen a) (lLen b)) = true := by rw [bNot_eq, iNe_eq, lLen_eq, lLen_eq, hl]; simp
      rw [e1, bAnd_eq true, Bool.true_and, bNot_eq (iLt _ (lLen a)), iLt_eq _ (lLen a)]
      simp only [← iNat_eq, lLen_eq] at hv ⊢
      simp only [Bool.not_eq_true', decide_eq_false_iff_not]
      rw [hv]; simp
  · have e1 : bNot (iNe (lLen a) (lLen b)) = false := by rw [bNot_eq, iNe_eq, lLen_eq, lLen_eq]; simp; omega
    refine ⟨⟨fun _ => trivial, fun h => ?_⟩, ?_⟩
    · rw [bNot_eq] at e1; rw [h] at e1; cases e1
    · rw [e1, bAnd_eq, Bool.false_and]; constructor
      · intro h; cases h
      · intro e; subst e; exact absurd rfl hl

end Go.Ag
