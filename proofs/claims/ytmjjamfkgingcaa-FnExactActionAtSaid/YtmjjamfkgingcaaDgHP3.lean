/-
  WHAT THE HELPERS to*, eq*, sz* OF THE LAWS DO, type by type (written by program, gen.py).
-/
import Derived.Test.YtmjjamfkgingcaaDgP3E
import Derived.Test.YtmjjamfkgingcaaDgHP1
import Derived.Test.YtmjjamfkgingcaaDgHP2
import Derived.Test.YtmjjamfkgingcaaDgNf
namespace Go.Ag
set_option linter.unusedSimpArgs false
set_option linter.unusedVariables false

def sm_ActionS (x : List (Int × Int × Int × Int)) : Prop := x.length ≤ 1048576 ∧ ∀ a ∈ x, sm_Action a
def wl_ActionS (x : List (Int × Int × Int × Int)) : Prop := x.length ≤ 9223372036854775807 ∧ ∀ a ∈ x, wl_Action a
theorem sz_ActionS (x : List (Int × Int × Int × Int)) (hw : wl_ActionS x) (l : Int) (h0 : 0 ≤ l) (h1 : l ≤ 1048576) : ok_laws_szActionS (x, l) ∧ (v_laws_szActionS (x, l) < 0 ∨ (0 ≤ v_laws_szActionS (x, l) ∧ v_laws_szActionS (x, l) ≤ l ∧ sm_ActionS x)) := by
  rw [oe_laws_szActionS, ve_laws_szActionS]
  have hl : x.length ≤ 9223372036854775807 := hw.1
  have hs : iSub .i64 l (lLen x) = l - x.length := by rw [lLen_eq]; exact iSub_i64 (by unfold In64; omega)
  refine ⟨trivial, ?_⟩
  simp only [hs, iLt_eq, bSel_eq, decide_eq_true_eq]
  split
  · left; omega
  · right; exact ⟨by omega, by omega, ⟨by omega, fun a _ => by simp [sm_Action]⟩⟩

def sm_ActionSS (x : List (List (Int × Int × Int × Int))) : Prop := x.length ≤ 1048576 ∧ ∀ a ∈ x, sm_ActionS a
def wl_ActionSS (x : List (List (Int × Int × Int × Int))) : Prop := x.length ≤ 9223372036854775807 ∧ ∀ a ∈ x, wl_ActionS a
theorem sz_ActionSS (x : List (List (Int × Int × Int × Int))) (hw : wl_ActionSS x) (l : Int) (h0 : 0 ≤ l) (h1 : l ≤ 1048576) : ok_laws_szActionSS (x, l) ∧ (v_laws_szActionSS (x, l) < 0 ∨ (0 ≤ v_laws_szActionSS (x, l) ∧ v_laws_szActionSS (x, l) ≤ l ∧ sm_ActionSS x)) := by
  rw [oe_laws_szActionSS, ve_laws_szActionSS]
  obtain ⟨hl, hw2⟩ := hw
  have hs : iSub .i64 l (lLen x) = l - x.length := by rw [lLen_eq]; exact iSub_i64 (by unfold In64; omega)
  simp only [hs]
  by_cases hneg : l - (x.length : Int) < 0
  · have hb : iLt (l - (x.length : Int)) 0 = true := by rw [iLt_eq]; simpa using hneg
    rw [hb]
    exact ⟨⟨fun _ => trivial, fun h => (by cases h)⟩, by rw [bSel_t]; left; omega⟩
  · have hb : iLt (l - (x.length : Int)) 0 = false := by rw [iLt_eq]; simpa using hneg
    rw [hb]
    have hg : ∀ i : Nat, i < x.length → ∀ m : Int, 0 ≤ m → m ≤ 1048576 → ok_laws_szActionS (x.getD i [], m) ∧ (v_laws_szActionS (x.getD i [], m) < 0 ∨ (0 ≤ v_laws_szActionS (x.getD i [], m) ∧ v_laws_szActionS (x.getD i [], m) ≤ m ∧ sm_ActionS (x.getD i []))) := fun i hi m g0 g1 => sz_ActionS _ (hw2 _ (getD_mem x i [] hi)) m g0 g1
    refine ⟨⟨fun h => (by cases h), fun _ => sz_ok x [] sm_ActionS (fun a m => v_laws_szActionS (a, m)) (l - (x.length : Int)) (by omega) (by omega) (by omega) (fun i hi m g0 g1 => (hg i hi m g0 g1).2) (fun m i hi => by simp only [bAnd_eq, iLt_eq, lLen_eq, iNat_eq, lGet_eq, bNot_eq, Int.toNat_natCast, Int.ofNat_lt]) (fun m i hi => by simp only [iNat_eq, lGet_eq, Int.toNat_natCast]) (fun m i g0 g1 hi => ?_)⟩, ?_⟩
    · simp only [iLt_eq, lLen_eq, iNat_eq, lGet_eq, decide_eq_true_eq, Int.toNat_natCast]
      exact ⟨fun hh => ⟨by omega, by omega, (hg i (by omega) m g0 g1).1⟩, fun _ => trivial⟩
    · rw [bSel_f]
      have hv := sz_v (c := fun st : Int × Int => bAnd (iLt st.2 (lLen x)) (bNot (iLt (v_laws_szActionS ((lGet x (iNat st.2) []), st.1)) 0))) (f := fun st => (v_laws_szActionS ((lGet x (iNat st.2) []), st.1), iAdd .i64 st.2 1)) x [] sm_ActionS (fun a m => v_laws_szActionS (a, m)) (l - (x.length : Int)) (by omega) (by omega) (by omega) (fun i hi m g0 g1 => (hg i hi m g0 g1).2) (fun m i hi => by simp only [bAnd_eq, iLt_eq, lLen_eq, iNat_eq, lGet_eq, bNot_eq, Int.toNat_natCast, Int.ofNat_lt]) (fun m i hi => by simp only [iNat_eq, lGet_eq, Int.toNat_natCast])
      rcases sz_fin (l := l) (by omega) hv with h | ⟨h2, h3, h4⟩
      · exact .inl h
      · exact .inr ⟨h2, h3, (by omega), h4⟩

def sm_Keymap (x : Int × (List (List (Int × Int × Int × Int)))) : Prop := sm_ActionSS x.2 ∧ True
def wl_Keymap (x : Int × (List (List (Int × Int × Int × Int)))) : Prop := wl_ActionSS x.2 ∧ True
theorem sz_Keymap (x : Int × (List (List (Int × Int × Int × Int)))) (hw : wl_Keymap x) (l : Int) (h0 : 0 ≤ l) (h1 : l ≤ 1048576) : ok_laws_szKeymap (x, l) ∧ (v_laws_szKeymap (x, l) < 0 ∨ (0 ≤ v_laws_szKeymap (x, l) ∧ v_laws_szKeymap (x, l) ≤ l ∧ sm_Keymap x)) := by
  rw [oe_laws_szKeymap, ve_laws_szKeymap]
  have hx := hw
  unfold wl_Keymap at hw
  obtain ⟨k0, g0⟩ := sz_ActionSS x.2 hw.1 l (by omega) (by omega)
  generalize hz0 : v_laws_szActionSS (x.2, l) = z0 at g0 ⊢
  rcases g0 with g0 | ⟨g0, g0', g0''⟩
  · have hb : iLt z0 0 = true := by rw [iLt_eq]; simpa using g0
    refine ⟨?_, ?_⟩
    · simp [k0, hb]
    · simp only [hb, bSel_t]; left; omega
  have hb0 : iLt z0 0 = false := by rw [iLt_eq]; simpa using g0
  simp only [hb0, bSel_f]
  exact ⟨by simp [k0], .inr ⟨by omega, by omega, g0'', trivial⟩⟩

theorem to_ActionS (x : List (Int × Int × Int × Int)) (h : sm_ActionS x) : ok_laws_toActionS x ∧ v_laws_toActionS x = x := by
  rw [oe_laws_toActionS, ve_laws_toActionS]
  obtain ⟨h1, h2⟩ := h
  have hY : ∀ i : Nat, i < x.length → ok_laws_toAction ((x.getD i (0, 0, 0, 0)).1, (x.getD i (0, 0, 0, 0)).2.1, (x.getD i (0, 0, 0, 0)).2.2.1, (x.getD i (0, 0, 0, 0)).2.2.2) ∧ v_laws_toAction ((x.getD i (0, 0, 0, 0)).1, (x.getD i (0, 0, 0, 0)).2.1, (x.getD i (0, 0, 0, 0)).2.2.1, (x.getD i (0, 0, 0, 0)).2.2.2) = x.getD i (0, 0, 0, 0) := fun i hi => to_Action _ (h2 _ (getD_mem x i (0, 0, 0, 0) hi))
  refine ⟨⟨⟨by rw [lLen_eq]; omega, roomy_of (by rw [lLen_eq]; omega) (by rw [lLen_eq]; omega) (by omega)⟩, copyg_ok x (0, 0, 0, 0) (0, 0, 0, 0) h1 (fun _ => rfl) (fun l i hi => by simp only [lSet_eq, lGet_eq, iNat_eq, Int.toNat_natCast]; rw [(hY i hi).2]) (fun l i hl hi => ?_)⟩, copyg_v x (0, 0, 0, 0) (0, 0, 0, 0) h1 (fun _ => rfl) (fun l i hi => by simp only [lSet_eq, lGet_eq, iNat_eq, Int.toNat_natCast]; rw [(hY i hi).2])⟩
  simp only [iLt_eq, lLen_eq, iNat_eq, lGet_eq, decide_eq_true_eq, Int.toNat_natCast]
  exact ⟨fun hh => ⟨by omega, by omega, (hY i (by omega)).1, by omega, by omega⟩, fun _ => trivial⟩

theorem to_ActionSS (x : List (List (Int × Int × Int × Int))) (h : sm_ActionSS x) : ok_laws_toActionSS x ∧ v_laws_toActionSS x = x := by
  rw [oe_laws_toActionSS, ve_laws_toActionSS]
  obtain ⟨h1, h2⟩ := h
  have hY : ∀ i : Nat, i < x.length → ok_laws_toActionS (x.getD i []) ∧ v_laws_toActionS (x.getD i []) = x.getD i [] := fun i hi => to_ActionS _ (h2 _ (getD_mem x i [] hi))
  refine ⟨⟨⟨by rw [lLen_eq]; omega, roomy_of (by rw [lLen_eq]; omega) (by rw [lLen_eq]; omega) (by omega)⟩, copyg_ok x [] [] h1 (fun _ => rfl) (fun l i hi => by simp only [lSet_eq, lGet_eq, iNat_eq, Int.toNat_natCast]; rw [(hY i hi).2]) (fun l i hl hi => ?_)⟩, copyg_v x [] [] h1 (fun _ => rfl) (fun l i hi => by simp only [lSet_eq, lGet_eq, iNat_eq, Int.toNat_natCast]; rw [(hY i hi).2])⟩
  simp only [iLt_eq, lLen_eq, iNat_eq, lGet_eq, decide_eq_true_eq, Int.toNat_natCast]
  exact ⟨fun hh => ⟨by omega, by omega, (hY i (by omega)).1, by omega, by omega⟩, fun _ => trivial⟩

theorem to_Keymap (x : Int × (List (List (Int × Int × Int × Int)))) (h : sm_Keymap x) : ok_laws_toKeymap x ∧ v_laws_toKeymap x = x := by
  rw [oe_laws_toKeymap, ve_laws_toKeymap]
  have k0 := to_ActionSS x.2 (by unfold sm_Keymap at h; exact h.1)
  refine ⟨k0.1, ?_⟩
  simp only [k0.2]

theorem eq_ActionS (a b : List (Int × Int × Int × Int)) (h : sm_ActionS a) : ok_laws_eqActionS (a, b) ∧ (v_laws_eqActionS (a, b) = true ↔ a = b) := by
  rw [oe_laws_eqActionS, ve_laws_eqActionS]
  obtain ⟨h1, h2⟩ := h
  have hY : ∀ i : Nat, i < a.length → ok_laws_eqAction (((lGet a i (0, 0, 0, 0)).1, (lGet a i (0, 0, 0, 0)).2.1, (lGet a i (0, 0, 0, 0)).2.2.1, (lGet a i (0, 0, 0, 0)).2.2.2), ((lGet b i (0, 0, 0, 0)).1, (lGet b i (0, 0, 0, 0)).2.1, (lGet b i (0, 0, 0, 0)).2.2.1, (lGet b i (0, 0, 0, 0)).2.2.2)) ∧ (v_laws_eqAction (((lGet a i (0, 0, 0, 0)).1, (lGet a i (0, 0, 0, 0)).2.1, (lGet a i (0, 0, 0, 0)).2.2.1, (lGet a i (0, 0, 0, 0)).2.2.2), ((lGet b i (0, 0, 0, 0)).1, (lGet b i (0, 0, 0, 0)).2.1, (lGet b i (0, 0, 0, 0)).2.2.1, (lGet b i (0, 0, 0, 0)).2.2.2)) = true ↔ a.getD i (0, 0, 0, 0) = b.getD i (0, 0, 0, 0)) := fun i hi => by
    have := eq_Action (a.getD i (0, 0, 0, 0)) (b.getD i (0, 0, 0, 0)) (h2 _ (getD_mem a i (0, 0, 0, 0) hi))
    rw [lGet_eq, lGet_eq]; exact this
  by_cases hl : a.length = b.length
  · refine ⟨⟨fun _ => trivial, fun _ => eq_ok a b (0, 0, 0, 0) (fun i => bNot (v_laws_eqAction (((lGet a i (0, 0, 0, 0)).1, (lGet a i (0, 0, 0, 0)).2.1, (lGet a i (0, 0, 0, 0)).2.2.1, (lGet a i (0, 0, 0, 0)).2.2.2), ((lGet b i (0, 0, 0, 0)).1, (lGet b i (0, 0, 0, 0)).2.1, (lGet b i (0, 0, 0, 0)).2.2.1, (lGet b i (0, 0, 0, 0)).2.2.2)))) hl (fun i hi => by simp only [bNot_eq, Bool.not_eq_false', (hY i hi).2]) (by omega) (fun i hi => by simp only [bAnd_eq, iLt_eq, lLen_eq, iNat_eq, bNot_eq, Int.toNat_natCast, Int.ofNat_lt]) (fun i hi => rfl) (fun i hi => ?_)⟩, ?_⟩
    · simp only [iLt_eq, lLen_eq, iNat_eq, decide_eq_true_eq, Int.toNat_natCast]
      exact ⟨fun hh => ⟨by omega, by omega, by omega, by omega, (hY i (by omega)).1⟩, fun _ => trivial⟩
    · have hv := eq_v (c := fun i : Int => bAnd (iLt i (lLen a)) (bNot ((fun i => bNot (v_laws_eqAction (((lGet a i (0, 0, 0, 0)).1, (lGet a i (0, 0, 0, 0)).2.1, (lGet a i (0, 0, 0, 0)).2.2.1, (lGet a i (0, 0, 0, 0)).2.2.2), ((lGet b i (0, 0, 0, 0)).1, (lGet b i (0, 0, 0, 0)).2.1, (lGet b i (0, 0, 0, 0)).2.2.1, (lGet b i (0, 0, 0, 0)).2.2.2)))) i.toNat))) (f := fun i => iAdd .i64 i 1) a b (0, 0, 0, 0) (fun i => bNot (v_laws_eqAction (((lGet a i (0, 0, 0, 0)).1, (lGet a i (0, 0, 0, 0)).2.1, (lGet a i (0, 0, 0, 0)).2.2.1, (lGet a i (0, 0, 0, 0)).2.2.2), ((lGet b i (0, 0, 0, 0)).1, (lGet b i (0, 0, 0, 0)).2.1, (lGet b i (0, 0, 0, 0)).2.2.1, (lGet b i (0, 0, 0, 0)).2.2.2)))) hl (fun i hi => by simp only [bNot_eq, Bool.not_eq_false', (hY i hi).2]) (by omega) (fun i hi => by simp only [bAnd_eq, iLt_eq, lLen_eq, bNot_eq, Int.toNat_natCast, Int.ofNat_lt]) (fun i hi => rfl)
      have e1 : bNot (iNe (lLen a) (lLen b)) = true := by rw [bNot_eq, iNe_eq, lLen_eq, lLen_eq, hl]; simp
      rw [e1, bAnd_eq true, Bool.true_and, bNot_eq (iLt _ (lLen a)), iLt_eq _ (lLen a)]
      simp only [← iNat_eq, lLen_eq] at hv ⊢
      simp only [Bool.not_eq_true', decide_eq_false_iff_not]
      rw [hv]; simp
  · have e1 : bNot (iNe (lLen a) (lLen b)) = false := by rw [bNot_eq, iNe_eq, lLen_eq, lLen_eq]; simp; omega
    refine ⟨⟨fun _ => trivial, fun h => ?_⟩, ?_⟩
    · rw [bNot_eq] at e1; rw [h] at e1; cases e1
    · rw [e1, bAnd_eq, Bool.false_and]; constructor
      · intro h; cases h
      · intro e; subst e; exact absurd rfl hl

theorem eq_ActionSS (a b : List (List (Int × Int × Int × Int))) (h : sm_ActionSS a) : ok_laws_eqActionSS (a, b) ∧ (v_laws_eqActionSS (a, b) = true ↔ a = b) := by
  rw [oe_laws_eqActionSS, ve_laws_eqActionSS]
  obtain ⟨h1, h2⟩ := h
  have hY : ∀ i : Nat, i < a.length → ok_laws_eqActionS ((lGet a i []), (lGet b i [])) ∧ (v_laws_eqActionS ((lGet a i []), (lGet b i [])) = true ↔ a.getD i [] = b.getD i []) := fun i hi => by
    have := eq_ActionS (a.getD i []) (b.getD i []) (h2 _ (getD_mem a i [] hi))
    rw [lGet_eq, lGet_eq]; exact this
  by_cases hl : a.length = b.length
  · refine ⟨⟨fun _ => trivial, fun _ => eq_ok a b [] (fun i => bNot (v_laws_eqActionS ((lGet a i []), (lGet b i [])))) hl (fun i hi => by simp only [bNot_eq, Bool.not_eq_false', (hY i hi).2]) (by omega) (fun i hi => by simp only [bAnd_eq, iLt_eq, lLen_eq, iNat_eq, bNot_eq, Int.toNat_natCast, Int.ofNat_lt]) (fun i hi => rfl) (fun i hi => ?_)⟩, ?_⟩
    · simp only [iLt_eq, lLen_eq, iNat_eq, decide_eq_true_eq, Int.toNat_natCast]
      exact ⟨fun hh => ⟨by omega, by omega, by omega, by omega, (hY i (by omega)).1⟩, fun _ => trivial⟩
    · have hv := eq_v (c := fun i : Int => bAnd (iLt i (lLen a)) (bNot ((fun i => bNot (v_laws_eqActionS ((lGet a i []), (lGet b i [])))) i.toNat))) (f := fun i => iAdd .i64 i 1) a b [] (fun i => bNot (v_laws_eqActionS ((lGet a i []), (lGet b i [])))) hl (fun i hi => by simp only [bNot_eq, Bool.not_eq_false', (hY i hi).2]) (by omega) (fun i hi => by simp only [bAnd_eq, iLt_eq, lLen_eq, bNot_eq, Int.toNat_natCast, Int.ofNat_lt]) (fun i hi => rfl)
      have e1 : bNot (iNe (lLen a) (lLen b)) = true := by rw [bNot_eq, iNe_eq, lLen_eq, lLen_eq, hl]; simp
      rw [e1, bAnd_eq true, Bool.true_and, bNot_eq (iLt _ (lLen a)), iLt_eq _ (lLen a)]
      simp only [← iNat_eq, lLen_eq] at hv ⊢
      simp only [Bool.not_eq_true', decide_eq_false_iff_not]
      rw [hv]; simp
  · have e1 : bNot (iNe (lLen a) (lLen b)) = false := by rw [bNot_eq, iNe_eq, lLen_eq, lLen_eq]; simp; omega
    refine ⟨⟨fun _ => trivial, fun h => ?_⟩, ?_⟩
    · rw [bNot_eq] at e1; rw [h] at e1; cases e1
    · rw [e1, bAnd_eq, Bool.false_and]; constructor
      · intro h; cases h
      · intro e; subst e; exact absurd rfl hl

theorem eq_Keymap (a b : Int × (List (List (Int × Int × Int × Int)))) (h : sm_Keymap a) : ok_laws_eqKeymap (a, b) ∧ (v_laws_eqKeymap (a, b) = true ↔ a = b) := by
  obtain ⟨a0, a1⟩ := a
  obtain ⟨b0, b1⟩ := b
  have k0 := eq_ActionSS a1 b1 (by unfold sm_Keymap at h; exact h.1)
  rw [oe_laws_eqKeymap, ve_laws_eqKeymap]
  refine ⟨by simp [k0.1, k0.2], ?_⟩
  simp only [k0.1, k0.2, bNot_eq, bAnd_eq, bIff_eq, iNe_eq, Bool.and_eq_true, Bool.not_not, decide_eq_true_eq, Prod.mk.injEq, beq_iff_eq]
  try (constructor <;> intro h <;> simp_all)

end Go.Ag
