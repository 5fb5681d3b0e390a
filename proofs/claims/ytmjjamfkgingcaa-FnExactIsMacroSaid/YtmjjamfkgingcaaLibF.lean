/-
  Part 6 of what the law FnExactIsMacro needs: an abstract semantics proved sound, the program's functions in its form, plain Lean about them. No conditions.
-/
import Derived.Test.YtmjjamfkgingcaaLibE
namespace Go.Ag
set_option linter.unusedSimpArgs false
set_option linter.unusedVariables false
def pi5 (h : Int × Int × Int × Int × Int) : Int × Int := (h.2.2.1, h.2.2.2.1)
theorem getD_map5 (dn : List (Int × Int × Int × Int × Int)) (i : Nat) : (dn.map pi5).getD i (0, 0) = pi5 (dn.getD i (0, 0, 0, 0, 0)) := by
  rw [List.getD_eq_getElem?_getD, List.getD_eq_getElem?_getD, List.getElem?_map]; cases dn[i]? <;> rfl
theorem cnt_nn {c : Int → Bool} {f : Int → Int} (n : Int) (h0 : 0 ≤ n) (hn : n ≤ 9223372036854775806) (hc : ∀ st : Int, c st = true → st < n) (hf : ∀ st, f st = iAdd .i64 st 1) : 0 ≤ loopV c f 0 :=
  (loop_inv_v (fun st => 0 ≤ st ∧ st ≤ n) (fun st => (n - st).toNat) (fun st hI h => by
    have := hc st h
    rw [hf, iAdd_i64 (by constructor <;> omega)]
    exact ⟨by omega, by omega⟩) ⟨by omega, h0⟩).1.1
theorem find_eq (dn : List (Int × Int × Int × Int × Int)) (k c m : Int) : v_spec_l8Find (dn, k, c, m) = v_impl_pairAt (dn.map pi5, c, m) := by
  rw [ve_spec_l8Find, ve_impl_pairAt]
  simp only [lGet_eq, getD_map5, lLen_eq, List.length_map, pi5]
theorem pair_rng (dm : List (Int × Int)) (q : Int × Int) (h : dm.length ≤ 1048576) : v_impl_pairAt (dm, q) = -1 ∨ (0 ≤ v_impl_pairAt (dm, q) ∧ v_impl_pairAt (dm, q) < dm.length) := by
  rw [ve_impl_pairAt, bSel_eq, iLt_eq, lLen_eq]
  split
  · rename_i hlt
    rw [decide_eq_true_eq] at hlt
    refine .inr ⟨cnt_nn dm.length (by omega) (by omega) (fun st hc => ?_) (fun _ => rfl), hlt⟩
    rw [bAnd_eq, iLt_eq, Bool.and_eq_true, decide_eq_true_eq] at hc
    exact hc.1
  · exact .inl rfl
theorem ok_find (dn : List (Int × Int × Int × Int × Int)) (q : Int × Int × Int) (h : dn.length ≤ 1048576) : ok_spec_l8Find (dn, q) := by
  rw [oe_spec_l8Find]
  refine cnt_ok (fun st => st) dn.length (by omega) (fun st _ _ h => ?_) (fun _ => rfl) (fun st h0 h1 => ⟨fun hlt => ?_, fun _ => trivial⟩) (by simp) (by simp)
  · rw [bAnd_eq, iLt_eq, lLen_eq, Bool.and_eq_true, decide_eq_true_eq] at h; exact h.1
  · rw [iLt_eq, lLen_eq, decide_eq_true_eq] at hlt
    have a : (0 : Int) ≤ st ∧ st < (dn.length : Int) := ⟨h0, hlt⟩
    have b : iNat st < dn.length := by rw [iNat_eq]; omega
    exact ⟨a, b, fun _ => ⟨a, b⟩, fun _ => trivial⟩
theorem ok_pair (dm : List (Int × Int)) (q : Int × Int) (h : dm.length ≤ 1048576) : ok_impl_pairAt (dm, q) := by
  rw [oe_impl_pairAt]
  refine cnt_ok (fun st => st) dm.length (by omega) (fun st _ _ h => ?_) (fun _ => rfl) (fun st h0 h1 => ⟨fun hlt => ?_, fun _ => trivial⟩) (by simp) (by simp)
  · rw [bAnd_eq, iLt_eq, lLen_eq, Bool.and_eq_true, decide_eq_true_eq] at h; exact h.1
  · rw [iLt_eq, lLen_eq, decide_eq_true_eq] at hlt
    exact ⟨⟨h0, hlt⟩, by rw [iNat_eq]; omega⟩
theorem without_map (dn : List (Int × Int × Int × Int × Int)) (p : Int) (h0 : 0 ≤ p) (h1 : p < dn.length) :
    (v_spec_l8Without (dn, p)).map pi5 = lApp (lTake (dn.map pi5) (lN (lSub (dn.map pi5) 0 (iNat p)))) (lSub (dn.map pi5) (iNat (iAdd .i64 p 1)) (lN (dn.map pi5))) := by
  have hm : min p.toNat dn.length = p.toNat := by omega
  rw [ve_spec_l8Without]
  simp only [lApp_eq, lTake_eq, lN_eq, lSub_eq, iNat_eq, List.drop_zero, Nat.sub_zero, List.length_take, List.map_append, List.map_take, List.map_drop, List.length_map, List.nil_append, hm]
theorem without_len (dn : List (Int × Int × Int × Int × Int)) (p : Int) (h0 : 0 ≤ p) (h1 : p < dn.length) (h : dn.length ≤ 1048576) : (v_spec_l8Without (dn, p)).length ≤ dn.length := by
  rw [ve_spec_l8Without]
  simp only [lApp_eq, lN_eq, lSub_eq, iNat_eq, List.drop_zero, Nat.sub_zero, List.length_take, List.length_drop, List.length_append, List.nil_append]
  rw [iAdd_i64 (by constructor <;> omega)]
  omega
theorem mac_cond (K p : Int) (A : Bool) : bNot (bOr (bNot (v_spec_l1In (K, 0, 2))) (bOr (bNot A) (bNot (bIff (iEq K 2) (iGe p 0))))) =
    bAnd (bNot (bNot A)) (bSel (bOr (iEq K 0) (iEq K 1)) (bNot (iGe p 0)) (bAnd (iEq K 2) (bNot (iLt p 0)))) := by
  have hp : decide (p < 0) = !decide (0 ≤ p) := by simp only [← decide_not, Int.not_le]
  rw [ve_spec_l1In]
  simp only [bAnd_eq, bNot_eq, bOr_eq, bIff_eq, bSel_eq, iEq_eq, iGe_eq, iLe_eq, iLt_eq, hp]
  generalize decide (0 ≤ p) = P
  have h : K = 0 ∨ K = 1 ∨ K = 2 ∨ (¬ (0 ≤ K ∧ K ≤ 2)) := by omega
  rcases h with h | h | h | h
  · subst h; cases A <;> cases P <;> decide
  · subst h; cases A <;> cases P <;> decide
  · subst h; cases A <;> cases P <;> decide
  · have e0 : K ≠ 0 := by omega
    have e1 : K ≠ 1 := by omega
    have e2 : K ≠ 2 := by omega
    have e3 : (decide (0 ≤ K) && decide (K ≤ 2)) = false := by rw [← Bool.decide_and]; exact decide_eq_false h
    simp only [e3, e0, e1, e2, decide_false]
    cases A <;> rfl
theorem mac_join {l : List (Int × Int × Int)} {cs : List (Int × Int × Int × Int × Int) × Int → Bool} {fs} {ci : List (Int × Int) × Int → Bool} {fi}
    (h : ∀ (dn : List (Int × Int × Int × Int × Int)) (i : Int), 0 ≤ i → i ≤ l.length → dn.length ≤ i → cs (dn, i) = ci (dn.map pi5, i) ∧ (cs (dn, i) = true → i < l.length ∧ ∃ dn' : List (Int × Int × Int × Int × Int), fs (dn, i) = (dn', i + 1) ∧ fi (dn.map pi5, i) = (dn'.map pi5, i + 1) ∧ dn'.length ≤ i + 1)) :
    bAnd (bNot (iLt (loopV cs fs ([], 0)).2 (lLen l))) (bAnd (iLe (lLen l) 8) (iEq (lLen (loopV cs fs ([], 0)).1) 0)) =
    bAnd (bNot (iGt (lLen l) 8)) (bAnd (bNot (iLt (loopV ci fi ([], 0)).2 (lLen l))) (iEq (lLen (loopV ci fi ([], 0)).1) 0)) := by
  have go : ∀ (n : Nat) (dn : List (Int × Int × Int × Int × Int)) (i : Int), 0 ≤ i → i ≤ l.length → dn.length ≤ i → (l.length - i).toNat < n →
      ∃ (en : List (Int × Int × Int × Int × Int)) (j : Int), LoopTo cs fs (fun _ => True) (dn, i) (en, j) ∧ LoopTo ci fi (fun _ => True) (dn.map pi5, i) (en.map pi5, j) := by
    intro n
    induction n with
    | zero => intro _ _ _ _ _ hm; exact absurd hm (Nat.not_lt_zero _)
    | succ n ih =>
      intro dn i h0 h1 h2 hm
      obtain ⟨a, b⟩ := h dn i h0 h1 h2
      cases hc : cs (dn, i) with
      | false => exact ⟨dn, i, .stop trivial hc, .stop trivial (by rw [← a, hc])⟩
      | true =>
        obtain ⟨c1, dn', c2, c3, c4⟩ := b hc
        obtain ⟨en, j, d1, d2⟩ := ih dn' (i + 1) (by omega) (by omega) c4 (by omega)
        exact ⟨en, j, .go trivial hc (by rw [c2]; exact d1), .go trivial (by rw [← a, hc]) (by rw [c3]; exact d2)⟩
  obtain ⟨en, j, d1, d2⟩ := go _ [] 0 (by omega) (by omega) (by simp) (Nat.lt_succ_self _)
  have d2 : LoopTo ci fi (fun _ => True) ([], 0) (en.map pi5, j) := d2
  rw [d1.val, d2.val]
  simp only [bAnd_eq, bNot_eq, iLe_eq, iGt_eq, lLen_eq, List.length_map, ← decide_not, Int.not_lt]
  exact Bool.and_left_comm ..
theorem macroStep (dn : List (Int × Int × Int × Int × Int)) (K c m p i : Int) (t : Bool) (n : Int) (hp : p = -1 ∨ (0 ≤ p ∧ p < dn.length)) (hd : dn.length ≤ i) (hi : i < n) (hn : n ≤ 1048576)
    (hc : bSel (bOr (iEq K 0) (iEq K 1)) (bNot (iGe p 0)) (bAnd (iEq K 2) (bNot (iLt p 0))) = true) :
    bSel (bOr (iEq K 0) (iEq K 1)) (bSel (iEq K 1) (lApp (dn.map pi5) [(c, m)]) (dn.map pi5)) (lApp (lTake (dn.map pi5) (lN (lSub (dn.map pi5) 0 (iNat p)))) (lSub (dn.map pi5) (iNat (iAdd .i64 p 1)) (lN (dn.map pi5)))) =
      (bSel (iEq K 1) (lApp dn [(0, 2, c, m, 0)]) (bSel (iEq K 2) (v_spec_l8Without (dn, p)) dn)).map pi5 ∧
    ((bSel (iEq K 1) (lApp dn [(0, 2, c, m, 0)]) (bSel (iEq K 2) (v_spec_l8Without (dn, p)) dn)).length : Int) ≤ i + 1 := by
  simp only [bSel_eq, bOr_eq, bAnd_eq, bNot_eq, iEq_eq, iGe_eq, iLt_eq, Bool.or_eq_true, decide_eq_true_eq] at hc ⊢
  by_cases k1 : K = 1
  · subst k1
    simp [lApp_eq, pi5]; omega
  · by_cases k0 : K = 0
    · subst k0
      simp; omega
    · simp only [k0, k1, or_self, if_false, Bool.and_eq_true, decide_eq_true_eq, Bool.not_eq_true', decide_eq_false_iff_not] at hc ⊢
      have h0 : 0 ≤ p := by omega
      have h1 : p < dn.length := by omega
      rw [if_pos hc.1]
      refine ⟨(without_map dn p h0 h1).symm, ?_⟩
      have := without_len dn p h0 h1 (by omega)
      omega
theorem isMacro_eq (x : List (Int × Int × Int)) (h : x.length ≤ 1048576) : v_spec_IsMacro x = v_impl_IsMacro x := by
  rw [ve_spec_IsMacro, ve_impl_IsMacro]
  refine mac_join (fun dn i h0 h1 h2 => ?_)
  have hr := pair_rng (dn.map pi5) ((lGet x (iNat i) (0, 0, 0)).2.1, (lGet x (iNat i) (0, 0, 0)).2.2) (by rw [List.length_map]; omega)
  rw [List.length_map] at hr
  simp only [find_eq, isAction_eq, ve_spec_l8Action, mac_cond]
  generalize v_impl_pairAt (dn.map pi5, (lGet x (iNat i) (0, 0, 0)).2.1, (lGet x (iNat i) (0, 0, 0)).2.2) = p at hr ⊢
  refine ⟨trivial, fun hc => ?_⟩
  rw [bAnd_eq, bAnd_eq, iLt_eq, lLen_eq, Bool.and_eq_true, Bool.and_eq_true, decide_eq_true_eq] at hc
  obtain ⟨hc1, hc2, hc3⟩ := hc
  obtain ⟨s1, s2⟩ := macroStep dn (lGet x (iNat i) (0, 0, 0)).1 (lGet x (iNat i) (0, 0, 0)).2.1 (lGet x (iNat i) (0, 0, 0)).2.2 p i true x.length hr h2 hc1 (by omega) hc3
  rw [iAdd_i64 (a := i) (b := 1) (by constructor <;> omega)]
  exact ⟨hc1, _, rfl, by rw [s1], s2⟩
theorem roomy_nat {k w : Nat} (h : k ≤ 1048577) (hw : w ≤ 1000) : roomy (k * w) := by
  unfold roomy; exact Nat.le_trans (Nat.mul_le_mul h hw) (by decide)
theorem ok_without (dn : List (Int × Int × Int × Int × Int)) (p : Int) (h0 : 0 ≤ p) (h1 : p < dn.length) (h : dn.length ≤ 1048576) : ok_spec_l8Without (dn, p) := by
  rw [oe_spec_l8Without, iAdd_i64 (a := p) (b := 1) (by constructor <;> omega)]
  simp only [iNat_eq, lN_eq, lApp_eq, lSub_eq, List.drop_zero, Nat.sub_zero, List.length_take, List.length_drop, List.length_append, List.length_nil, List.nil_append]
  refine ⟨⟨h0, by omega, by omega, by omega⟩, ⟨by omega, by omega, by omega, by omega⟩, roomy_nat (by omega) (by omega), roomy_nat (by omega) (by omega)⟩
theorem ok_specIsMacro (x : List (Int × Int × Int)) (h : x.length ≤ 1048576) : ok_spec_IsMacro x := by
  rw [oe_spec_IsMacro]
  refine (loop_inv (fun st : List (Int × Int × Int × Int × Int) × Int => 0 ≤ st.2 ∧ st.2 ≤ (x.length : Int) ∧ (st.1.length : Int) ≤ st.2) (fun st => ((x.length : Int) - st.2).toNat) (fun st hI => ?_) ⟨by simp, by simp, by simp⟩).1
  obtain ⟨dn, i⟩ := st
  obtain ⟨i0, i1, i2⟩ := hI
  simp only at i0 i1 i2
  have hr := pair_rng (dn.map pi5) ((lGet x (iNat i) (0, 0, 0)).2.1, (lGet x (iNat i) (0, 0, 0)).2.2) (by rw [List.length_map]; omega)
  rw [List.length_map] at hr
  have hf := ok_find dn ((lGet x (iNat i) (0, 0, 0)).1, (lGet x (iNat i) (0, 0, 0)).2.1, (lGet x (iNat i) (0, 0, 0)).2.2) (by omega)
  simp only [find_eq, isAction_eq, ve_spec_l8Action, mac_cond, ok_spec_IsAction_t, oe_spec_l8Action, oe_spec_l1In]
  generalize v_impl_pairAt (dn.map pi5, (lGet x (iNat i) (0, 0, 0)).2.1, (lGet x (iNat i) (0, 0, 0)).2.2) = p at hr ⊢
  refine ⟨⟨fun hlt => ?_, fun _ => trivial⟩, fun hc => ?_⟩
  · rw [iLt_eq, lLen_eq, decide_eq_true_eq] at hlt
    refine ⟨⟨i0, hlt⟩, by rw [iNat_eq]; omega, hf, ⟨trivial, fun _ => trivial, fun _ => ⟨trivial, trivial⟩⟩, fun _ => trivial, fun hc => ⟨fun _ => ⟨trivial, roomy_nat (by simp only [List.length_cons, List.length_nil]; omega) (by omega)⟩, fun k1 => ⟨fun k2 => ?_, fun _ => trivial⟩⟩⟩
    have hc := congrArg bNot hc
    rw [mac_cond] at hc
    simp only [bSel_eq, bOr_eq, bAnd_eq, bNot_eq, iEq_eq, iGe_eq, iLt_eq, decide_eq_true_eq] at hc k1 k2
    simp [k2] at hc
    exact ok_without dn p (by omega) (by omega) (by omega)
  · rw [bAnd_eq, bAnd_eq, iLt_eq, lLen_eq, Bool.and_eq_true, Bool.and_eq_true, decide_eq_true_eq] at hc
    obtain ⟨hc1, hc2, hc3⟩ := hc
    obtain ⟨s1, s2⟩ := macroStep dn (lGet x (iNat i) (0, 0, 0)).1 (lGet x (iNat i) (0, 0, 0)).2.1 (lGet x (iNat i) (0, 0, 0)).2.2 p i true x.length hr i2 hc1 (by omega) hc3
    rw [iAdd_i64 (a := i) (b := 1) (by constructor <;> omega)]
    exact ⟨⟨by show 0 ≤ i + 1; omega, by show i + 1 ≤ _; omega, s2⟩, by show (_ - (i + 1)).toNat < _; omega⟩
theorem ok_implIsMacro (x : List (Int × Int × Int)) (h : x.length ≤ 1048576) : ok_impl_IsMacro x := by
  rw [oe_impl_IsMacro]
  refine ⟨fun _ => trivial, fun _ => ?_⟩
  refine (loop_inv (fun st : List (Int × Int) × Int => 0 ≤ st.2 ∧ st.2 ≤ (x.length : Int) ∧ ∃ dn : List (Int × Int × Int × Int × Int), st.1 = dn.map pi5 ∧ (dn.length : Int) ≤ st.2) (fun st => ((x.length : Int) - st.2).toNat) (fun st hI => ?_) ⟨by simp, by simp, [], rfl, by simp⟩).1
  obtain ⟨dm, i⟩ := st
  obtain ⟨i0, i1, dn, rfl, i2⟩ := hI
  simp only at i0 i1 i2
  have hr := pair_rng (dn.map pi5) ((lGet x (iNat i) (0, 0, 0)).2.1, (lGet x (iNat i) (0, 0, 0)).2.2) (by rw [List.length_map]; omega)
  have hf := ok_pair (dn.map pi5) ((lGet x (iNat i) (0, 0, 0)).2.1, (lGet x (iNat i) (0, 0, 0)).2.2) (by rw [List.length_map]; omega)
  rw [List.length_map] at hr
  simp only [ok_impl_IsAction_t]
  generalize v_impl_pairAt (dn.map pi5, (lGet x (iNat i) (0, 0, 0)).2.1, (lGet x (iNat i) (0, 0, 0)).2.2) = p at hr ⊢
  refine ⟨⟨fun hlt => ?_, fun _ => trivial⟩, fun hc => ?_⟩
  · rw [iLt_eq, lLen_eq, decide_eq_true_eq] at hlt
    refine ⟨⟨i0, hlt⟩, by rw [iNat_eq]; omega, hf, trivial, fun _ => trivial, fun _ => ⟨fun _ => ⟨fun _ => trivial, fun _ => ⟨fun _ => roomy_nat (by simp only [List.length_map, List.length_cons, List.length_nil]; omega) (by omega), fun _ => trivial⟩⟩, fun _ => ⟨fun _ => ⟨fun _ => trivial, fun hp => ?_⟩, fun _ => trivial⟩⟩⟩
    rw [iLt_eq, decide_eq_false_iff_not] at hp
    have h0 : 0 ≤ p := by omega
    have h1 : p < dn.length := by omega
    rw [iAdd_i64 (a := p) (b := 1) (by constructor <;> omega)]
    simp only [iNat_eq, lN_eq, lSub_eq, List.drop_zero, Nat.sub_zero, List.length_take, List.length_drop, List.length_map]
    exact ⟨⟨h0, by omega, by omega, by omega⟩, ⟨by omega, by omega, by omega, by omega⟩, by omega, by omega, roomy_nat (by omega) (by omega)⟩
  · rw [bAnd_eq, bAnd_eq, iLt_eq, lLen_eq, Bool.and_eq_true, Bool.and_eq_true, decide_eq_true_eq] at hc
    obtain ⟨hc1, hc2, hc3⟩ := hc
    obtain ⟨s1, s2⟩ := macroStep dn (lGet x (iNat i) (0, 0, 0)).1 (lGet x (iNat i) (0, 0, 0)).2.1 (lGet x (iNat i) (0, 0, 0)).2.2 p i true x.length hr i2 hc1 (by omega) hc3
    rw [iAdd_i64 (a := i) (b := 1) (by constructor <;> omega)]
    exact ⟨⟨by show 0 ≤ i + 1; omega, by show i + 1 ≤ _; omega, _, s1, s2⟩, by show (_ - (i + 1)).toNat < _; omega⟩
theorem plain_FnExactIsMacro (x : List (Int × Int × Int)) (hw : TuX.wf h_laws_FnExactIsMacro x) : ok_laws_FnExactIsMacro x ∧ v_laws_FnExactIsMacro x = true := by
  rw [oe_laws_FnExactIsMacro, ve_laws_FnExactIsMacro]
  have hwl : wl_StepS x := ⟨hw.1, fun a _ => by simp [wl_Step]⟩
  obtain ⟨k1, k2⟩ := sz_StepS x hwl 1048576 (by omega) (by omega)
  rcases k2 with k2 | ⟨k2, _, k3⟩
  · have e : iLt (v_laws_szStepS (x, 1048576)) 0 = true := by rw [iLt_eq]; simpa using k2
    simp only [e]; simp [bOr_eq, k1]
  · have e : iLt (v_laws_szStepS (x, 1048576)) 0 = false := by rw [iLt_eq]; simpa using k2
    obtain ⟨t1, t2⟩ := to_StepS x k3
    obtain ⟨q1, q2⟩ := eq_StepS x x k3
    have q2 := q2.2 rfl
    simp only [e, t2, isMacro_eq x k3.1, q2]
    simp [k1, t1, q1, ok_specIsMacro x k3.1, ok_implIsMacro x k3.1, bOr_eq, bAnd_eq, bNot_eq, bIff_eq]
end Go.Ag
