/- Part 7 of what FnHeldReports needs. No conditions. -/
import Derived.Test.YtkjnachjeoeihaaLibF
namespace Go.Ag
set_option linter.unusedSimpArgs false
set_option linter.unusedVariables false
theorem fold_loop {α S : Type} {c : S × Int → Bool} {f : S × Int → S × Int} {p : S × Int → Prop} (x : List α) (d : α) (g : S → α → S) (s0 : S) (hl : x.length ≤ 1048576)
    (hc : ∀ (s : S) (i : Nat), i ≤ x.length → c (s, (i : Int)) = decide (i < x.length)) (hf : ∀ (s : S) (i : Nat), i < x.length → f (s, (i : Int)) = (g s (x.getD i d), iAdd .i64 (i : Int) 1)) (hp : ∀ (s : S) (i : Nat), i ≤ x.length → p (s, (i : Int))) :
    LoopOk c f p (s0, 0) ∧ loopV c f (s0, 0) = (x.foldl g s0, (x.length : Int)) := by
  have := loop_for (c := c) (f := f) (p := p) x.length (fun i => ((x.take i).foldl g s0, (i : Int))) (x0 := (s0, 0)) rfl (fun k hk => by
    refine ⟨hp _ k (by omega), by rw [hc _ k (by omega)]; simpa using hk, ?_⟩
    rw [hf _ k hk, iAdd_i64 (by unfold In64; omega), ← take_snoc x d hk, List.foldl_append]
    simp) ⟨hp _ _ (by omega), by rw [hc _ _ (by omega)]; simp⟩
  refine ⟨this.1, ?_⟩
  rw [this.2, List.take_length]
theorem bit_test (m p : Nat) (hm : m < 4611686018427387904) (hp : p ≤ 64) : v_impl_bit ((m : Int), (p : Int)) = if m.testBit p then 1 else 0 := by
  rw [ve_impl_bit]
  simp only
  rw [shr_i64 m p hp]
  have hd : m / 2 ^ p ≤ m := Nat.div_le_self _ _
  have := and_i64 (a := m / 2 ^ p) (b := 1) (by omega) (by omega)
  rw [show ((1 : Nat) : Int) = 1 from rfl] at this
  rw [this, Nat.and_one_is_mod, Nat.testBit_eq_decide_div_mod_eq]
  simp only [decide_eq_true_eq]
  split <;> omega
theorem isHeld_of {x : HdX} (hl : x.length ≤ 1048576) (h : ∀ a ∈ x, HeldOk a) (hd : x.Pairwise (fun a b => a.1 ≠ b.1)) : v_impl_IsHeld x = true := by
  rw [ve_impl_IsHeld, bNot_eq, Bool.not_eq_true']
  have key := loop_inv_v (c := fun x0 : Int × Int => (bAnd (iLt x0.2 (lLen x)) (bAnd (bNot (bOr (iLt (lGet x (iNat x0.2) (0, 0, 0, 0, 0)).1 0) (bOr (iGt (lGet x (iNat x0.2) (0, 0, 0, 0, 0)).1 31) (bOr (iEq (v_impl_bit (x0.1, (lGet x (iNat x0.2) (0, 0, 0, 0, 0)).1)) 1) (bNot (v_impl_IsAction ((lGet x (iNat x0.2) (0, 0, 0, 0, 0)).2.1, (lGet x (iNat x0.2) (0, 0, 0, 0, 0)).2.2.1, (lGet x (iNat x0.2) (0, 0, 0, 0, 0)).2.2.2.1, (lGet x (iNat x0.2) (0, 0, 0, 0, 0)).2.2.2.2))))))) (bNot (bOr (iEq (lGet x (iNat x0.2) (0, 0, 0, 0, 0)).2.1 1) (bOr (iEq (lGet x (iNat x0.2) (0, 0, 0, 0, 0)).2.1 6) (iEq (lGet x (iNat x0.2) (0, 0, 0, 0, 0)).2.1 7)))))))
    (f := fun x0 => ((iOr Go.IntKind.i64 x0.1 (iShl Go.IntKind.i64 1 (lGet x (iNat x0.2) (0, 0, 0, 0, 0)).1)), (iAdd Go.IntKind.i64 x0.2 1)))
    (fun st => ∃ i m : Nat, st = ((m : Int), (i : Int)) ∧ i ≤ x.length ∧ m < 4294967296 ∧ ∀ p : Nat, m.testBit p = true → ∃ j, j < i ∧ (x.getD j (0, 0, 0, 0, 0)).1 = (p : Int)) (fun st => x.length - st.2.toNat) (fun st hI hc => ?_) (x0 := (0, 0)) ⟨0, 0, rfl, Nat.zero_le _, by omega, fun p hp => by simp at hp⟩
  · obtain ⟨⟨i, m, k1, k2, k3, k4⟩, k5⟩ := key
    rw [k1] at k5 ⊢
    rw [iLt_eq, lLen_eq, decide_eq_false_iff_not]
    intro hlt
    have hi : i < x.length := by simpa using hlt
    obtain ⟨h1, h2, h3, h4, h5, h6⟩ := h _ (getD_mem x i (0, 0, 0, 0, 0) hi)
    have hb : v_impl_bit ((m : Int), (x.getD i (0, 0, 0, 0, 0)).1) ≠ 1 := by
      obtain ⟨p, hp⟩ := Int.eq_ofNat_of_zero_le h1
      rw [hp, bit_test m p (by omega) (by omega)]
      split
      · next hb =>
        obtain ⟨j, hj, e⟩ := k4 p hb
        have := List.pairwise_iff_getElem.1 hd j i (by omega) hi hj
        rw [← getD_of x (0, 0, 0, 0, 0) hi, ← getD_of x (0, 0, 0, 0, 0) (by omega : j < x.length), e, hp] at this
        exact absurd rfl this
      · decide
    have h3' : v_impl_IsAction ((x.getD i (0, 0, 0, 0, 0)).2.1, (x.getD i (0, 0, 0, 0, 0)).2.2.1, (x.getD i (0, 0, 0, 0, 0)).2.2.2.1, (x.getD i (0, 0, 0, 0, 0)).2.2.2.2) = true := h3
    simp only [bAnd_eq, bNot_eq, bOr_eq, iLt_eq, iGt_eq, iEq_eq, lLen_eq, lGet_eq, iNat_eq, Int.toNat_natCast, h3', hb, h4, h5, h6] at k5
    simp [-List.getD_eq_getElem?_getD] at k5
    omega
  · obtain ⟨i, m, rfl, k2, k3, k4⟩ := hI
    simp only [bAnd_eq, iLt_eq, lLen_eq, Bool.and_eq_true, decide_eq_true_eq] at hc
    have hi : i < x.length := by omega
    obtain ⟨h1, h2, _⟩ := h _ (getD_mem x i (0, 0, 0, 0, 0) hi)
    obtain ⟨p, hp⟩ := Int.eq_ofNat_of_zero_le h1
    have hpl : p < 32 := by omega
    have h2p : 2 ^ p ≤ 2 ^ 31 := Nat.pow_le_pow_right (by omega) (by omega)
    have h31 : (2 : Nat) ^ 31 = 2147483648 := by decide
    simp only [lGet_eq, iNat_eq, Int.toNat_natCast, hp]
    have e1 := shl_i64 (a := 1) (k := p) (by omega) (by omega)
    rw [show ((1 : Nat) : Int) = 1 from rfl, Nat.one_mul] at e1
    rw [e1, or_i64 (a := m) (b := 2 ^ p) (by omega) (by omega)]
    refine ⟨⟨i + 1, m ||| 2 ^ p, by rw [iAdd_i64 (by unfold In64; omega)]; simp, by omega, ?_, fun q hq => ?_⟩, by rw [iAdd_i64 (by unfold In64; omega)]; omega⟩
    · have := Nat.or_lt_two_pow (x := m) (y := 2 ^ p) (n := 32) (by omega) (by omega)
      simpa using this
    · rw [Nat.testBit_or, Bool.or_eq_true] at hq
      rcases hq with hq | hq
      · obtain ⟨j, hj, e⟩ := k4 q hq
        exact ⟨j, by omega, e⟩
      · rw [Nat.testBit_two_pow] at hq
        have : p = q := by simpa using hq
        exact ⟨i, by omega, by rw [hp, this]⟩
def orL {α : Type} (w : α → Nat) (l : List α) (m : Nat) : Nat := l.foldl (fun m a => m ||| w a) m
theorem orL_perm {α : Type} (w : α → Nat) {a b : List α} (h : a.Perm b) (m : Nat) : orL w a m = orL w b m :=
  h.foldl_eq' (fun x _ y _ z => by simp only [Nat.or_assoc, Nat.or_comm (w x)]) m
theorem orL_lt {α : Type} (w : α → Nat) (n : Nat) : ∀ (l : List α) (m : Nat), m < 2 ^ n → (∀ a ∈ l, w a < 2 ^ n) → orL w l m < 2 ^ n
  | [], m, h, _ => h
  | a :: l, m, h, hl => orL_lt w n l _ (Nat.or_lt_two_pow h (hl a List.mem_cons_self)) fun b hb => hl b (List.mem_cons_of_mem _ hb)
theorem orL_int {α : Type} (w : α → Nat) (g : Int → α → Int) (n : Nat) : ∀ (l : List α) (m : Nat), m < 2 ^ n → (∀ a ∈ l, w a < 2 ^ n) → (∀ a ∈ l, ∀ m : Nat, m < 2 ^ n → g (m : Int) a = ((m ||| w a : Nat) : Int)) → l.foldl g (m : Int) = ((orL w l m : Nat) : Int)
  | [], m, _, _, _ => rfl
  | a :: l, m, h, hl, hg => by
    have ha := hl a List.mem_cons_self
    rw [List.foldl_cons, hg a List.mem_cons_self m h]
    exact orL_int w g n l _ (Nat.or_lt_two_pow h ha) (fun b hb => hl b (List.mem_cons_of_mem _ hb)) fun b hb => hg b (List.mem_cons_of_mem _ hb)
def modW (a : Int × Int × Int × Int × Int) : Nat := if a.2.1 = 2 ∨ a.2.1 = 8 then a.2.2.2.1.toNat else 0
def layW (a : Int × Int × Int × Int × Int) : Nat := if a.2.1 = 3 then 2 ^ a.2.2.2.2.toNat else 0
theorem modW_lt {a : Int × Int × Int × Int × Int} (h : HeldOk a) : modW a < 2 ^ 4 := by
  obtain ⟨_, _, h, _⟩ := h
  obtain ⟨q, k, c, m, n⟩ := a
  have := (isA_eq k c m n).1 h
  unfold modW
  simp only
  split
  · have : (2 : Nat) ^ 4 = 16 := by decide
    omega
  · decide
theorem layW_lt {a : Int × Int × Int × Int × Int} (h : HeldOk a) : layW a < 2 ^ 4 := by
  obtain ⟨_, _, h, _⟩ := h
  obtain ⟨q, k, c, m, n⟩ := a
  have := (isA_eq k c m n).1 h
  unfold layW
  simp only
  split
  · exact Nat.pow_lt_pow_right (by omega) (by omega)
  · decide
theorem modG {m : Nat} {a : Int × Int × Int × Int × Int} (h : HeldOk a) (hm : m < 2 ^ 4) : bSel (bOr (iEq a.2.1 2) (iEq a.2.1 8)) (iOr .i64 (m : Int) a.2.2.2.1) (m : Int) = ((m ||| modW a : Nat) : Int) := by
  obtain ⟨_, _, h, _⟩ := h
  obtain ⟨q, k, c, n, z⟩ := a
  have := (isA_eq k c n z).1 h
  have e4 : (2 : Nat) ^ 4 = 16 := by decide
  unfold modW
  simp only [bSel_eq, bOr_eq, iEq_eq, Bool.or_eq_true, decide_eq_true_eq]
  split
  · obtain ⟨p, rfl⟩ := Int.eq_ofNat_of_zero_le (show 0 ≤ n by omega)
    rw [or_i64 (by omega) (by omega), Int.toNat_natCast]
  · rw [Nat.or_zero]
theorem layG {m : Nat} {a : Int × Int × Int × Int × Int} (h : HeldOk a) (hm : m < 2 ^ 4) : bSel (iEq a.2.1 3) (iOr .i64 (m : Int) (iShl .i64 1 a.2.2.2.2)) (m : Int) = ((m ||| layW a : Nat) : Int) := by
  obtain ⟨_, _, h, _⟩ := h
  obtain ⟨q, k, c, n, z⟩ := a
  have := (isA_eq k c n z).1 h
  have e4 : (2 : Nat) ^ 4 = 16 := by decide
  unfold layW
  simp only [bSel_eq, iEq_eq, decide_eq_true_eq]
  split
  · obtain ⟨p, rfl⟩ := Int.eq_ofNat_of_zero_le (show 0 ≤ z by omega)
    have hp : p ≤ 3 := by omega
    have : 2 ^ p ≤ 2 ^ 3 := Nat.pow_le_pow_right (by omega) hp
    have e3 : (2 : Nat) ^ 3 = 8 := by decide
    have e1 := shl_i64 (a := 1) (k := p) (by omega) (by omega)
    rw [show ((1 : Nat) : Int) = 1 from rfl, Nat.one_mul] at e1
    rw [e1, or_i64 (by omega) (by omega), Int.toNat_natCast]
  · rw [Nat.or_zero]
def HeldV (x : HdX) : Prop := x.length ≤ 1048576 ∧ (∀ a ∈ x, HeldOk a) ∧ x.Pairwise (fun a b => a.1 ≠ b.1)
theorem HeldV.is {x : HdX} (h : HeldV x) : v_impl_IsHeld x = true := isHeld_of h.1 h.2.1 h.2.2
theorem HeldV.rev {x : HdX} (h : HeldV x) : HeldV x.reverse :=
  ⟨by simpa using h.1, fun a ha => h.2.1 a (by simpa using ha), List.pairwise_reverse.2 (h.2.2.imp fun h e => h e.symm)⟩
theorem HeldV.of {n : Int} {x : HdX} (h : HeldsOk n x) (hn : n ≤ 1000) : HeldV x := ⟨by have := h.2.2; omega, h.1, h.2.1.imp fun h e => by omega⟩
theorem fold_loop' {α S : Type} {c : Int × S → Bool} {f : Int × S → Int × S} {p : Int × S → Prop} (x : List α) (d : α) (g : S → α → S) (s0 : S) (hl : x.length ≤ 1048576)
    (hc : ∀ (s : S) (i : Nat), i ≤ x.length → c ((i : Int), s) = decide (i < x.length)) (hf : ∀ (s : S) (i : Nat), i < x.length → f ((i : Int), s) = (iAdd .i64 (i : Int) 1, g s (x.getD i d))) (hp : ∀ (s : S) (i : Nat), i ≤ x.length → p ((i : Int), s)) :
    LoopOk c f p (0, s0) ∧ loopV c f (0, s0) = ((x.length : Int), x.foldl g s0) := by
  have := loop_for (c := c) (f := f) (p := p) x.length (fun i => ((i : Int), (x.take i).foldl g s0)) (x0 := (0, s0)) rfl (fun k hk => by
    refine ⟨hp _ k (by omega), by rw [hc _ k (by omega)]; simpa using hk, ?_⟩
    rw [hf _ k hk, iAdd_i64 (by unfold In64; omega), ← take_snoc x d hk, List.foldl_append]
    simp) ⟨hp _ _ (by omega), by rw [hc _ _ (by omega)]; simp⟩
  refine ⟨this.1, ?_⟩
  rw [this.2, List.take_length]
noncomputable def modF (s : Int) (a : Int × Int × Int × Int × Int) : Int := bSel (bOr (iEq a.2.1 2) (iEq a.2.1 8)) (iOr .i64 s a.2.2.2.1) s
noncomputable def layF (s : Int) (a : Int × Int × Int × Int × Int) : Int := bSel (iEq a.2.1 3) (iOr .i64 s (iShl .i64 1 a.2.2.2.2)) s
theorem HeldV.mods {x : HdX} (h : HeldV x) : x.foldl modF 0 = ((orL modW x 0 : Nat) : Int) :=
  orL_int modW modF 4 x 0 (by decide) (fun a ha => modW_lt (h.2.1 a ha)) fun a ha m hm => modG (h.2.1 a ha) hm
theorem HeldV.lays {x : HdX} (h : HeldV x) : x.foldl layF 1 = ((orL layW x 1 : Nat) : Int) :=
  orL_int layW layF 4 x 1 (by decide) (fun a ha => layW_lt (h.2.1 a ha)) fun a ha m hm => layG (h.2.1 a ha) hm
theorem HeldV.report {x : HdX} (h : HeldV x) : v_impl_ReportOf x = (x.foldl modF 0, v_impl_codesOf (codesL x)) := by
  rw [ve_impl_ReportOf, h.is]
  obtain ⟨m1, m2, m3, m4⟩ := modsTwo x h.1
  rw [m3, m4]
  obtain ⟨_, e⟩ := fold_loop' (c := lc_spec_ReportOf_1 x) (f := lf_spec_ReportOf_1 x) (p := fun _ => True) x (0, 0, 0, 0, 0) modF 0 h.1 (fun s i hi => by simp only [lc_spec_ReportOf_1, iLt_eq, lLen_eq, Int.ofNat_lt]) (fun s i hi => by simp only [lf_spec_ReportOf_1, lGet_eq, iNat_eq, Int.toNat_natCast, modF]) (fun _ _ _ => trivial)
  rw [e]
  simp only [bNot_eq, Bool.not_true, bSel_f]
theorem HeldV.layers {x : HdX} (h : HeldV x) : v_impl_LayersOn (0, x) = x.foldl layF 1 := by
  rw [ve_impl_LayersOn]
  simp only [h.is]
  have e0 : bSel (bAnd (iGe 0 0) (iLe 0 15)) (iOr .i64 1 0) 1 = 1 := by
    have := or_i64 (a := 1) (b := 0) (by omega) (by omega)
    rw [bSel_eq, show iOr .i64 1 0 = 1 from this]; simp
  rw [e0]
  obtain ⟨_, e⟩ := fold_loop (c := fun (x0 : Int × Int) => (iLt x0.2 (lLen x))) (f := fun (x0 : (Int × Int)) => ((bSel (iEq (lGet x (iNat x0.2) (0, 0, 0, 0, 0)).2.1 3) (iOr Go.IntKind.i64 x0.1 (iShl Go.IntKind.i64 1 (lGet x (iNat x0.2) (0, 0, 0, 0, 0)).2.2.2.2)) x0.1), (iAdd Go.IntKind.i64 x0.2 1))) (p := fun _ => True) x (0, 0, 0, 0, 0) layF 1 h.1 (fun s i hi => by simp only [iLt_eq, lLen_eq, Int.ofNat_lt]) (fun s i hi => by simp only [lGet_eq, iNat_eq, Int.toNat_natCast, layF]) (fun _ _ _ => trivial)
  rw [e]
  simp only [bNot_eq, Bool.not_true, bSel_f]
theorem codes_in {x : HdX} (h : ∀ a ∈ x, HeldOk a) : ∀ z ∈ codesL x, 0 ≤ z ∧ z ≤ 56 := fun z hz => by
  obtain ⟨a, ha, rfl⟩ := List.mem_map.1 hz
  exact isAction_code (h a ha).2.2.1
theorem HeldV.keys {x : HdX} (h : HeldV x) : IsCodes (codesL x) (v_impl_codesOf (codesL x)) ∧ (v_impl_codesOf (codesL x)).length ≤ x.length := by
  have hcl : (codesL x).length = x.length := by simp [codesL]
  obtain ⟨_, a, b⟩ := codesOf_eq (codesL x) (by have := h.1; omega)
  exact ⟨a, by omega⟩
theorem HeldV.turned {x : HdX} (h : HeldV x) : v_impl_ReportOf x.reverse = v_impl_ReportOf x ∧ v_impl_LayersOn (0, x.reverse) = v_impl_LayersOn (0, x) := by
  rw [h.report, h.rev.report, h.layers, h.rev.layers, h.mods, h.rev.mods, h.lays, h.rev.lays, orL_perm modW (List.reverse_perm x), orL_perm layW (List.reverse_perm x)]
  refine ⟨?_, rfl⟩
  congr 1
  refine inc_ext h.rev.keys.1.1 h.keys.1.1 fun z => ?_
  rw [h.rev.keys.1.2, h.keys.1.2]
  simp [codesL]
theorem sameReport_self (r : Int × List Int) (h : r.2.length ≤ 1048576) : v_impl_SameReport (r, r) = true := by
  rw [ve_impl_SameReport, ve_impl_sameInts]
  obtain ⟨_, k, hk, h2, h3⟩ := scan_st (c := fun (x0 : Int) => (bAnd (iLt x0 (lLen r.2)) (bNot (iNe (lGet r.2 (iNat x0) 0) (lGet r.2 (iNat x0) 0))))) (f := fun x0 => iAdd .i64 x0 1) (p := fun _ => True) (x0 := 0) r.2.length (fun i => (i : Int)) (fun _ => true) rfl (fun i hi _ => by simp only [bAnd_eq, bNot_eq, iNe_eq, iLt_eq, lLen_eq, Int.ofNat_lt]; simp) (fun i hi _ => by rw [iAdd_i64 (by unfold In64; omega)]; simp) (fun _ _ _ => trivial)
  have := h3.2 fun _ _ => rfl
  simp only [h2, this]
  simp [bAnd_eq, bNot_eq, iEq_eq, iNe_eq, iLt_eq, lLen_eq]
theorem isReport_ok (r : Int × List Int) (hl : r.2.length ≤ 1048576) (h0 : 0 ≤ r.1) (h1 : r.1 ≤ 15) (hp : r.2.Pairwise (· < ·)) (hc : ∀ z ∈ r.2, 1 ≤ z ∧ z ≤ 56) : ok_impl_IsReport r ∧ v_impl_IsReport r = true := by
  obtain ⟨m, l⟩ := r
  simp only at hl h0 h1 hp hc
  have hg : ∀ i, i < l.length → v_impl_isCode (l.getD i 0) = true := fun i hi => by
    have := hc _ (getD_mem l i 0 hi)
    rw [ve_impl_isCode, bAnd_eq, iGe_eq, iLe_eq]; simp [-List.getD_eq_getElem?_getD]; omega
  have hs : ∀ i : Nat, (i : Int) > 0 → iSub .i64 (i : Int) 1 = ((i - 1 : Nat) : Int) ∨ 9223372036854775808 ≤ (i : Int) := fun i hi => by
    by_cases h : (i : Int) < 9223372036854775808
    · left; rw [iSub_i64 (by unfold In64; omega)]; omega
    · right; omega
  obtain ⟨g1, k, hk, h2, h3⟩ := scan_st (c := lc_impl_IsReport_1 (m, l)) (f := lf_impl_IsReport_1) (p := lp_impl_IsReport_1 (m, l)) (x0 := 0) l.length (fun i => (i : Int)) (fun _ => true) rfl (fun i hi _ => by
      simp only [lc_impl_IsReport_1, bAnd_eq, bNot_eq, bOr_eq, iLt_eq, iGt_eq, iGe_eq, lLen_eq, lGet_eq, iNat_eq, Int.toNat_natCast, Int.ofNat_lt]
      by_cases h : i < l.length
      · rw [hg i h]
        by_cases h0 : (i : Int) > 0
        · have hi1 : i - 1 < l.length := by omega
          have hlt := List.pairwise_iff_getElem.1 hp (i - 1) i hi1 h (by omega)
          rw [← getD_of l 0 h, ← getD_of l 0 hi1] at hlt
          rw [iSub_i64 (by unfold In64; omega), show ((i : Int) - 1).toNat = i - 1 by omega]
          simp [h, -List.getD_eq_getElem?_getD]; omega
        · simp [h, h0, -List.getD_eq_getElem?_getD]; omega
      · simp [h]) (fun i hi _ => by unfold lf_impl_IsReport_1; rw [iAdd_i64 (by unfold In64; omega)]; simp) (fun i hi _ => by
      unfold lp_impl_IsReport_1
      simp only [iLt_eq, iGt_eq, lLen_eq, iNat_eq, Int.toNat_natCast, decide_eq_true_eq, oe_impl_isCode]
      refine ⟨fun h => ⟨⟨by omega, by omega⟩, by omega, trivial, fun _ => trivial, fun _ => ⟨fun h0 => ?_, fun _ => trivial⟩⟩, fun _ => trivial⟩
      rw [iSub_i64 (by unfold In64; omega)]
      exact ⟨⟨by omega, by omega⟩, by omega⟩)
  have := h3.2 fun _ _ => rfl
  rw [oe_impl_IsReport, ve_impl_IsReport]
  simp only [h2, this]
  refine ⟨⟨fun _ => trivial, fun _ => g1⟩, ?_⟩
  simp [bAnd_eq, bNot_eq, bOr_eq, iLt_eq, iGt_eq, lLen_eq]
  omega
theorem has_eq (l : List Int) (v : Int) (hl : l.length ≤ 1048576) : ok_laws_has (l, v) ∧ v_laws_has (l, v) = decide (v ∈ l) := by
  obtain ⟨h1, h2⟩ := hasInt_eq l v hl
  rw [oe_impl_hasInt] at h1
  rw [ve_impl_hasInt] at h2
  rw [oe_laws_has, ve_laws_has]
  exact ⟨h1, h2⟩
theorem plain_FnHeldReports (x : List Int) (hw : TuX.wf h_laws_FnHeldReports x) : ok_laws_FnHeldReports x ∧ v_laws_FnHeldReports x = true := by
  rw [oe_laws_FnHeldReports, ve_laws_FnHeldReports]
  obtain ⟨b1, b2⟩ := big_eq x
  by_cases hx : 1048576 < x.length
  · have e : v_laws_big x = true := by rw [b1]; simpa using hx
    simp [e, b2, bOr_eq]
  have e : v_laws_big x = false := by rw [b1]; simpa using hx
  obtain ⟨d1, d2⟩ := makeHeld_ok x (by omega)
  have hV := HeldV.of d2 (by omega)
  obtain ⟨_, r2, _, _⟩ := reportOf_two (v_spec_MakeHeld x) hV.1
  obtain ⟨_, q2, _, _⟩ := reportOf_two (v_spec_MakeHeld x).reverse hV.rev.1
  obtain ⟨⟨k1, k2⟩, k3⟩ := hV.keys
  have k0 := hV.1
  have hc56 := codes_in hV.2.1
  have hrep := hV.report
  have hR2 : (v_impl_ReportOf (v_spec_MakeHeld x)).2 = v_impl_codesOf (codesL (v_spec_MakeHeld x)) := by rw [hrep]
  have hR1 : (v_impl_ReportOf (v_spec_MakeHeld x)).1 = (v_spec_MakeHeld x).foldl modF 0 := by rw [hrep]
  -- the first loop: the modifiers; each code is in the report
  obtain ⟨l1, v1⟩ := fold_loop (c := lc_laws_FnHeldReports_1 x) (f := lf_laws_FnHeldReports_1 x) (p := lp_laws_FnHeldReports_1 x) (v_spec_MakeHeld x) (0, 0, 0, 0, 0) modF 0 k0 (fun s i hi => by
      simp only [lc_laws_FnHeldReports_1, bAnd_eq, bNot_eq, iLt_eq, iGt_eq, lLen_eq, lGet_eq, iNat_eq, Int.toNat_natCast, Int.ofNat_lt]
      by_cases h : i < (v_spec_MakeHeld x).length
      · rw [hR2, (has_eq _ _ (by omega)).2]
        have hm : ((v_spec_MakeHeld x).getD i (0, 0, 0, 0, 0)).2.2.1 ∈ codesL (v_spec_MakeHeld x) := List.mem_map.2 ⟨_, getD_mem _ i _ h, rfl⟩
        have := k2 (((v_spec_MakeHeld x).getD i (0, 0, 0, 0, 0)).2.2.1)
        by_cases h0 : ((v_spec_MakeHeld x).getD i (0, 0, 0, 0, 0)).2.2.1 > 0
        · have := this.2 ⟨hm, by omega⟩
          simp [h, this, -List.getD_eq_getElem?_getD]
        · simp only [h, h0, decide_false, Bool.false_and, Bool.not_false, decide_true, Bool.and_true]
      · simp [h]) (fun s i hi => by simp only [lf_laws_FnHeldReports_1, lGet_eq, iNat_eq, Int.toNat_natCast, modF]) (fun s i hi => by
      simp only [lp_laws_FnHeldReports_1, iLt_eq, lLen_eq, iNat_eq, Int.toNat_natCast, decide_eq_true_eq]
      exact ⟨fun h => ⟨⟨by omega, by omega⟩, by omega, fun _ => by rw [hR2]; exact (has_eq _ _ (by omega)).1, fun _ => trivial⟩, fun _ => trivial⟩)
  -- the second: each key is held
  have inner : ∀ i : Nat, i < (v_impl_ReportOf (v_spec_MakeHeld x)).2.length → LoopOk (lc_laws_FnHeldReports_3 x) (lf_laws_FnHeldReports_3 x (i : Int)) (lp_laws_FnHeldReports_3 x (i : Int)) (false, 0) ∧ (loopV (lc_laws_FnHeldReports_3 x) (lf_laws_FnHeldReports_3 x (i : Int)) (false, 0)).1 = true := by
    intro i hi
    obtain ⟨a1, a2⟩ := fold_loop (c := lc_laws_FnHeldReports_3 x) (f := lf_laws_FnHeldReports_3 x (i : Int)) (p := lp_laws_FnHeldReports_3 x (i : Int)) (v_spec_MakeHeld x) (0, 0, 0, 0, 0) (fun s a => s || decide (a.2.2.1 = (v_impl_ReportOf (v_spec_MakeHeld x)).2.getD i 0)) false k0 (fun s j hj => by
        simp only [lc_laws_FnHeldReports_3, iLt_eq, lLen_eq, Int.ofNat_lt]) (fun s j hj => by simp only [lf_laws_FnHeldReports_3, bOr_eq, iEq_eq, lGet_eq, iNat_eq, Int.toNat_natCast]) (fun s j hj => by
        simp only [lp_laws_FnHeldReports_3, iLt_eq, lLen_eq, iNat_eq, Int.toNat_natCast, decide_eq_true_eq]
        exact ⟨fun h => ⟨fun _ => trivial, fun _ => ⟨⟨by omega, by omega⟩, by omega, ⟨by omega, by omega⟩, by omega⟩⟩, fun _ => trivial⟩)
    refine ⟨a1, ?_⟩
    rw [a2]
    have hk := getD_mem _ i 0 hi
    generalize (v_impl_ReportOf (v_spec_MakeHeld x)).2.getD i 0 = z at hk
    rw [hR2, k2, codesL, List.mem_map] at hk
    obtain ⟨⟨a, ha, e⟩, _⟩ := hk
    have : ∀ (l : HdX) (b : Bool), (b = true ∨ a ∈ l) → l.foldl (fun s a => s || decide (a.2.2.1 = z)) b = true := by
      intro l
      induction l with
      | nil => intro b h; simpa using h
      | cons y l ih =>
        intro b h
        rw [List.foldl_cons]
        refine ih _ ?_
        rcases h with h | h
        · left; simp [h]
        · rcases List.mem_cons.1 h with h | h
          · left; subst h; simp [e]
          · exact .inr h
    exact this _ _ (.inr ha)
  obtain ⟨l2, k, hk, v2, h2⟩ := scan_st (c := lc_laws_FnHeldReports_2 x) (f := lf_laws_FnHeldReports_2) (p := lp_laws_FnHeldReports_2 x) (x0 := 0) (v_impl_ReportOf (v_spec_MakeHeld x)).2.length (fun i => (i : Int)) (fun _ => true) rfl (fun i hi _ => by
      simp only [lc_laws_FnHeldReports_2, bAnd_eq, bNot_eq, iLt_eq, lLen_eq, Int.ofNat_lt]
      by_cases h : i < (v_impl_ReportOf (v_spec_MakeHeld x)).2.length
      · rw [(inner i h).2]; simp [h]
      · simp [h]) (fun i hi _ => by unfold lf_laws_FnHeldReports_2; rw [hR2] at hi; rw [iAdd_i64 (by unfold In64; omega)]; simp) (fun i hi _ => by
      simp only [lp_laws_FnHeldReports_2, iLt_eq, lLen_eq, decide_eq_true_eq, Int.ofNat_lt]
      exact ⟨fun h => (inner i h).1, fun _ => trivial⟩)
  have h2 := h2.2 fun _ _ => rfl
  subst h2
  -- the list turned round
  have hrl : (v_spec_MakeHeld x).reverse.length = (v_spec_MakeHeld x).length := List.length_reverse
  have s0 : iSub .i64 (lLen (v_spec_MakeHeld x)) 1 = ((v_spec_MakeHeld x).length : Int) - 1 := by rw [lLen_eq]; exact iSub_i64 (by unfold In64; omega)
  obtain ⟨l4, v4⟩ := loop_for (c := lc_laws_FnHeldReports_4) (f := lf_laws_FnHeldReports_4 x) (p := lp_laws_FnHeldReports_4 x) (x0 := ([], ((v_spec_MakeHeld x).length : Int) - 1)) (v_spec_MakeHeld x).length (fun k => ((v_spec_MakeHeld x).reverse.take k, ((v_spec_MakeHeld x).length : Int) - 1 - k)) (by simp) (fun k hk => by
      have hlen : ((v_spec_MakeHeld x).reverse.take k).length = k := by rw [List.length_take]; omega
      have e1 : (((v_spec_MakeHeld x).length : Int) - 1 - k).toNat = (v_spec_MakeHeld x).length - 1 - k := by omega
      have e2 : (v_spec_MakeHeld x).getD ((v_spec_MakeHeld x).length - 1 - k) (0, 0, 0, 0, 0) = (v_spec_MakeHeld x).reverse.getD k (0, 0, 0, 0, 0) := by
        rw [getD_of _ _ (by omega), getD_of _ _ (by omega), List.getElem_reverse]
      simp only [lc_laws_FnHeldReports_4, lf_laws_FnHeldReports_4, lp_laws_FnHeldReports_4, iGe_eq, iNat_eq, lGet_eq, lApp_eq, hlen, List.length_cons, List.length_nil, e1, e2, decide_eq_true_eq]
      refine ⟨⟨fun h => ⟨⟨by omega, by omega⟩, by omega, by unfold roomy; omega⟩, fun _ => trivial⟩, by omega, ?_⟩
      rw [take_snoc _ _ (by omega), iSub_i64 (by unfold In64; omega)]
      congr 1
      omega) ⟨by
        simp only [lp_laws_FnHeldReports_4, iGe_eq, decide_eq_true_eq]
        exact ⟨fun h => by omega, fun _ => trivial⟩, by simp only [lc_laws_FnHeldReports_4, iGe_eq, decide_eq_false_iff_not]; omega⟩
  rw [← hrl, List.take_length, hrl] at v4
  -- all together
  obtain ⟨t1, t2⟩ := hV.turned
  have hsr := sameReport_self (v_impl_ReportOf (v_spec_MakeHeld x)) (by rw [hR2]; omega)
  have osr := (ok_sameReport (v_impl_ReportOf (v_spec_MakeHeld x)) (v_impl_ReportOf (v_spec_MakeHeld x)) (by rw [hR2]; omega)).2
  have hm := hV.mods
  have hb : orL modW (v_spec_MakeHeld x) 0 < 2 ^ 4 := orL_lt modW 4 _ 0 (by decide) fun a ha => modW_lt (hV.2.1 a ha)
  have e4 : (2 : Nat) ^ 4 = 16 := by decide
  obtain ⟨p1, p2⟩ := isReport_ok (v_impl_ReportOf (v_spec_MakeHeld x)) (by rw [hR2]; omega) (by rw [hR1, hm]; omega) (by rw [hR1, hm]; omega) (by rw [hR2]; exact k1) (fun z hz => by
    rw [hR2, k2] at hz
    have := hc56 z hz.1
    omega)
  have o1 := ok_impl_IsHeld_t (v_spec_MakeHeld x) k0
  have o2 := ok_impl_LayersOn_t 0 (v_spec_MakeHeld x) k0
  have o3 := ok_impl_LayersOn_t 0 (v_spec_MakeHeld x).reverse (by omega)
  have p2' : ls_laws_FnHeldReports_1 x = true := p2
  simp only [s0, v1, v2, v4, e, t1, t2, hsr, p2', hV.is, hR1]
  simp [b2, d1, r2, l1, l2, l4, o1, o2, o3, q2, osr, p1, bOr_eq, bAnd_eq, bNot_eq, iLt_eq, iEq_eq, lLen_eq]
end Go.Ag
