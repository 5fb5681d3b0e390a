/-
  PLAIN LEAN: what the named operations are; loops.
-/
import Derived.Test.YtmjjamfkgingcaaLibF
namespace Go.Ag
set_option linter.unusedSimpArgs false
set_option linter.unusedVariables false

/-! ### Truth values -/
theorem bNot_eq (a : Bool) : bNot a = !a := by unfold bNot; rfl
theorem bAnd_eq (a b : Bool) : bAnd a b = (a && b) := by unfold bAnd; rfl
theorem bOr_eq (a b : Bool) : bOr a b = (a || b) := by unfold bOr; rfl
theorem bIff_eq (a b : Bool) : bIff a b = (a == b) := by unfold bIff; rfl
theorem bSel_eq {α : Type} (c : Bool) (x y : α) : bSel c x y = if c = true then x else y := by cases c <;> simp [bSel_t, bSel_f]
theorem iEq_eq (a b : Int) : iEq a b = decide (a = b) := by
  unfold iEq; by_cases h : a = b <;> simp [h]
theorem iNe_eq (a b : Int) : iNe a b = !decide (a = b) := by
  unfold iNe; by_cases h : a = b <;> simp [h]
theorem iLt_eq (a b : Int) : iLt a b = decide (a < b) := by unfold iLt; rfl
theorem iLe_eq (a b : Int) : iLe a b = decide (a ≤ b) := by unfold iLe; rfl
theorem iGt_eq (a b : Int) : iGt a b = decide (b < a) := by unfold iGt; rfl
theorem iGe_eq (a b : Int) : iGe a b = decide (b ≤ a) := by unfold iGe; rfl
theorem sEq_eq (a b : List UInt8) : sEq a b = (a == b) := by unfold sEq; rfl
theorem sNe_eq (a b : List UInt8) : sNe a b = !(a == b) := by unfold sNe; rfl

/-! ### Lists -/
section
variable {α : Type}
theorem lLen_eq (l : List α) : lLen l = (l.length : Int) := by unfold lLen; rfl
theorem lN_eq (l : List α) : lN l = l.length := by unfold lN; rfl
theorem lGet_eq (l : List α) (j : Nat) (d : α) : lGet l j d = l.getD j d := by unfold lGet; rfl
theorem lSet_eq (l : List α) (j : Nat) (x : α) : lSet l j x = l.set j x := by unfold lSet; rfl
theorem lSub_eq (l : List α) (a b : Nat) : lSub l a b = (l.drop a).take (b - a) := by unfold lSub; rfl
theorem lTake_eq (l : List α) (n : Nat) : lTake l n = l.take n := by unfold lTake; rfl
theorem lApp_eq (l m : List α) : lApp l m = l ++ m := by unfold lApp; rfl
theorem lRep_eq (n : Int) (x : α) : lRep n x = List.replicate n.toNat x := by unfold lRep; rfl
theorem iNat_eq (a : Int) : iNat a = a.toNat := by unfold iNat; rfl
theorem sAdd_eq (a b : List UInt8) : sAdd a b = a ++ b := by unfold sAdd; rfl
end

/-! ### Numbers of 64 bits -/
def In64 (n : Int) : Prop := -9223372036854775808 ≤ n ∧ n ≤ 9223372036854775807
theorem wrap_i64 {n : Int} (h : In64 n) : IntKind.i64.wrap n = n := by
  obtain ⟨h1, h2⟩ := h
  show (if decide (n % 18446744073709551616 ≥ 9223372036854775808) = true then n % 18446744073709551616 - 18446744073709551616 else n % 18446744073709551616) = n
  simp only [decide_eq_true_eq]
  split <;> omega
theorem iAdd_i64 {a b : Int} (h : In64 (a + b)) : iAdd .i64 a b = a + b := by unfold iAdd; exact wrap_i64 h
theorem iSub_i64 {a b : Int} (h : In64 (a - b)) : iSub .i64 a b = a - b := by unfold iSub; exact wrap_i64 h
theorem iMul_i64 {a b : Int} (h : In64 (a * b)) : iMul .i64 a b = a * b := by unfold iMul; exact wrap_i64 h
theorem iNeg_i64 {a : Int} (h : In64 (0 - a)) : iNeg .i64 a = -a := by unfold iNeg; rw [wrap_i64 h]; omega
theorem iConv_i64 {a : Int} (h : In64 a) : iConv .i64 a = a := by unfold iConv; exact wrap_i64 h
theorem iQuo_i64 {a b : Int} (ha : 0 ≤ a) (h : In64 (a / b)) : iQuo .i64 a b = a / b := by
  unfold iQuo; rw [Int.tdiv_eq_ediv_of_nonneg ha]; exact wrap_i64 h
theorem iRem_nn {a b : Int} (ha : 0 ≤ a) : iRem a b = a % b := by unfold iRem; exact Int.tmod_eq_emod_of_nonneg ha

/-! ### Loops -/
section
variable {X : Type} {c : X → Bool} {f : X → X} {p : X → Prop}
/-- A loop with an invariant that a measure ends. -/
theorem loop_inv (I : X → Prop) (m : X → Nat) (h : ∀ x, I x → p x ∧ (c x = true → I (f x) ∧ m (f x) < m x)) {x0 : X} (h0 : I x0) :
    LoopOk c f p x0 ∧ I (loopV c f x0) ∧ c (loopV c f x0) = false := by
  have go : ∀ (n : Nat) (x : X), m x < n → I x → ∃ y, LoopTo c f p x y ∧ I y ∧ c y = false := by
    intro n
    induction n with
    | zero => intro x hm; exact absurd hm (Nat.not_lt_zero _)
    | succ n ih =>
      intro x hm hI
      obtain ⟨h1, h2⟩ := h x hI
      cases hc : c x with
      | false => exact ⟨x, .stop h1 hc, hI, hc⟩
      | true =>
        obtain ⟨h3, h4⟩ := h2 hc
        obtain ⟨y, h5, h6, h7⟩ := ih (f x) (by omega) h3
        exact ⟨y, .go h1 hc h5, h6, h7⟩
  obtain ⟨y, h1, h2, h3⟩ := go _ x0 (Nat.lt_succ_self _) h0
  rw [h1.val]
  exact ⟨⟨y, h1⟩, h2, h3⟩
theorem loop_inv_v (I : X → Prop) (m : X → Nat) (h : ∀ x, I x → c x = true → I (f x) ∧ m (f x) < m x) {x0 : X} (h0 : I x0) : I (loopV c f x0) ∧ c (loopV c f x0) = false :=
  (loop_inv (p := fun _ => True) I m (fun x hx => ⟨trivial, h x hx⟩) h0).2
/-- A loop whose states are known. -/
theorem loop_for (n : Nat) (st : Nat → X) {x0 : X} (h0 : st 0 = x0) (hs : ∀ k, k < n → p (st k) ∧ c (st k) = true ∧ f (st k) = st (k + 1)) (he : p (st n) ∧ c (st n) = false) : LoopOk c f p x0 ∧ loopV c f x0 = st n := by
  have go : ∀ k, k ≤ n → LoopTo c f p (st (n - k)) (st n) := by
    intro k
    induction k with
    | zero => intro _; exact .stop he.1 he.2
    | succ k ih =>
      intro hk
      obtain ⟨h1, h2, h3⟩ := hs (n - (k + 1)) (by omega)
      refine .go h1 h2 ?_
      rw [h3, show n - (k + 1) + 1 = n - k by omega]
      exact ih (by omega)
  have := go n (Nat.le_refl _)
  rw [Nat.sub_self, h0] at this
  exact ⟨⟨_, this⟩, this.val⟩
end

/-- The first place from i on where a test holds, or n. -/
def firstAt (t : Nat → Bool) : Nat → Nat → Nat
  | 0, i => i
  | k + 1, i => if t i then i else firstAt t k (i + 1)
theorem firstAt_le (t : Nat → Bool) : ∀ k i, i ≤ firstAt t k i ∧ firstAt t k i ≤ i + k
  | 0, i => ⟨Nat.le_refl _, Nat.le_refl _⟩
  | k + 1, i => by
    unfold firstAt
    split
    · omega
    · have := firstAt_le t k (i + 1); omega
theorem firstAt_lt (t : Nat → Bool) : ∀ k i, firstAt t k i < i + k → t (firstAt t k i) = true
  | 0, i, h => by unfold firstAt at h; omega
  | k + 1, i, h => by
    unfold firstAt at h ⊢
    split
    · rename_i ht; exact ht
    · rename_i ht
      rw [if_neg ht] at h
      exact firstAt_lt t k (i + 1) (by omega)
theorem firstAt_no (t : Nat → Bool) : ∀ k i j, i ≤ j → j < firstAt t k i → t j = false
  | 0, i, j, h, h' => by unfold firstAt at h'; omega
  | k + 1, i, j, h, h' => by
    unfold firstAt at h'
    split at h'
    · omega
    · rename_i ht
      by_cases hj : j = i
      · subst hj; simpa using ht
      · exact firstAt_no t k (i + 1) j (by omega) h'
/-- A search: 'for i := 0; i < n && !t(i); i++'. -/
theorem scan_loop {c : Int → Bool} {f : Int → Int} {p : Int → Prop} (n : Nat) (t : Nat → Bool) (hn : (n : Int) ≤ 9223372036854775806) (hc : ∀ i : Nat, i ≤ n → c i = (decide (i < n) && !t i)) (hf : ∀ i : Nat, i < n → f i = iAdd .i64 i 1) (hp : ∀ i : Nat, i ≤ n → p i) :
    LoopOk c f p 0 ∧ loopV c f 0 = (firstAt t n 0 : Nat) := by
  have hle := firstAt_le t n 0
  refine loop_for (firstAt t n 0) (fun k => (k : Int)) rfl (fun k hk => ?_) ⟨hp _ (by omega), ?_⟩
  · have hk' : k < n := by omega
    refine ⟨hp k (by omega), ?_, ?_⟩
    · rw [hc k (by omega), firstAt_no t n 0 k (by omega) hk]; simp [hk']
    · rw [hf k hk', iAdd_i64 (by unfold In64; omega)]; omega
  · rw [hc _ (by omega)]
    by_cases h : firstAt t n 0 < n
    · rw [firstAt_lt t n 0 (by omega)]; simp
    · simp [h]
theorem firstAt_all {t : Nat → Bool} {n : Nat} : firstAt t n 0 = n ↔ ∀ i, i < n → t i = false := by
  constructor
  · intro h i hi; exact firstAt_no t n 0 i (by omega) (by omega)
  · intro h
    have hle := firstAt_le t n 0
    rcases Nat.lt_or_ge (firstAt t n 0) n with h1 | h1
    · have := firstAt_lt t n 0 (by omega); rw [h _ h1] at this; cases this
    · omega

section
variable {α : Type}
theorem set_take (x : List α) (k : Nat) (hk : k < x.length) (d : α) (l : List α) (hl : l.length = x.length) (h : l.take k = x.take k) : (l.set k (x.getD k d)).take (k + 1) = x.take (k + 1) := by
  rw [List.take_add_one, List.take_add_one, List.take_set]
  have : (l.take k).set k (x.getD k d) = l.take k := by
    apply List.set_eq_of_length_le; rw [List.length_take]; exact Nat.min_le_left _ _
  rw [this, h]
  congr 1
  rw [List.getElem?_set_self (by omega), List.getD_eq_getElem?_getD, List.getElem?_eq_getElem hk]
  simp
/-- A copy: 'out := make(n); for i { out[i] = a[i] }'. -/
theorem copy_loop {c : List α × Int → Bool} {f : List α × Int → List α × Int} {p : List α × Int → Prop} (x : List α) (z d : α) (hn : (x.length : Int) ≤ 9223372036854775806)
    (hc : ∀ st, c st = iLt st.2 (lLen x)) (hf : ∀ st, f st = (lSet st.1 (iNat st.2) (lGet x (iNat st.2) d), iAdd .i64 st.2 1))
    (hp : ∀ (l : List α) (i : Nat), l.length = x.length → i ≤ x.length → p (l, i)) :
    LoopOk c f p (lRep (lLen x) z, 0) ∧ (loopV c f (lRep (lLen x) z, 0)).1 = x := by
  have h := loop_inv (c := c) (f := f) (p := p) (fun st => st.1.length = x.length ∧ ∃ i : Nat, st.2 = i ∧ i ≤ x.length ∧ st.1.take i = x.take i) (fun st => x.length - st.2.toNat) (fun st hI => ?_) (x0 := (lRep (lLen x) z, 0)) ⟨by simp [lRep_eq, lLen_eq], 0, rfl, Nat.zero_le _, by simp⟩
  · obtain ⟨h1, ⟨h2, i, h3, h4, h5⟩, h6⟩ := h
    refine ⟨h1, ?_⟩
    rw [hc, h3, iLt_eq, lLen_eq, decide_eq_false_iff_not] at h6
    have : i = x.length := by omega
    subst this
    rw [List.take_length, ← h2, List.take_length] at h5
    exact h5
  · obtain ⟨l, j⟩ := st
    obtain ⟨h2, i, h3, h4, h5⟩ := hI
    simp only at h2 h3 h5
    subst h3
    refine ⟨hp l i h2 h4, fun hcc => ?_⟩
    rw [hc, iLt_eq, lLen_eq, decide_eq_true_eq] at hcc
    simp only at hcc
    have hi : i < x.length := by omega
    rw [hf]
    simp only [lSet_eq, lGet_eq, iNat_eq, Int.toNat_natCast]
    rw [iAdd_i64 (by unfold In64; omega)]
    refine ⟨⟨by simp [h2], i + 1, by omega, by omega, set_take x i hi d l h2 h5⟩, by omega⟩
end

/-- Two lists are compared. -/
theorem eq_loop {α : Type} {c : Int → Bool} {f : Int → Int} {p : Int → Prop} (a b : List α) (d : α) (ne : Nat → Bool) (hl : a.length = b.length) (hne : ∀ i, i < a.length → (ne i = false ↔ a.getD i d = b.getD i d)) (hn : (a.length : Int) ≤ 9223372036854775806) (hc : ∀ i : Nat, i ≤ a.length → c i = (decide (i < a.length) && !ne i)) (hf : ∀ i : Nat, i < a.length → f i = iAdd .i64 i 1) (hp : ∀ i : Nat, i ≤ a.length → p i) :
    LoopOk c f p 0 ∧ (loopV c f 0 < (a.length : Int) ↔ a ≠ b) := by
  obtain ⟨h1, h2⟩ := scan_loop a.length ne hn hc hf hp
  refine ⟨h1, ?_⟩
  rw [h2]
  have hle := firstAt_le ne a.length 0
  constructor
  · intro h hab
    subst hab
    have := firstAt_lt ne a.length 0 (by omega)
    rw [(hne _ (by omega)).2 rfl] at this; cases this
  · intro h
    rcases Nat.lt_or_ge (firstAt ne a.length 0) a.length with h3 | h3
    · omega
    · exfalso; apply h
      have h4 : firstAt ne a.length 0 = a.length := by omega
      rw [firstAt_all] at h4
      refine List.ext_getElem hl fun i hi hi' => ?_
      have := (hne i hi).1 (h4 i hi)
      rw [List.getD_eq_getElem?_getD, List.getD_eq_getElem?_getD, List.getElem?_eq_getElem hi, List.getElem?_eq_getElem hi'] at this
      simpa using this
theorem scan_ok {c : Int → Bool} {f : Int → Int} {p : Int → Prop} (n : Nat) (t : Nat → Bool) (hn : (n : Int) ≤ 9223372036854775806) (hc : ∀ i : Nat, i ≤ n → c i = (decide (i < n) && !t i)) (hf : ∀ i : Nat, i < n → f i = iAdd .i64 i 1) (hp : ∀ i : Nat, i ≤ n → p i) : LoopOk c f p 0 := (scan_loop n t hn hc hf hp).1
theorem scan_v {c : Int → Bool} {f : Int → Int} (n : Nat) (t : Nat → Bool) (hn : (n : Int) ≤ 9223372036854775806) (hc : ∀ i : Nat, i ≤ n → c i = (decide (i < n) && !t i)) (hf : ∀ i : Nat, i < n → f i = iAdd .i64 i 1) : loopV c f 0 = (firstAt t n 0 : Nat) := (scan_loop (p := fun _ => True) n t hn hc hf (fun _ _ => trivial)).2
theorem copy_ok {α : Type} {c : List α × Int → Bool} {f : List α × Int → List α × Int} {p : List α × Int → Prop} (x : List α) (z d : α) (hn : (x.length : Int) ≤ 9223372036854775806)
    (hc : ∀ st, c st = iLt st.2 (lLen x)) (hf : ∀ st, f st = (lSet st.1 (iNat st.2) (lGet x (iNat st.2) d), iAdd .i64 st.2 1))
    (hp : ∀ (l : List α) (i : Nat), l.length = x.length → i ≤ x.length → p (l, i)) : LoopOk c f p (lRep (lLen x) z, 0) := (copy_loop x z d hn hc hf hp).1
theorem copy_v {α : Type} {c : List α × Int → Bool} {f : List α × Int → List α × Int} (x : List α) (z d : α) (hn : (x.length : Int) ≤ 9223372036854775806)
    (hc : ∀ st, c st = iLt st.2 (lLen x)) (hf : ∀ st, f st = (lSet st.1 (iNat st.2) (lGet x (iNat st.2) d), iAdd .i64 st.2 1)) : (loopV c f (lRep (lLen x) z, 0)).1 = x := (copy_loop (p := fun _ => True) x z d hn hc hf (fun _ _ _ _ => trivial)).2
theorem eq_ok {α : Type} {c : Int → Bool} {f : Int → Int} {p : Int → Prop} (a b : List α) (d : α) (ne : Nat → Bool) (hl : a.length = b.length) (hne : ∀ i, i < a.length → (ne i = false ↔ a.getD i d = b.getD i d)) (hn : (a.length : Int) ≤ 9223372036854775806) (hc : ∀ i : Nat, i ≤ a.length → c i = (decide (i < a.length) && !ne i)) (hf : ∀ i : Nat, i < a.length → f i = iAdd .i64 i 1) (hp : ∀ i : Nat, i ≤ a.length → p i) : LoopOk c f p 0 := (eq_loop a b d ne hl hne hn hc hf hp).1
theorem eq_v {α : Type} {c : Int → Bool} {f : Int → Int} (a b : List α) (d : α) (ne : Nat → Bool) (hl : a.length = b.length) (hne : ∀ i, i < a.length → (ne i = false ↔ a.getD i d = b.getD i d)) (hn : (a.length : Int) ≤ 9223372036854775806) (hc : ∀ i : Nat, i ≤ a.length → c i = (decide (i < a.length) && !ne i)) (hf : ∀ i : Nat, i < a.length → f i = iAdd .i64 i 1) : loopV c f 0 < (a.length : Int) ↔ a ≠ b := (eq_loop (p := fun _ => True) a b d ne hl hne hn hc hf (fun _ _ => trivial)).2

/-- A copy whose elements are copied by a function that changes nothing. -/
theorem copyg_loop {α : Type} {c : List α × Int → Bool} {f : List α × Int → List α × Int} {p : List α × Int → Prop} (x : List α) (z d : α) (hn : x.length ≤ 1048576)
    (hc : ∀ st, c st = iLt st.2 (lLen x)) (hf : ∀ (l : List α) (i : Nat), i < x.length → f (l, (i : Int)) = (l.set i (x.getD i d), iAdd .i64 i 1))
    (hp : ∀ (l : List α) (i : Nat), l.length = x.length → i ≤ x.length → p (l, i)) :
    LoopOk c f p (lRep (lLen x) z, 0) ∧ (loopV c f (lRep (lLen x) z, 0)).1 = x := by
  have h := loop_inv (c := c) (f := f) (p := p) (fun st => st.1.length = x.length ∧ ∃ i : Nat, st.2 = i ∧ i ≤ x.length ∧ st.1.take i = x.take i) (fun st => x.length - st.2.toNat) (fun st hI => ?_) (x0 := (lRep (lLen x) z, 0)) ⟨by simp [lRep_eq, lLen_eq], 0, rfl, Nat.zero_le _, by simp⟩
  · obtain ⟨h1, ⟨h2, i, h3, h4, h5⟩, h6⟩ := h
    refine ⟨h1, ?_⟩
    rw [hc, h3, iLt_eq, lLen_eq, decide_eq_false_iff_not] at h6
    have : i = x.length := by omega
    subst this
    rw [List.take_length, ← h2, List.take_length] at h5
    exact h5
  · obtain ⟨l, j⟩ := st
    obtain ⟨h2, i, h3, h4, h5⟩ := hI
    simp only at h2 h3 h5
    subst h3
    refine ⟨hp l i h2 h4, fun hcc => ?_⟩
    rw [hc, iLt_eq, lLen_eq, decide_eq_true_eq] at hcc
    simp only at hcc
    have hi : i < x.length := by omega
    rw [hf l i hi]
    simp only [Int.toNat_natCast]
    rw [iAdd_i64 (by unfold In64; omega)]
    refine ⟨⟨by simp [h2], i + 1, by omega, by omega, set_take x i hi d l h2 h5⟩, by omega⟩
theorem copyg_ok {α : Type} {c : List α × Int → Bool} {f : List α × Int → List α × Int} {p : List α × Int → Prop} (x : List α) (z d : α) (hn : x.length ≤ 1048576)
    (hc : ∀ st, c st = iLt st.2 (lLen x)) (hf : ∀ (l : List α) (i : Nat), i < x.length → f (l, (i : Int)) = (l.set i (x.getD i d), iAdd .i64 i 1))
    (hp : ∀ (l : List α) (i : Nat), l.length = x.length → i ≤ x.length → p (l, i)) : LoopOk c f p (lRep (lLen x) z, 0) := (copyg_loop x z d hn hc hf hp).1
theorem copyg_v {α : Type} {c : List α × Int → Bool} {f : List α × Int → List α × Int} (x : List α) (z d : α) (hn : x.length ≤ 1048576)
    (hc : ∀ st, c st = iLt st.2 (lLen x)) (hf : ∀ (l : List α) (i : Nat), i < x.length → f (l, (i : Int)) = (l.set i (x.getD i d), iAdd .i64 i 1)) : (loopV c f (lRep (lLen x) z, 0)).1 = x := (copyg_loop (p := fun _ => True) x z d hn hc hf (fun _ _ _ _ => trivial)).2
theorem getD_mem {α : Type} (x : List α) (i : Nat) (d : α) (h : i < x.length) : x.getD i d ∈ x := by
  rw [List.getD_eq_getElem?_getD, List.getElem?_eq_getElem h]; exact List.getElem_mem h
theorem roomy_of {n : Int} {w : Nat} (h0 : 0 ≤ n) (h : n ≤ 1048576) (hw : w ≤ 1000) : roomy (n.toNat * w) := by
  show n.toNat * w ≤ 2 ^ 40
  have h1 : n.toNat ≤ 1048576 := by omega
  have := Nat.mul_le_mul h1 hw
  omega
/-- The size of a slice: its elements' sizes are taken off one by one. -/
theorem sz_loop {α : Type} {c : Int × Int → Bool} {f : Int × Int → Int × Int} {p : Int × Int → Prop} (x : List α) (d : α) (S : α → Prop) (g : α → Int → Int) (l0 : Int) (h0 : 0 ≤ l0) (h1 : l0 ≤ 1048576) (hn : x.length ≤ 1048576)
    (hg : ∀ i, i < x.length → ∀ l, 0 ≤ l → l ≤ 1048576 → g (x.getD i d) l < 0 ∨ (0 ≤ g (x.getD i d) l ∧ g (x.getD i d) l ≤ l ∧ S (x.getD i d)))
    (hc : ∀ (l : Int) (i : Nat), i ≤ x.length → c (l, (i : Int)) = (decide (i < x.length) && !decide (g (x.getD i d) l < 0))) (hf : ∀ (l : Int) (i : Nat), i < x.length → f (l, (i : Int)) = (g (x.getD i d) l, iAdd .i64 i 1))
    (hp : ∀ (l : Int) (i : Nat), 0 ≤ l → l ≤ 1048576 → i ≤ x.length → p (l, i)) :
    LoopOk c f p (l0, 0) ∧ ((loopV c f (l0, 0)).2 < (x.length : Int) ∨ (¬ (loopV c f (l0, 0)).2 < (x.length : Int) ∧ 0 ≤ (loopV c f (l0, 0)).1 ∧ (loopV c f (l0, 0)).1 ≤ l0 ∧ ∀ a ∈ x, S a)) := by
  have h := loop_inv (c := c) (f := f) (p := p) (fun st => 0 ≤ st.1 ∧ st.1 ≤ l0 ∧ ∃ i : Nat, st.2 = i ∧ i ≤ x.length ∧ ∀ j, j < i → S (x.getD j d)) (fun st => x.length - st.2.toNat) (fun st hI => ?_) (x0 := (l0, 0)) ⟨h0, Int.le_refl _, 0, rfl, Nat.zero_le _, fun j hj => by omega⟩
  · obtain ⟨k1, ⟨k2, k3, i, k4, k5, k6⟩, k7⟩ := h
    refine ⟨k1, ?_⟩
    rw [k4]
    rcases Nat.lt_or_ge i x.length with hi | hi
    · left; omega
    · right
      refine ⟨by omega, k2, k3, fun a ha => ?_⟩
      obtain ⟨j, hj, rfl⟩ := List.getElem_of_mem ha
      have := k6 j (by omega)
      rw [List.getD_eq_getElem?_getD, List.getElem?_eq_getElem hj] at this
      exact this
  · obtain ⟨l, j⟩ := st
    obtain ⟨k1, k2, i, k3, k4, k5⟩ := hI
    simp only at k1 k2 k3
    subst k3
    refine ⟨hp l i k1 (by omega) k4, fun hcc => ?_⟩
    rw [hc l i k4] at hcc
    simp only [Bool.and_eq_true, decide_eq_true_eq, Bool.not_eq_true', decide_eq_false_iff_not] at hcc
    obtain ⟨hi, hcc⟩ := hcc
    have hgi := (hg i hi l k1 (by omega)).resolve_left hcc
    rw [hf l i hi]
    simp only [Int.toNat_natCast]
    rw [iAdd_i64 (by unfold In64; omega)]
    refine ⟨⟨hgi.1, by omega, i + 1, by omega, by omega, fun j hj => ?_⟩, by omega⟩
    by_cases hji : j = i
    · subst hji; exact hgi.2.2
    · exact k5 j (by omega)
theorem sz_ok {α : Type} {c : Int × Int → Bool} {f : Int × Int → Int × Int} {p : Int × Int → Prop} (x : List α) (d : α) (S : α → Prop) (g : α → Int → Int) (l0 : Int) (h0 : 0 ≤ l0) (h1 : l0 ≤ 1048576) (hn : x.length ≤ 1048576)
    (hg : ∀ i, i < x.length → ∀ l, 0 ≤ l → l ≤ 1048576 → g (x.getD i d) l < 0 ∨ (0 ≤ g (x.getD i d) l ∧ g (x.getD i d) l ≤ l ∧ S (x.getD i d)))
    (hc : ∀ (l : Int) (i : Nat), i ≤ x.length → c (l, (i : Int)) = (decide (i < x.length) && !decide (g (x.getD i d) l < 0))) (hf : ∀ (l : Int) (i : Nat), i < x.length → f (l, (i : Int)) = (g (x.getD i d) l, iAdd .i64 i 1))
    (hp : ∀ (l : Int) (i : Nat), 0 ≤ l → l ≤ 1048576 → i ≤ x.length → p (l, i)) : LoopOk c f p (l0, 0) := (sz_loop x d S g l0 h0 h1 hn hg hc hf hp).1
theorem sz_v {α : Type} {c : Int × Int → Bool} {f : Int × Int → Int × Int} (x : List α) (d : α) (S : α → Prop) (g : α → Int → Int) (l0 : Int) (h0 : 0 ≤ l0) (h1 : l0 ≤ 1048576) (hn : x.length ≤ 1048576)
    (hg : ∀ i, i < x.length → ∀ l, 0 ≤ l → l ≤ 1048576 → g (x.getD i d) l < 0 ∨ (0 ≤ g (x.getD i d) l ∧ g (x.getD i d) l ≤ l ∧ S (x.getD i d)))
    (hc : ∀ (l : Int) (i : Nat), i ≤ x.length → c (l, (i : Int)) = (decide (i < x.length) && !decide (g (x.getD i d) l < 0))) (hf : ∀ (l : Int) (i : Nat), i < x.length → f (l, (i : Int)) = (g (x.getD i d) l, iAdd .i64 i 1)) :
    (loopV c f (l0, 0)).2 < (x.length : Int) ∨ (¬ (loopV c f (l0, 0)).2 < (x.length : Int) ∧ 0 ≤ (loopV c f (l0, 0)).1 ∧ (loopV c f (l0, 0)).1 ≤ l0 ∧ ∀ a ∈ x, S a) := (sz_loop (p := fun _ => True) x d S g l0 h0 h1 hn hg hc hf (fun _ _ _ _ _ => trivial)).2
theorem sz_fin {α : Type} {x : List α} {y : Int × Int} {l0 l : Int} {S : α → Prop} (h : l0 ≤ l) (hv : y.2 < (x.length : Int) ∨ (¬ y.2 < (x.length : Int) ∧ 0 ≤ y.1 ∧ y.1 ≤ l0 ∧ ∀ a ∈ x, S a)) :
    bSel (iLt y.2 (lLen x)) (-1) y.1 < 0 ∨ (0 ≤ bSel (iLt y.2 (lLen x)) (-1) y.1 ∧ bSel (iLt y.2 (lLen x)) (-1) y.1 ≤ l ∧ ∀ a ∈ x, S a) := by
  rw [iLt_eq, lLen_eq]
  rcases hv with hv | ⟨hv, h2, h3, h4⟩
  · rw [decide_eq_true hv, bSel_t]; left; omega
  · rw [decide_eq_false hv, bSel_f]; right; exact ⟨h2, by omega, h4⟩
/-- A loop that counts up. -/
theorem cnt_ok {X : Type} {c : X → Bool} {f : X → X} {p : X → Prop} (ix : X → Int) (n : Int) (hn : n ≤ 9223372036854775806) (hc : ∀ x, 0 ≤ ix x → ix x ≤ n → c x = true → ix x < n) (hf : ∀ x, ix (f x) = iAdd .i64 (ix x) 1) (hp : ∀ x, 0 ≤ ix x → ix x ≤ n → p x) {x0 : X} (h0 : 0 ≤ ix x0) (h1 : ix x0 ≤ n) : LoopOk c f p x0 := by
  refine (loop_inv (fun x => 0 ≤ ix x ∧ ix x ≤ n) (fun x => (n - ix x).toNat) (fun x hI => ⟨hp x hI.1 hI.2, fun hcc => ?_⟩) ⟨h0, h1⟩).1
  have := hc x hI.1 hI.2 hcc
  obtain ⟨k1, k2⟩ := hI
  have e := hf x
  rw [iAdd_i64 (by unfold In64; omega)] at e
  refine ⟨by omega, by omega⟩
/-- A search that finds nothing. -/
theorem scan_all {c : Int → Bool} {f : Int → Int} {n : Nat} (h : ¬ loopV c f 0 < (n : Int)) (hn : (n : Int) ≤ 9223372036854775806) (hc : ∀ i : Nat, i ≤ n → c i = true → i < n) (hf : ∀ i : Nat, i < n → f i = iAdd .i64 i 1) : ∀ i : Nat, i < n → c i = true := by
  have hv := scan_v (c := c) (f := f) n (fun i => !c i) hn (fun i hi => by
    by_cases h1 : i < n
    · simp [h1]
    · cases h2 : c i with
      | false => simp [h1]
      | true => exact absurd (hc i hi h2) h1) hf
  rw [hv] at h
  have hle := firstAt_le (fun i => !c i) n 0
  have e : firstAt (fun i => !c i) n 0 = n := by omega
  intro i hi
  have := firstAt_all.1 e i hi
  simpa using this
end Go.Ag
