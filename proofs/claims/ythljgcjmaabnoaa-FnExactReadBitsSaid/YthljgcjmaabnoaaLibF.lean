/-
  Part 6 of what the law FnExactReadBits needs: an abstract semantics proved sound, the program's functions in its form, plain Lean about them. No conditions.
-/
import Derived.Test.YthljgcjmaabnoaaLibE
namespace Go.Ag
set_option linter.unusedSimpArgs false
set_option linter.unusedVariables false
theorem loop_two {X Y : Type} {c : X → Bool} {f : X → X} {p : X → Prop} {d : Y → Bool} {g : Y → Y} {q : Y → Prop} (R : X → Y → Prop) (m : X → Nat)
    (h : ∀ x y, R x y → p x ∧ q y ∧ c x = d y ∧ (c x = true → R (f x) (g y) ∧ m (f x) < m x)) {x0 : X} {y0 : Y} (h0 : R x0 y0) :
    LoopOk c f p x0 ∧ LoopOk d g q y0 ∧ R (loopV c f x0) (loopV d g y0) ∧ c (loopV c f x0) = false := by
  have go : ∀ (n : Nat) (x : X) (y : Y), m x < n → R x y → ∃ u v, LoopTo c f p x u ∧ LoopTo d g q y v ∧ R u v ∧ c u = false := by
    intro n
    induction n with
    | zero => intro x y hm; exact absurd hm (Nat.not_lt_zero _)
    | succ n ih =>
      intro x y hm hR
      obtain ⟨h1, h2, h3, h4⟩ := h x y hR
      cases hc : c x with
      | false => exact ⟨x, y, .stop h1 hc, .stop h2 (by rw [← h3]; exact hc), hR, hc⟩
      | true =>
        obtain ⟨h5, h6⟩ := h4 hc
        obtain ⟨u, v, a1, a2, a3, a4⟩ := ih _ _ (by omega) h5
        exact ⟨u, v, .go h1 hc a1, .go h2 (by rw [← h3]; exact hc) a2, a3, a4⟩
  obtain ⟨u, v, a1, a2, a3, a4⟩ := go _ x0 y0 (Nat.lt_succ_self _) h0
  exact ⟨⟨_, a1⟩, ⟨_, a2⟩, by rw [a1.val, a2.val]; exact a3, by rw [a1.val]; exact a4⟩
theorem wrap_u8 {n : Int} (h0 : 0 ≤ n) (h1 : n < 256) : IntKind.u8.wrap n = n := by
  simp only [IntKind.wrap, IntKind.bits, IntKind.signed, Bool.false_and, Bool.false_eq_true, if_false]
  omega
theorem conv_i64 {n : Int} (h0 : 0 ≤ n) (h1 : n < 9223372036854775808) : iConv .i64 n = n := iConv_i64 (by unfold In64; omega)
theorem and_i64 {a b : Nat} (ha : a < 9223372036854775808) (hb : b < 9223372036854775808) : iAnd .i64 (a : Int) (b : Int) = ((a &&& b : Nat) : Int) := by
  have e : (BitVec.ofInt 64 (a : Int) &&& BitVec.ofInt 64 (b : Int)).toNat = a &&& b := by
    rw [BitVec.ofInt_natCast, BitVec.ofInt_natCast, BitVec.toNat_and, BitVec.toNat_ofNat, BitVec.toNat_ofNat, Nat.mod_eq_of_lt (by omega), Nat.mod_eq_of_lt (by omega)]
  have h : a &&& b ≤ a := Nat.and_le_left
  unfold iAnd
  show IntKind.i64.wrap ((BitVec.ofInt 64 (a : Int) &&& BitVec.ofInt 64 (b : Int)).toNat : Int) = _
  rw [e]
  exact wrap_i64 (by unfold In64; omega)
theorem and_u8 {a b : Nat} (ha : a < 256) (hb : b < 256) : iAnd .u8 (a : Int) (b : Int) = ((a &&& b : Nat) : Int) := by
  have e : (BitVec.ofInt 8 (a : Int) &&& BitVec.ofInt 8 (b : Int)).toNat = a &&& b := by
    rw [BitVec.ofInt_natCast, BitVec.ofInt_natCast, BitVec.toNat_and, BitVec.toNat_ofNat, BitVec.toNat_ofNat, Nat.mod_eq_of_lt (by omega), Nat.mod_eq_of_lt (by omega)]
  have h : a &&& b ≤ a := Nat.and_le_left
  unfold iAnd
  show IntKind.u8.wrap ((BitVec.ofInt 8 (a : Int) &&& BitVec.ofInt 8 (b : Int)).toNat : Int) = _
  rw [e]
  exact wrap_u8 (by omega) (by omega)
theorem shr_i64 (a k : Nat) (h : k ≤ 64) : iShr .i64 (a : Int) (k : Int) = ((a / 2 ^ k : Nat) : Int) := by
  unfold iShr
  show Int.fdiv (a : Int) (2 ^ min (k : Int).toNat 64) = _
  rw [Int.toNat_natCast, Nat.min_eq_left h, Int.fdiv_eq_ediv_of_nonneg _ (by exact_mod_cast Nat.zero_le _)]
  norm_cast
theorem shr_u8 (a k : Nat) (h : k ≤ 8) : iShr .u8 (a : Int) (k : Int) = ((a / 2 ^ k : Nat) : Int) := by
  unfold iShr
  show Int.fdiv (a : Int) (2 ^ min (k : Int).toNat 8) = _
  rw [Int.toNat_natCast, Nat.min_eq_left h, Int.fdiv_eq_ediv_of_nonneg _ (by exact_mod_cast Nat.zero_le _)]
  norm_cast
def Bytes (x : List Int) : Prop := ∀ a ∈ x, 0 ≤ a ∧ a < 256
theorem Bytes.get {x : List Int} (h : Bytes x) (i : Nat) : ∃ n : Nat, n < 256 ∧ x.getD i 0 = (n : Int) := by
  by_cases hi : i < x.length
  · obtain ⟨h0, h1⟩ := h _ (getD_mem x i 0 hi)
    exact ⟨(x.getD i 0).toNat, by omega, by omega⟩
  · exact ⟨0, by omega, by rw [List.getD_eq_getElem?_getD, List.getElem?_eq_none (by omega)]; rfl⟩
theorem Bytes.of {x : List Int} (h : CT.wf (.sl (.one (.int .u8))) x) : Bytes x := by
  intro a ha
  have := h.2 a ha
  simp only [RT.wf, CT.wf] at this
  have h : IntKind.u8.min ≤ a ∧ a ≤ IntKind.u8.max := by simpa [Lit.wf] using this
  have e1 : IntKind.u8.min = 0 := by decide
  have e2 : IntKind.u8.max = 255 := by decide
  rw [e1, e2] at h
  omega
theorem bit_two {b k : Nat} (hb : b < 256) (hk : k < 8) : iAnd .i64 (iShr .i64 (iConv .i64 (b : Int)) (k : Int)) 1 = iAnd .u8 (iShr .u8 (b : Int) (k : Int)) 1 := by
  rw [conv_i64 (by omega) (by omega), shr_i64 _ _ (by omega), shr_u8 _ _ (by omega)]
  have h : b / 2 ^ k ≤ b := Nat.div_le_self _ _
  exact (and_i64 (b := 1) (by omega) (by omega)).trans (and_u8 (b := 1) (by omega) (by omega)).symm
theorem readBits_loop (x : List Int) (hx : Bytes x) (hl : x.length = 8) : LoopOk lc_spec_ReadBits_1 (lf_spec_ReadBits_1 x) (lp_spec_ReadBits_1 x) (0, []) ∧ LoopOk lc_impl_ReadBits_1 (lf_impl_ReadBits_1 x) (lp_impl_ReadBits_1 x) (1, []) ∧
    (loopV lc_impl_ReadBits_1 (lf_impl_ReadBits_1 x) (1, [])).2 = (loopV lc_spec_ReadBits_1 (lf_spec_ReadBits_1 x) (0, [])).2 ∧ (loopV lc_spec_ReadBits_1 (lf_spec_ReadBits_1 x) (0, [])).2.length ≤ 56 := by
  obtain ⟨a1, a2, ⟨k, h1, h2, h3, h4⟩, a4⟩ := loop_two (c := lc_spec_ReadBits_1) (f := lf_spec_ReadBits_1 x) (p := lp_spec_ReadBits_1 x) (d := lc_impl_ReadBits_1) (g := lf_impl_ReadBits_1 x) (q := lp_impl_ReadBits_1 x) (x0 := ((0 : Int), ([] : List Int))) (y0 := ((1 : Int), ([] : List Int)))
    (fun x y => ∃ k : Nat, k ≤ 56 ∧ x.1 = (k : Int) ∧ x.2.length ≤ k ∧ y = (x.1 + 1, x.2)) (fun x => 56 - x.1.toNat) (by
      rintro ⟨i, l⟩ y ⟨k, hk, rfl, hlen, rfl⟩
      simp only at hlen
      have s1 : iAdd .i64 (k : Int) 1 = (k : Int) + 1 := iAdd_i64 (by unfold In64; omega)
      have s2 : iAdd .i64 1 (iQuo .i64 (k : Int) 8) = ((1 + k / 8 : Nat) : Int) := by rw [iQuo_i64 (by omega) (by unfold In64; omega), iAdd_i64 (by unfold In64; omega)]; omega
      have s3 : iSub .i64 ((k : Int) + 1) 1 = (k : Int) := (iSub_i64 (by unfold In64; omega)).trans (by omega)
      have s4 : iRem (k : Int) 8 = ((k % 8 : Nat) : Int) := by rw [iRem_nn (by omega)]; omega
      have s5 : iAdd .i64 ((k : Int) + 1) 1 = (k : Int) + 1 + 1 := iAdd_i64 (by unfold In64; omega)
      obtain ⟨b, hb, g⟩ := hx.get (1 + k / 8)
      have s6 : iAnd .i64 (iShr .i64 (iConv .i64 (lGet x (iNat ((1 + k / 8 : Nat) : Int)) 0)) ((k % 8 : Nat) : Int)) 1 = iAnd .u8 (iShr .u8 (lGet x (iNat ((1 + k / 8 : Nat) : Int)) 0) ((k % 8 : Nat) : Int)) 1 := by
        rw [lGet_eq, iNat_eq, Int.toNat_natCast, g]; exact bit_two hb (Nat.mod_lt _ (by omega))
      have s7 : iNat ((1 + k / 8 : Nat) : Int) = 1 + k / 8 := by rw [iNat_eq, Int.toNat_natCast]
      have r1 : roomy ((l.length + 1) * 1) := by unfold roomy; omega
      simp only [lc_spec_ReadBits_1, lf_spec_ReadBits_1, lp_spec_ReadBits_1, lc_impl_ReadBits_1, lf_impl_ReadBits_1, lp_impl_ReadBits_1, s1, s2, s3, s4, s5, s6, List.length_cons, List.length_nil, Nat.zero_add]
      refine ⟨⟨fun h => ?_, fun _ => trivial⟩, ⟨fun h => ?_, fun _ => trivial⟩, ?_, fun h => ?_⟩
      · rw [iLt_eq, decide_eq_true_eq] at h
        exact ⟨by omega, ⟨by omega, by omega⟩, by rw [s7]; omega, by omega, by omega, fun _ => r1, fun _ => trivial⟩
      · rw [iLe_eq, decide_eq_true_eq] at h
        exact ⟨by omega, ⟨by omega, by omega⟩, by rw [s7]; omega, by omega, by omega, fun _ => r1, fun _ => trivial⟩
      · rw [iLt_eq, iLe_eq, decide_eq_decide]; omega
      · rw [iLt_eq, decide_eq_true_eq] at h
        refine ⟨⟨k + 1, by omega, by omega, ?_, trivial⟩, by omega⟩
        rw [bSel_eq, lApp_eq]
        split
        · simp only [List.length_append, List.length_cons, List.length_nil]; omega
        · omega) ⟨0, by omega, rfl, by simp, rfl⟩
  exact ⟨a1, a2, by rw [h4], by omega⟩
theorem readBits_two (x : List Int) (hx : Bytes x) : ok_spec_ReadBits x ∧ ok_impl_ReadBits x ∧ v_impl_ReadBits x = v_spec_ReadBits x ∧ (v_spec_ReadBits x).1.2.length ≤ 56 := by
  rw [oe_spec_ReadBits, oe_impl_ReadBits, ve_spec_ReadBits, ve_impl_ReadBits]
  by_cases hl : x.length = 8
  · have e1 : iNe (lLen x) 8 = false := by rw [iNe_eq, lLen_eq]; simp; omega
    obtain ⟨b0, hb0, g0⟩ := hx.get 0
    have e2 : iConv .i64 (lGet x (iNat 0) 0) = lGet x (iNat 0) 0 := by rw [lGet_eq, iNat_eq]; show iConv .i64 (x.getD 0 0) = x.getD 0 0; rw [g0, conv_i64 (by omega) (by omega)]
    obtain ⟨k1, k2, k3, k4⟩ := readBits_loop x hx hl
    have e3 : iNat 0 < x.length := by rw [iNat_eq, hl]; decide
    rw [e2, k3]
    refine ⟨?_, ?_, rfl, ?_⟩
    · simp [e1, hl, e3, k1, iNat_eq]
    · simp [e1, hl, e3, k2, iNat_eq]
    · rw [bSel_eq]; split
      · simp
      · exact k4
  · have e1 : iNe (lLen x) 8 = true := by rw [iNe_eq, lLen_eq]; simp; omega
    simp only [e1, bOr_eq, Bool.true_or, bSel_t]
    simp
theorem eqR (a : Int × List Int) (h : sm_Report a) : ok_laws_eqReport (a, a) ∧ v_laws_eqReport (a, a) = true := ⟨(eq_Report a a h).1, (eq_Report a a h).2.2 rfl⟩
theorem plain_FnExactReadBits (x : List Int) (hw : TuX.wf h_laws_FnExactReadBits x) : ok_laws_FnExactReadBits x ∧ v_laws_FnExactReadBits x = true := by
  rw [oe_laws_FnExactReadBits, ve_laws_FnExactReadBits]
  by_cases hx : x.length ≤ 1048576
  · have hg : iGt (lLen x) 1048576 = false := by rw [iGt_eq, lLen_eq]; simp; omega
    obtain ⟨t1, t2⟩ := to_ByteS x hx
    obtain ⟨r1, r2, r3, r4⟩ := readBits_two x (Bytes.of hw)
    rw [t2, r3]
    have hsm : sm_Report (v_spec_ReadBits x).1 := ⟨by show _ ≤ 1048576; omega, trivial⟩
    obtain ⟨q1, q2⟩ := eqR _ hsm
    obtain ⟨b1, b2⟩ := eq_ByteS x x hx
    obtain ⟨m1, ⟨m2, m3⟩, _, _⟩ := mh_ByteS x hx 1 (by omega) (by omega)
    obtain ⟨n1, ⟨n2, n3⟩, n4, n5⟩ := mh_Report _ hsm 1 (by omega) (by omega)
    have c1 : iLt (mg_laws_markByteS x 1).2 0 = false := by rw [iLt_eq]; simp; omega
    have c2 : iLt (mg_laws_markReport (v_spec_ReadBits x).1 1).2 0 = false := by rw [iLt_eq]; simp; omega
    have b3 := b2.2 rfl
    simp only [hg, t1, r1, r2, q1, q2, b1, b3, m1, n1, n4, n5, c1, c2]
    simp [bOr_eq, bAnd_eq, bNot_eq, bIff_eq, iNe_eq]
    exact n1
  · have hg : iGt (lLen x) 1048576 = true := by rw [iGt_eq, lLen_eq]; simp; omega
    simp only [hg]
    simp [bOr_eq]
end Go.Ag
