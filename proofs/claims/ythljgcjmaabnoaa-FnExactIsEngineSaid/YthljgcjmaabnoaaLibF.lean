/-
  Part 6 of what the law FnExactIsEngine needs: an abstract semantics proved sound, the program's functions in its form, plain Lean about them. No conditions.
-/
import Derived.KernelRfl
import Derived.Test.YthljgcjmaabnoaaLibE
namespace Go.Ag
set_option linter.unusedSimpArgs false
set_option linter.unusedVariables false
theorem ok_TapHold (x) : ok_spec_IsTapHold x := by rw [oe_spec_IsTapHold]; exact ok_spec_IsAction_t _
theorem isHeld_eq (x : List (Int × Int × Int × Int × Int)) : v_spec_IsHeld x = v_impl_IsHeld x := by
  rw [ve_spec_IsHeld, ve_impl_IsHeld]
  have : ∀ {c c' : Int × Int → Bool} {f : Int × Int → Int × Int} {a : Int × Int} {n : Int}, (∀ x, c x = c' x) → bNot (iLt (loopV c f a).2 n) = bNot (iLt (loopV c' f a).2 n) := by
    intro c c' f a n h; rw [funext h]
  apply this
  intro st
  rw [Bool.eq_iff_iff]
  simp only [ve_spec_IsTapHold, isAction_eq, l1In_eq, ve_impl_bit, bNot_eq, bAnd_eq, bOr_eq, iEq_eq, iLt_eq, iGt_eq, Bool.and_eq_true, Bool.or_eq_true, Bool.not_eq_true', Bool.not_eq_false', Bool.and_eq_false_iff, Bool.or_eq_false_iff, decide_eq_true_eq, decide_eq_false_iff_not, Bool.not_eq_true, Bool.not_eq_false, beq_iff_eq, beq_eq_false_iff_ne]
  generalize v_impl_IsAction _ = A
  cases A <;> simp <;> omega
theorem ok_spec_IsHeld_t (x : List (Int × Int × Int × Int × Int)) (h : x.length ≤ 1048576) : ok_spec_IsHeld x := by
  rw [oe_spec_IsHeld]
  refine cnt_ok (fun st => st.2) x.length (by omega) (fun st _ _ hc => ?_) (fun st => rfl) (fun st h0 h1 => ?_) (by simp) (by simp)
  · simp only [bAnd_eq, iLt_eq, lLen_eq, Bool.and_eq_true, decide_eq_true_eq] at hc
    exact hc.1
  · refine ⟨fun hlt => ?_, fun _ => trivial⟩
    simp only [iLt_eq, lLen_eq, decide_eq_true_eq] at hlt
    have h3 : st.2.toNat < x.length := by omega
    simp only [l1In_eq, iNat_eq, h3, h0, hlt, ok_l1In, ok_TapHold, ok_spec_IsAction_t, true_and, implies_true, and_true, bNot_eq, bOr_eq, Bool.and_eq_true, Bool.or_eq_true, Bool.not_eq_true', Bool.not_eq_false', Bool.and_eq_false_iff, Bool.or_eq_false_iff, decide_eq_true_eq, decide_eq_false_iff_not, Bool.not_eq_true, Bool.not_eq_false, beq_iff_eq, beq_eq_false_iff_ne, Bool.not_eq_false', Bool.or_eq_false_iff]
    exact ⟨fun hh => hh.1, fun hh => hh.1.1⟩
theorem ok_impl_IsHeld_t (x : List (Int × Int × Int × Int × Int)) (h : x.length ≤ 1048576) : ok_impl_IsHeld x := by
  rw [oe_impl_IsHeld]
  refine cnt_ok (fun st => st.2) x.length (by omega) (fun st _ _ hc => ?_) (fun st => rfl) (fun st h0 h1 => ?_) (by simp) (by simp)
  · simp only [bAnd_eq, iLt_eq, lLen_eq, Bool.and_eq_true, decide_eq_true_eq] at hc
    exact hc.1
  · refine ⟨fun hlt => ?_, fun _ => trivial⟩
    simp only [iLt_eq, lLen_eq, decide_eq_true_eq] at hlt
    have h3 : st.2.toNat < x.length := by omega
    simp only [oe_impl_bit, iNat_eq, h3, h0, hlt, ok_impl_IsAction_t, true_and, implies_true, and_true, iLt_eq, iGt_eq, bNot_eq, bOr_eq, Bool.and_eq_true, Bool.or_eq_true, Bool.not_eq_true', Bool.not_eq_false', Bool.and_eq_false_iff, Bool.or_eq_false_iff, decide_eq_true_eq, decide_eq_false_iff_not, Bool.not_eq_true, Bool.not_eq_false, beq_iff_eq, beq_eq_false_iff_ne, Bool.not_eq_false', Bool.or_eq_false_iff]
    refine ⟨fun h4 h5 => by omega, fun h4 h5 => by omega⟩
section
set_option maxRecDepth 8000
noncomputable def dc_laws_szActionS : DCode :=
  (.seq [1, 0] (.region [oi 0 4 0])
  (.seq [1] (.region [om 0 5 1,
 on 1 6 0,
 oa 2 7 (.len (.t 6)),
 oa 3 8 (.bin .sub (.t 5) (.t 7)),
 om 4 1 8])
  (.seq [1] (.seq [10, 1] (.region [om 0 9 1,
 oa 1 10 (.bin .lss (.t 9) (.c (.int .i64 0)))])
  (.cond (.t 10) (.seq [4] (.region [oi 0 4 (-1)])
  .ret) .skip))
  (.seq [4] (.region [om 0 11 1,
 om 1 4 11])
  .ret))))
noncomputable def df_laws_szActionS : DFun := ⟨2, 12, 0, true, [.tmp 4], dc_laws_szActionS⟩
noncomputable def pf_laws_szActionS : PFun := df_laws_szActionS.er
noncomputable def f_laws_szActionS : AFun := pf_laws_szActionS.er
@[irreducible] noncomputable def s_laws_szActionS : CallSem := funSem f_laws_szActionS
@[irreducible] noncomputable def p_laws_szActionS : PSem := pfunSem pf_laws_szActionS
theorem sp_laws_szActionS : SoundP s_laws_szActionS p_laws_szActionS := by unfold s_laws_szActionS p_laws_szActionS; exact pfun_sound (f := pf_laws_szActionS) trivial
def h_laws_szActionS : List HT := [.one .frz (.sl (.cons (.int .i64) (.cons (.int .i64) (.cons (.int .i64) (.one (.int .i64)))))), .one .frz (.int .i64)]
def q_laws_szActionS : QT := .one (.one .own (.int .i64))
@[irreducible] noncomputable def v_laws_szActionS (x : (List (Int × Int × Int × Int)) × Int) : Int := (shut fun x => fnV df_laws_szActionS h_laws_szActionS q_laws_szActionS x).1 x
@[irreducible] noncomputable def ok_laws_szActionS (x : (List (Int × Int × Int × Int)) × Int) : Prop := (shut fun x => fnOk df_laws_szActionS h_laws_szActionS q_laws_szActionS x).1 x
theorem vu_laws_szActionS (x : (List (Int × Int × Int × Int)) × Int) : v_laws_szActionS x = fnV df_laws_szActionS h_laws_szActionS q_laws_szActionS x := by unfold v_laws_szActionS; exact congrFun (shut _).2 x
theorem ou_laws_szActionS (x : (List (Int × Int × Int × Int)) × Int) : ok_laws_szActionS x = fnOk df_laws_szActionS h_laws_szActionS q_laws_szActionS x := by unfold ok_laws_szActionS; exact congrFun (shut _).2 x
noncomputable def D_laws_szActionS : DSem := DSemOf h_laws_szActionS q_laws_szActionS ok_laws_szActionS v_laws_szActionS
theorem ck_laws_szActionS (x : (List (Int × Int × Int × Int)) × Int) : fnChk df_laws_szActionS h_laws_szActionS q_laws_szActionS x = true := by kernel_rfl
theorem ob_laws_szActionS : AllD df_laws_szActionS.body.obs := trivial
theorem st_laws_szActionS : fnSt df_laws_szActionS h_laws_szActionS q_laws_szActionS = true := by kernel_rfl
theorem sd_laws_szActionS : SoundD p_laws_szActionS D_laws_szActionS := by unfold p_laws_szActionS; exact soundD_of (f := df_laws_szActionS) (hs := h_laws_szActionS) (q := q_laws_szActionS) ob_laws_szActionS st_laws_szActionS ck_laws_szActionS (fun x h => Eq.mp (ou_laws_szActionS x) h) (fun x => (vu_laws_szActionS x).symm)
noncomputable def dc_laws_szActionSS : DCode :=
  (.seq [1, 0] (.region [oi 0 4 0])
  (.seq [1, 0] (.region [om 0 6 1,
 on 1 7 0,
 oa 2 8 (.len (.t 7)),
 oa 3 9 (.bin .sub (.t 6) (.t 8)),
 om 4 1 9])
  (.seq [1, 0] (.seq [11, 1, 0] (.region [om 0 10 1,
 oa 1 11 (.bin .lss (.t 10) (.c (.int .i64 0)))])
  (.cond (.t 11) (.seq [4] (.region [oi 0 4 (-1)])
  .ret) .skip))
  (.seq [1] (.seq [5, 1, 0] (.region [oi 0 5 0])
  (.block 0 (.loop [0, 1, 5] 1 (.seq [5, 1, 0] (.seq [15, 5, 1, 0] (.region [om 0 12 5,
 on 1 13 0,
 oa 2 14 (.len (.t 13)),
 oa 3 15 (.bin .lss (.t 12) (.t 14))])
  (.cond (.t 15) .skip (.exit 0)))
  (.seq [5, 1, 0] (.block 1 (.seq [5, 1, 0] (.region [on 0 18 0,
 om 1 19 5,
 oa 2 20 (.indexA 1 (.t 18) (.t 19)),
 oa 3 21 (.loadH none (.t 20)),
 om 4 22 1,
 oc 5 23 s_laws_szActionS p_laws_szActionS D_laws_szActionS [(.t 21), (.t 22)],
 om 6 1 23])
  (.seq [25, 5, 1, 0] (.region [om 0 24 1,
 oa 1 25 (.bin .lss (.t 24) (.c (.int .i64 0)))])
  (.cond (.t 25) (.seq [4] (.region [oi 0 4 (-1)])
  .ret) .skip))))
  (.region [om 0 16 5,
 oa 1 17 (.bin .add (.t 16) (.c (.int .i64 1))),
 om 2 5 17]))))))
  (.seq [4] (.region [om 0 26 1,
 om 1 4 26])
  .ret)))))
noncomputable def df_laws_szActionSS : DFun := ⟨2, 27, 0, true, [.tmp 4], dc_laws_szActionSS⟩
noncomputable def pf_laws_szActionSS : PFun := df_laws_szActionSS.er
noncomputable def f_laws_szActionSS : AFun := pf_laws_szActionSS.er
@[irreducible] noncomputable def s_laws_szActionSS : CallSem := funSem f_laws_szActionSS
@[irreducible] noncomputable def p_laws_szActionSS : PSem := pfunSem pf_laws_szActionSS
theorem sp_laws_szActionSS : SoundP s_laws_szActionSS p_laws_szActionSS := by unfold s_laws_szActionSS p_laws_szActionSS; exact pfun_sound (f := pf_laws_szActionSS) ⟨sp_laws_szActionS, trivial⟩
def h_laws_szActionSS : List HT := [.one .frz (.sl (.one (.sl (.cons (.int .i64) (.cons (.int .i64) (.cons (.int .i64) (.one (.int .i64)))))))), .one .frz (.int .i64)]
def q_laws_szActionSS : QT := .one (.one .own (.int .i64))
@[irreducible] noncomputable def v_laws_szActionSS (x : (List (List (Int × Int × Int × Int))) × Int) : Int := (shut fun x => fnV df_laws_szActionSS h_laws_szActionSS q_laws_szActionSS x).1 x
@[irreducible] noncomputable def ok_laws_szActionSS (x : (List (List (Int × Int × Int × Int))) × Int) : Prop := (shut fun x => fnOk df_laws_szActionSS h_laws_szActionSS q_laws_szActionSS x).1 x
theorem vu_laws_szActionSS (x : (List (List (Int × Int × Int × Int))) × Int) : v_laws_szActionSS x = fnV df_laws_szActionSS h_laws_szActionSS q_laws_szActionSS x := by unfold v_laws_szActionSS; exact congrFun (shut _).2 x
theorem ou_laws_szActionSS (x : (List (List (Int × Int × Int × Int))) × Int) : ok_laws_szActionSS x = fnOk df_laws_szActionSS h_laws_szActionSS q_laws_szActionSS x := by unfold ok_laws_szActionSS; exact congrFun (shut _).2 x
noncomputable def D_laws_szActionSS : DSem := DSemOf h_laws_szActionSS q_laws_szActionSS ok_laws_szActionSS v_laws_szActionSS
theorem ck_laws_szActionSS (x : (List (List (Int × Int × Int × Int))) × Int) : fnChk df_laws_szActionSS h_laws_szActionSS q_laws_szActionSS x = true := by kernel_rfl
theorem ob_laws_szActionSS : AllD df_laws_szActionSS.body.obs := ⟨sd_laws_szActionS, trivial⟩
theorem st_laws_szActionSS : fnSt df_laws_szActionSS h_laws_szActionSS q_laws_szActionSS = true := by kernel_rfl
theorem sd_laws_szActionSS : SoundD p_laws_szActionSS D_laws_szActionSS := by unfold p_laws_szActionSS; exact soundD_of (f := df_laws_szActionSS) (hs := h_laws_szActionSS) (q := q_laws_szActionSS) ob_laws_szActionSS st_laws_szActionSS ck_laws_szActionSS (fun x h => Eq.mp (ou_laws_szActionSS x) h) (fun x => (vu_laws_szActionSS x).symm)
noncomputable def dc_laws_szKeymap : DCode :=
  (.seq [2, 1] (.region [oa 0 2 (.boxB 0 2 (.t 0)),
 oi 1 4 0])
  (.seq [1] (.region [oa 0 5 (.fieldA 1 (.t 2)),
 oa 1 6 (.loadB 0 none (.t 5)),
 om 2 7 1,
 oc 3 8 s_laws_szActionSS p_laws_szActionSS D_laws_szActionSS [(.t 6), (.t 7)],
 om 4 1 8])
  (.seq [1] (.seq [10, 1] (.region [om 0 9 1,
 oa 1 10 (.bin .lss (.t 9) (.c (.int .i64 0)))])
  (.cond (.t 10) (.seq [4] (.region [oi 0 4 (-1)])
  .ret) .skip))
  (.seq [4] (.region [om 0 11 1,
 om 1 4 11])
  .ret))))
noncomputable def df_laws_szKeymap : DFun := ⟨2, 12, 1, true, [.tmp 4], dc_laws_szKeymap⟩
noncomputable def pf_laws_szKeymap : PFun := df_laws_szKeymap.er
noncomputable def f_laws_szKeymap : AFun := pf_laws_szKeymap.er
@[irreducible] noncomputable def s_laws_szKeymap : CallSem := funSem f_laws_szKeymap
@[irreducible] noncomputable def p_laws_szKeymap : PSem := pfunSem pf_laws_szKeymap
theorem sp_laws_szKeymap : SoundP s_laws_szKeymap p_laws_szKeymap := by unfold s_laws_szKeymap p_laws_szKeymap; exact pfun_sound (f := pf_laws_szKeymap) ⟨sp_laws_szActionSS, trivial⟩
def h_laws_szKeymap : List HT := [.agg [(.frz, .int .i64), (.frz, .sl (.one (.sl (.cons (.int .i64) (.cons (.int .i64) (.cons (.int .i64) (.one (.int .i64))))))))], .one .frz (.int .i64)]
def q_laws_szKeymap : QT := .one (.one .own (.int .i64))
@[irreducible] noncomputable def v_laws_szKeymap (x : (Int × (List (List (Int × Int × Int × Int)))) × Int) : Int := (shut fun x => fnV df_laws_szKeymap h_laws_szKeymap q_laws_szKeymap x).1 x
@[irreducible] noncomputable def ok_laws_szKeymap (x : (Int × (List (List (Int × Int × Int × Int)))) × Int) : Prop := (shut fun x => fnOk df_laws_szKeymap h_laws_szKeymap q_laws_szKeymap x).1 x
theorem vu_laws_szKeymap (x : (Int × (List (List (Int × Int × Int × Int)))) × Int) : v_laws_szKeymap x = fnV df_laws_szKeymap h_laws_szKeymap q_laws_szKeymap x := by unfold v_laws_szKeymap; exact congrFun (shut _).2 x
theorem ou_laws_szKeymap (x : (Int × (List (List (Int × Int × Int × Int)))) × Int) : ok_laws_szKeymap x = fnOk df_laws_szKeymap h_laws_szKeymap q_laws_szKeymap x := by unfold ok_laws_szKeymap; exact congrFun (shut _).2 x
noncomputable def D_laws_szKeymap : DSem := DSemOf h_laws_szKeymap q_laws_szKeymap ok_laws_szKeymap v_laws_szKeymap
theorem ck_laws_szKeymap (x : (Int × (List (List (Int × Int × Int × Int)))) × Int) : fnChk df_laws_szKeymap h_laws_szKeymap q_laws_szKeymap x = true := by kernel_rfl
theorem ob_laws_szKeymap : AllD df_laws_szKeymap.body.obs := ⟨sd_laws_szActionSS, trivial⟩
theorem st_laws_szKeymap : fnSt df_laws_szKeymap h_laws_szKeymap q_laws_szKeymap = true := by kernel_rfl
theorem sd_laws_szKeymap : SoundD p_laws_szKeymap D_laws_szKeymap := by unfold p_laws_szKeymap; exact soundD_of (f := df_laws_szKeymap) (hs := h_laws_szKeymap) (q := q_laws_szKeymap) ob_laws_szKeymap st_laws_szKeymap ck_laws_szKeymap (fun x h => Eq.mp (ou_laws_szKeymap x) h) (fun x => (vu_laws_szKeymap x).symm)
noncomputable def dc_laws_toActionS : DCode :=
  (.seq [0] (.region [oa 0 2 (.mv (.c .nils))])
  (.seq [3, 0] (.region [on 0 5 0,
 oa 1 6 (.len (.t 5)),
 ⟨2, some 7, .a false (.mkSlice 4 [(.int .i64 0), (.int .i64 0), (.int .i64 0), (.int .i64 0)] (.t 6)) (some (.cons (.int .i64) (.cons (.int .i64) (.cons (.int .i64) (.one (.int .i64)))))), none, []⟩,
 om 3 3 7])
  (.seq [3] (.seq [4, 3, 0] (.region [oi 0 4 0])
  (.block 0 (.loop [0, 3, 4] 1 (.seq [4, 3, 0] (.seq [11, 4, 3, 0] (.region [om 0 8 4,
 on 1 9 0,
 oa 2 10 (.len (.t 9)),
 oa 3 11 (.bin .lss (.t 8) (.t 10))])
  (.cond (.t 11) .skip (.exit 0)))
  (.seq [4, 3, 0] (.block 1 (.region [on 0 14 3,
 om 1 15 4,
 on 2 16 0,
 om 3 17 4,
 oa 4 18 (.indexA 4 (.t 16) (.t 17)),
 oa 5 19 (.loadH (some 4) (.t 18)),
 oc 6 20 s_laws_toAction p_laws_toAction D_laws_toAction [(.t 19)],
 oa 7 21 (.indexA 4 (.t 14) (.t 15)),
 os 8 (.storeH 4 (.t 21) (.t 20))]))
  (.region [om 0 12 4,
 oa 1 13 (.bin .add (.t 12) (.c (.int .i64 1))),
 om 2 4 13]))))))
  (.seq [2] (.region [om 0 22 3,
 om 1 2 22])
  .ret))))
noncomputable def df_laws_toActionS : DFun := ⟨1, 23, 0, false, [.tmp 2], dc_laws_toActionS⟩
noncomputable def pf_laws_toActionS : PFun := df_laws_toActionS.er
noncomputable def f_laws_toActionS : AFun := pf_laws_toActionS.er
@[irreducible] noncomputable def s_laws_toActionS : CallSem := funSem f_laws_toActionS
@[irreducible] noncomputable def p_laws_toActionS : PSem := pfunSem pf_laws_toActionS
theorem sp_laws_toActionS : SoundP s_laws_toActionS p_laws_toActionS := by unfold s_laws_toActionS p_laws_toActionS; exact pfun_sound (f := pf_laws_toActionS) ⟨sp_laws_toAction, trivial⟩
def h_laws_toActionS : List HT := [.one .frz (.sl (.cons (.int .i64) (.cons (.int .i64) (.cons (.int .i64) (.one (.int .i64))))))]
def q_laws_toActionS : QT := .one (.one .own (.sl (.cons (.int .i64) (.cons (.int .i64) (.cons (.int .i64) (.one (.int .i64)))))))
@[irreducible] noncomputable def v_laws_toActionS (x : List (Int × Int × Int × Int)) : List (Int × Int × Int × Int) := (shut fun x => fnV df_laws_toActionS h_laws_toActionS q_laws_toActionS x).1 x
@[irreducible] noncomputable def ok_laws_toActionS (x : List (Int × Int × Int × Int)) : Prop := (shut fun x => fnOk df_laws_toActionS h_laws_toActionS q_laws_toActionS x).1 x
theorem vu_laws_toActionS (x : List (Int × Int × Int × Int)) : v_laws_toActionS x = fnV df_laws_toActionS h_laws_toActionS q_laws_toActionS x := by unfold v_laws_toActionS; exact congrFun (shut _).2 x
theorem ou_laws_toActionS (x : List (Int × Int × Int × Int)) : ok_laws_toActionS x = fnOk df_laws_toActionS h_laws_toActionS q_laws_toActionS x := by unfold ok_laws_toActionS; exact congrFun (shut _).2 x
noncomputable def D_laws_toActionS : DSem := DSemOf h_laws_toActionS q_laws_toActionS ok_laws_toActionS v_laws_toActionS
theorem ck_laws_toActionS (x : List (Int × Int × Int × Int)) : fnChk df_laws_toActionS h_laws_toActionS q_laws_toActionS x = true := by kernel_rfl
theorem ob_laws_toActionS : AllD df_laws_toActionS.body.obs := ⟨sd_laws_toAction, trivial⟩
theorem st_laws_toActionS : fnSt df_laws_toActionS h_laws_toActionS q_laws_toActionS = true := by kernel_rfl
theorem sd_laws_toActionS : SoundD p_laws_toActionS D_laws_toActionS := by unfold p_laws_toActionS; exact soundD_of (f := df_laws_toActionS) (hs := h_laws_toActionS) (q := q_laws_toActionS) ob_laws_toActionS st_laws_toActionS ck_laws_toActionS (fun x h => Eq.mp (ou_laws_toActionS x) h) (fun x => (vu_laws_toActionS x).symm)
noncomputable def dc_laws_toActionSS : DCode :=
  (.seq [0] (.region [oa 0 2 (.mv (.c .nils))])
  (.seq [3, 0] (.region [on 0 5 0,
 oa 1 6 (.len (.t 5)),
 ⟨2, some 7, .a false (.mkSlice 1 [.nils] (.t 6)) (some (.one (.sl (.cons (.int .i64) (.cons (.int .i64) (.cons (.int .i64) (.one (.int .i64)))))))), none, []⟩,
 om 3 3 7])
  (.seq [3] (.seq [4, 3, 0] (.region [oi 0 4 0])
  (.block 0 (.loop [0, 3, 4] 1 (.seq [4, 3, 0] (.seq [11, 4, 3, 0] (.region [om 0 8 4,
 on 1 9 0,
 oa 2 10 (.len (.t 9)),
 oa 3 11 (.bin .lss (.t 8) (.t 10))])
  (.cond (.t 11) .skip (.exit 0)))
  (.seq [4, 3, 0] (.block 1 (.region [on 0 14 3,
 om 1 15 4,
 on 2 16 0,
 om 3 17 4,
 oa 4 18 (.indexA 1 (.t 16) (.t 17)),
 oa 5 19 (.loadH none (.t 18)),
 oc 6 20 s_laws_toActionS p_laws_toActionS D_laws_toActionS [(.t 19)],
 oa 7 21 (.indexA 1 (.t 14) (.t 15)),
 os 8 (.storeH 1 (.t 21) (.t 20))]))
  (.region [om 0 12 4,
 oa 1 13 (.bin .add (.t 12) (.c (.int .i64 1))),
 om 2 4 13]))))))
  (.seq [2] (.region [om 0 22 3,
 om 1 2 22])
  .ret))))
noncomputable def df_laws_toActionSS : DFun := ⟨1, 23, 0, false, [.tmp 2], dc_laws_toActionSS⟩
noncomputable def pf_laws_toActionSS : PFun := df_laws_toActionSS.er
noncomputable def f_laws_toActionSS : AFun := pf_laws_toActionSS.er
@[irreducible] noncomputable def s_laws_toActionSS : CallSem := funSem f_laws_toActionSS
@[irreducible] noncomputable def p_laws_toActionSS : PSem := pfunSem pf_laws_toActionSS
theorem sp_laws_toActionSS : SoundP s_laws_toActionSS p_laws_toActionSS := by unfold s_laws_toActionSS p_laws_toActionSS; exact pfun_sound (f := pf_laws_toActionSS) ⟨sp_laws_toActionS, trivial⟩
def h_laws_toActionSS : List HT := [.one .frz (.sl (.one (.sl (.cons (.int .i64) (.cons (.int .i64) (.cons (.int .i64) (.one (.int .i64))))))))]
def q_laws_toActionSS : QT := .one (.one .own (.sl (.one (.sl (.cons (.int .i64) (.cons (.int .i64) (.cons (.int .i64) (.one (.int .i64)))))))))
@[irreducible] noncomputable def v_laws_toActionSS (x : List (List (Int × Int × Int × Int))) : List (List (Int × Int × Int × Int)) := (shut fun x => fnV df_laws_toActionSS h_laws_toActionSS q_laws_toActionSS x).1 x
@[irreducible] noncomputable def ok_laws_toActionSS (x : List (List (Int × Int × Int × Int))) : Prop := (shut fun x => fnOk df_laws_toActionSS h_laws_toActionSS q_laws_toActionSS x).1 x
theorem vu_laws_toActionSS (x : List (List (Int × Int × Int × Int))) : v_laws_toActionSS x = fnV df_laws_toActionSS h_laws_toActionSS q_laws_toActionSS x := by unfold v_laws_toActionSS; exact congrFun (shut _).2 x
theorem ou_laws_toActionSS (x : List (List (Int × Int × Int × Int))) : ok_laws_toActionSS x = fnOk df_laws_toActionSS h_laws_toActionSS q_laws_toActionSS x := by unfold ok_laws_toActionSS; exact congrFun (shut _).2 x
noncomputable def D_laws_toActionSS : DSem := DSemOf h_laws_toActionSS q_laws_toActionSS ok_laws_toActionSS v_laws_toActionSS
theorem ck_laws_toActionSS (x : List (List (Int × Int × Int × Int))) : fnChk df_laws_toActionSS h_laws_toActionSS q_laws_toActionSS x = true := by kernel_rfl
theorem ob_laws_toActionSS : AllD df_laws_toActionSS.body.obs := ⟨sd_laws_toActionS, trivial⟩
theorem st_laws_toActionSS : fnSt df_laws_toActionSS h_laws_toActionSS q_laws_toActionSS = true := by kernel_rfl
theorem sd_laws_toActionSS : SoundD p_laws_toActionSS D_laws_toActionSS := by unfold p_laws_toActionSS; exact soundD_of (f := df_laws_toActionSS) (hs := h_laws_toActionSS) (q := q_laws_toActionSS) ob_laws_toActionSS st_laws_toActionSS ck_laws_toActionSS (fun x h => Eq.mp (ou_laws_toActionSS x) h) (fun x => (vu_laws_toActionSS x).symm)
noncomputable def dc_laws_toKeymap : DCode :=
  (.seq [2, 1] (.region [oa 0 1 (.boxB 0 2 (.t 0)),
 oa 1 2 (.allocB 1 [(.int .i64 0), .nils])])
  (.seq [3, 2, 1] (.region [oa 0 3 (.allocB 2 [(.int .i64 0), .nils])])
  (.seq [3, 2, 1] (.region [oa 0 4 (.fieldA 0 (.t 1)),
 ob 1 5 (.loadB 0 none (.t 4)),
 oa 2 6 (.fieldA 0 (.t 3)),
 os 3 (.storeB 2 1 (.t 6) (.t 5))])
  (.seq [3, 2] (.region [oa 0 7 (.fieldA 1 (.t 1)),
 oa 1 8 (.loadB 0 none (.t 7)),
 oc 2 9 s_laws_toActionSS p_laws_toActionSS D_laws_toActionSS [(.t 8)],
 oa 3 10 (.fieldA 1 (.t 3)),
 os 4 (.storeB 2 1 (.t 10) (.t 9))])
  (.seq [2] (.region [ob 0 11 (.loadB 2 (some 2) (.t 3)),
 os 1 (.storeB 1 2 (.t 2) (.t 11))])
  .ret)))))
noncomputable def df_laws_toKeymap : DFun := ⟨1, 12, 3, false, [.cell 2 (some 2)], dc_laws_toKeymap⟩
noncomputable def pf_laws_toKeymap : PFun := df_laws_toKeymap.er
noncomputable def f_laws_toKeymap : AFun := pf_laws_toKeymap.er
@[irreducible] noncomputable def s_laws_toKeymap : CallSem := funSem f_laws_toKeymap
@[irreducible] noncomputable def p_laws_toKeymap : PSem := pfunSem pf_laws_toKeymap
theorem sp_laws_toKeymap : SoundP s_laws_toKeymap p_laws_toKeymap := by unfold s_laws_toKeymap p_laws_toKeymap; exact pfun_sound (f := pf_laws_toKeymap) ⟨sp_laws_toActionSS, trivial⟩
def h_laws_toKeymap : List HT := [.agg [(.frz, .int .i64), (.frz, .sl (.one (.sl (.cons (.int .i64) (.cons (.int .i64) (.cons (.int .i64) (.one (.int .i64))))))))]]
def q_laws_toKeymap : QT := .one (.agg [(.own, .int .i64), (.own, .sl (.one (.sl (.cons (.int .i64) (.cons (.int .i64) (.cons (.int .i64) (.one (.int .i64))))))))])
@[irreducible] noncomputable def v_laws_toKeymap (x : Int × (List (List (Int × Int × Int × Int)))) : Int × (List (List (Int × Int × Int × Int))) := (shut fun x => fnV df_laws_toKeymap h_laws_toKeymap q_laws_toKeymap x).1 x
@[irreducible] noncomputable def ok_laws_toKeymap (x : Int × (List (List (Int × Int × Int × Int)))) : Prop := (shut fun x => fnOk df_laws_toKeymap h_laws_toKeymap q_laws_toKeymap x).1 x
theorem vu_laws_toKeymap (x : Int × (List (List (Int × Int × Int × Int)))) : v_laws_toKeymap x = fnV df_laws_toKeymap h_laws_toKeymap q_laws_toKeymap x := by unfold v_laws_toKeymap; exact congrFun (shut _).2 x
theorem ou_laws_toKeymap (x : Int × (List (List (Int × Int × Int × Int)))) : ok_laws_toKeymap x = fnOk df_laws_toKeymap h_laws_toKeymap q_laws_toKeymap x := by unfold ok_laws_toKeymap; exact congrFun (shut _).2 x
noncomputable def D_laws_toKeymap : DSem := DSemOf h_laws_toKeymap q_laws_toKeymap ok_laws_toKeymap v_laws_toKeymap
theorem ck_laws_toKeymap (x : Int × (List (List (Int × Int × Int × Int)))) : fnChk df_laws_toKeymap h_laws_toKeymap q_laws_toKeymap x = true := by kernel_rfl
theorem ob_laws_toKeymap : AllD df_laws_toKeymap.body.obs := ⟨sd_laws_toActionSS, trivial⟩
theorem st_laws_toKeymap : fnSt df_laws_toKeymap h_laws_toKeymap q_laws_toKeymap = true := by kernel_rfl
theorem sd_laws_toKeymap : SoundD p_laws_toKeymap D_laws_toKeymap := by unfold p_laws_toKeymap; exact soundD_of (f := df_laws_toKeymap) (hs := h_laws_toKeymap) (q := q_laws_toKeymap) ob_laws_toKeymap st_laws_toKeymap ck_laws_toKeymap (fun x h => Eq.mp (ou_laws_toKeymap x) h) (fun x => (vu_laws_toKeymap x).symm)
noncomputable def dc_spec_IsKeymap : DCode :=
  (.seq [1] (.region [oa 0 1 (.boxB 0 2 (.t 0)),
 oa 1 2 (.mv (.c (.bool false)))])
  (.seq [1] (.seq [3, 1] (.region [oi 0 3 0])
  (.block 0 (.loop [1, 3] 1 (.seq [3, 1] (.seq [10, 3, 1] (.region [om 0 6 3,
 oa 1 7 (.fieldA 1 (.t 1)),
 oa 2 8 (.loadB 0 none (.t 7)),
 oa 3 9 (.len (.t 8)),
 oa 4 10 (.bin .lss (.t 6) (.t 9))])
  (.cond (.t 10) .skip (.exit 0)))
  (.seq [3, 1] (.block 1 (.seq [3, 1] (.seq [21, 3, 1] (.region [oa 0 13 (.fieldA 1 (.t 1)),
 xA 1 14 (.loadB 0 none (.t 13)) (rg 1),
 om 2 15 3,
 xA 3 16 (.indexA 1 (.t 14) (.t 15)) (rg 3),
 xA 4 17 (.loadH none (.t 16)) (rg 4),
 xA 5 18 (.len (.t 17)) (rg 5),
 oa 6 19 (.fieldA 0 (.t 1)),
 xA 7 20 (.loadB 0 none (.t 19)) [6],
 xA 8 21 (.bin .neq (.t 18) (.t 20)) (rg 8)])
  (.cond (.t 21) (.seq [2] (.region [oa 0 2 (.mv (.c (.bool false)))])
  .ret) .skip))
  (.seq [4, 3, 1] (.region [oi 0 4 0])
  (.block 2 (.loop [1, 3, 4] 1 (.seq [4, 3, 1] (.seq [29, 4, 3, 1] (.region [om 0 22 4,
 oa 1 23 (.fieldA 1 (.t 1)),
 oa 2 24 (.loadB 0 none (.t 23)),
 om 3 25 3,
 oa 4 26 (.indexA 1 (.t 24) (.t 25)),
 oa 5 27 (.loadH none (.t 26)),
 oa 6 28 (.len (.t 27)),
 oa 7 29 (.bin .lss (.t 22) (.t 28))])
  (.cond (.t 29) .skip (.exit 2)))
  (.seq [4, 3, 1] (.block 3 (.seq [5, 4, 3, 1] (.region [oa 0 32 (.fieldA 1 (.t 1)),
 oa 1 33 (.loadB 0 none (.t 32)),
 om 2 34 3,
 oa 3 35 (.indexA 1 (.t 33) (.t 34)),
 oa 4 36 (.loadH none (.t 35)),
 om 5 37 4,
 oa 6 38 (.indexA 4 (.t 36) (.t 37)),
 ob 7 39 (.loadH (some 4) (.t 38)),
 oa 8 5 (.allocB 1 [(.int .i64 0), (.int .i64 0), (.int .i64 0), (.int .i64 0)]),
 os 9 (.storeB 1 4 (.t 5) (.t 39))])
  (.seq [64, 4, 3, 1] (.region [oa 0 40 (.loadB 1 (some 4) (.t 5)),
 oc 1 41 s_spec_IsAction p_spec_IsAction D_spec_IsAction [(.t 40)],
 oa 2 42 (.un .not (.t 41)),
 om 3 43 42,
 og 4 44 (.fieldA 0 (.t 5)) 43 false,
 og 5 45 (.loadB 1 none (.t 44)) 43 false,
 og 6 46 (.bin .eql (.t 45) (.c (.int .i64 1))) 43 false,
 og 7 47 (.mv (.t 46)) 43 false,
 og 8 48 (.mv (.t 3)) 47 true,
 og 9 49 (.bin .eql (.t 48) (.c (.int .i64 0))) 47 true,
 og 10 50 (.pick (.t 47) (.t 49) (.c (.bool false))) 43 false,
 oa 11 51 (.pick (.t 43) (.c (.bool true)) (.t 50)),
 om 12 52 51,
 og 13 53 (.fieldA 0 (.t 5)) 52 false,
 og 14 54 (.loadB 1 none (.t 53)) 52 false,
 og 15 55 (.bin .neq (.t 54) (.c (.int .i64 9))) 52 false,
 og 16 56 (.mv (.t 55)) 52 false,
 og 17 57 (.fieldA 3 (.t 5)) 56 true,
 og 18 58 (.loadB 1 none (.t 57)) 56 true,
 og 19 59 (.fieldA 1 (.t 1)) 56 true,
 og 20 60 (.loadB 0 none (.t 59)) 56 true,
 og 21 61 (.len (.t 60)) 56 true,
 og 22 62 (.bin .geq (.t 58) (.t 61)) 56 true,
 og 23 63 (.pick (.t 56) (.t 62) (.c (.bool false))) 52 false,
 oa 24 64 (.pick (.t 52) (.c (.bool true)) (.t 63))])
  (.cond (.t 64) (.seq [2] (.region [oa 0 2 (.mv (.c (.bool false)))])
  .ret) .skip))))
  (.region [om 0 30 4,
 oa 1 31 (.bin .add (.t 30) (.c (.int .i64 1))),
 om 2 4 31]))))))))
  (.region [om 0 11 3,
 oa 1 12 (.bin .add (.t 11) (.c (.int .i64 1))),
 om 2 3 12]))))))
  (.seq [2] (.region [oa 0 65 (.fieldA 0 (.t 1)),
 oa 1 66 (.loadB 0 none (.t 65)),
 oc 2 67 s_spec_l1In p_spec_l1In D_spec_l1In [(.t 66), (.c (.int .i64 1)), (.c (.int .i64 32))],
 om 3 68 67,
 og 4 69 (.fieldA 1 (.t 1)) 68 true,
 og 5 70 (.loadB 0 none (.t 69)) 68 true,
 og 6 71 (.len (.t 70)) 68 true,
 ⟨7, some 72, .call false s_spec_l1In p_spec_l1In D_spec_l1In [(.t 71), (.c (.int .i64 1)), (.c (.int .i64 4))], (some (68, true)), []⟩,
 oa 8 73 (.pick (.t 68) (.t 72) (.c (.bool false))),
 om 9 2 73])
  .ret)))
noncomputable def df_spec_IsKeymap : DFun := ⟨1, 74, 2, true, [.tmp 2], dc_spec_IsKeymap⟩
noncomputable def pf_spec_IsKeymap : PFun := df_spec_IsKeymap.er
noncomputable def f_spec_IsKeymap : AFun := pf_spec_IsKeymap.er
@[irreducible] noncomputable def s_spec_IsKeymap : CallSem := funSem f_spec_IsKeymap
@[irreducible] noncomputable def p_spec_IsKeymap : PSem := pfunSem pf_spec_IsKeymap
theorem sp_spec_IsKeymap : SoundP s_spec_IsKeymap p_spec_IsKeymap := by unfold s_spec_IsKeymap p_spec_IsKeymap; exact pfun_sound (f := pf_spec_IsKeymap) ⟨sp_spec_IsAction, sp_spec_l1In, sp_spec_l1In, trivial⟩
def h_spec_IsKeymap : List HT := [.agg [(.frz, .int .i64), (.frz, .sl (.one (.sl (.cons (.int .i64) (.cons (.int .i64) (.cons (.int .i64) (.one (.int .i64))))))))]]
def q_spec_IsKeymap : QT := .one (.one .own (.bool))
@[irreducible] noncomputable def v_spec_IsKeymap (x : Int × (List (List (Int × Int × Int × Int)))) : Bool := (shut fun x => fnV df_spec_IsKeymap h_spec_IsKeymap q_spec_IsKeymap x).1 x
@[irreducible] noncomputable def ok_spec_IsKeymap (x : Int × (List (List (Int × Int × Int × Int)))) : Prop := (shut fun x => fnOk df_spec_IsKeymap h_spec_IsKeymap q_spec_IsKeymap x).1 x
theorem vu_spec_IsKeymap (x : Int × (List (List (Int × Int × Int × Int)))) : v_spec_IsKeymap x = fnV df_spec_IsKeymap h_spec_IsKeymap q_spec_IsKeymap x := by unfold v_spec_IsKeymap; exact congrFun (shut _).2 x
theorem ou_spec_IsKeymap (x : Int × (List (List (Int × Int × Int × Int)))) : ok_spec_IsKeymap x = fnOk df_spec_IsKeymap h_spec_IsKeymap q_spec_IsKeymap x := by unfold ok_spec_IsKeymap; exact congrFun (shut _).2 x
noncomputable def D_spec_IsKeymap : DSem := DSemOf h_spec_IsKeymap q_spec_IsKeymap ok_spec_IsKeymap v_spec_IsKeymap
theorem ck_spec_IsKeymap (x : Int × (List (List (Int × Int × Int × Int)))) : fnChk df_spec_IsKeymap h_spec_IsKeymap q_spec_IsKeymap x = true := by kernel_rfl
theorem ob_spec_IsKeymap : AllD df_spec_IsKeymap.body.obs := ⟨sd_spec_IsAction, sd_spec_l1In, sd_spec_l1In, trivial⟩
theorem st_spec_IsKeymap : fnSt df_spec_IsKeymap h_spec_IsKeymap q_spec_IsKeymap = true := by kernel_rfl
theorem sd_spec_IsKeymap : SoundD p_spec_IsKeymap D_spec_IsKeymap := by unfold p_spec_IsKeymap; exact soundD_of (f := df_spec_IsKeymap) (hs := h_spec_IsKeymap) (q := q_spec_IsKeymap) ob_spec_IsKeymap st_spec_IsKeymap ck_spec_IsKeymap (fun x h => Eq.mp (ou_spec_IsKeymap x) h) (fun x => (vu_spec_IsKeymap x).symm)
noncomputable def dc_impl_IsKeymap : DCode :=
  (.seq [1] (.region [oa 0 1 (.boxB 0 2 (.t 0)),
 oa 1 2 (.mv (.c (.bool false)))])
  (.seq [1] (.seq [26, 1] (.region [oa 0 7 (.fieldA 0 (.t 1)),
 oa 1 8 (.loadB 0 none (.t 7)),
 oa 2 9 (.bin .lss (.t 8) (.c (.int .i64 1))),
 om 3 10 9,
 og 4 11 (.fieldA 0 (.t 1)) 10 false,
 og 5 12 (.loadB 0 none (.t 11)) 10 false,
 og 6 13 (.bin .gtr (.t 12) (.c (.int .i64 32))) 10 false,
 oa 7 14 (.pick (.t 10) (.c (.bool true)) (.t 13)),
 om 8 15 14,
 og 9 16 (.fieldA 1 (.t 1)) 15 false,
 og 10 17 (.loadB 0 none (.t 16)) 15 false,
 og 11 18 (.len (.t 17)) 15 false,
 og 12 19 (.bin .lss (.t 18) (.c (.int .i64 1))) 15 false,
 oa 13 20 (.pick (.t 15) (.c (.bool true)) (.t 19)),
 om 14 21 20,
 og 15 22 (.fieldA 1 (.t 1)) 21 false,
 og 16 23 (.loadB 0 none (.t 22)) 21 false,
 og 17 24 (.len (.t 23)) 21 false,
 og 18 25 (.bin .gtr (.t 24) (.c (.int .i64 4))) 21 false,
 oa 19 26 (.pick (.t 21) (.c (.bool true)) (.t 25))])
  (.cond (.t 26) (.seq [2] (.region [oa 0 2 (.mv (.c (.bool false)))])
  .ret) .skip))
  (.seq [] (.seq [30, 29, 28, 1] (.region [oa 0 27 (.fieldA 1 (.t 1)),
 oa 1 28 (.loadB 0 none (.t 27)),
 oa 2 29 (.len (.t 28)),
 oi 3 30 0])
  (.block 0 (.loop [1, 28, 29, 30] 1 (.seq [31, 30, 29, 28, 1] (.region [oa 0 31 (.bin .lss (.t 30) (.t 29))])
  (.seq [30, 29, 28, 1] (.cond (.t 31) .skip (.exit 0))
  (.seq [30, 29, 28, 1] (.block 1 (.seq [30, 29, 28, 4, 3, 1] (.region [om 0 32 30,
 oa 1 33 (.indexA 1 (.t 28) (.t 30)),
 oa 2 34 (.loadH none (.t 33)),
 om 3 3 32,
 on 4 4 34])
  (.seq [30, 29, 28, 4, 3, 1] (.seq [39, 30, 29, 28, 4, 3, 1] (.region [on 0 35 4,
 oa 1 36 (.len (.t 35)),
 oa 2 37 (.fieldA 0 (.t 1)),
 oa 3 38 (.loadB 0 none (.t 37)),
 oa 4 39 (.bin .neq (.t 36) (.t 38))])
  (.cond (.t 39) (.seq [2] (.region [oa 0 2 (.mv (.c (.bool false)))])
  .ret) .skip))
  (.seq [42, 41, 40, 30, 29, 28, 3, 1] (.region [on 0 40 4,
 oa 1 41 (.len (.t 40)),
 oi 2 42 0])
  (.block 2 (.loop [1, 3, 28, 29, 30, 40, 41, 42] 1 (.seq [43, 42, 41, 40, 30, 29, 28, 3, 1] (.region [oa 0 43 (.bin .lss (.t 42) (.t 41))])
  (.seq [42, 41, 40, 30, 29, 28, 3, 1] (.cond (.t 43) .skip (.exit 2))
  (.seq [42, 41, 40, 30, 29, 28, 3, 1] (.block 3 (.seq [42, 41, 40, 30, 29, 28, 6, 3, 1] (.region [oa 0 44 (.indexA 4 (.t 40) (.t 42)),
 ob 1 45 (.loadH (some 4) (.t 44)),
 oa 2 6 (.allocB 1 [(.int .i64 0), (.int .i64 0), (.int .i64 0), (.int .i64 0)]),
 os 3 (.storeB 1 4 (.t 6) (.t 45))])
  (.seq [70, 42, 41, 40, 30, 29, 28, 3, 1] (.region [oa 0 46 (.loadB 1 (some 4) (.t 6)),
 oc 1 47 s_impl_IsAction p_impl_IsAction D_impl_IsAction [(.t 46)],
 oa 2 48 (.un .not (.t 47)),
 om 3 49 48,
 og 4 50 (.mv (.t 3)) 49 false,
 og 5 51 (.bin .eql (.t 50) (.c (.int .i64 0))) 49 false,
 og 6 52 (.mv (.t 51)) 49 false,
 og 7 53 (.fieldA 0 (.t 6)) 52 true,
 og 8 54 (.loadB 1 none (.t 53)) 52 true,
 og 9 55 (.bin .eql (.t 54) (.c (.int .i64 1))) 52 true,
 og 10 56 (.pick (.t 52) (.t 55) (.c (.bool false))) 49 false,
 oa 11 57 (.pick (.t 49) (.c (.bool true)) (.t 56)),
 om 12 58 57,
 og 13 59 (.fieldA 0 (.t 6)) 58 false,
 og 14 60 (.loadB 1 none (.t 59)) 58 false,
 og 15 61 (.bin .neq (.t 60) (.c (.int .i64 9))) 58 false,
 og 16 62 (.mv (.t 61)) 58 false,
 og 17 63 (.fieldA 3 (.t 6)) 62 true,
 og 18 64 (.loadB 1 none (.t 63)) 62 true,
 og 19 65 (.fieldA 1 (.t 1)) 62 true,
 og 20 66 (.loadB 0 none (.t 65)) 62 true,
 og 21 67 (.len (.t 66)) 62 true,
 og 22 68 (.bin .geq (.t 64) (.t 67)) 62 true,
 og 23 69 (.pick (.t 62) (.t 68) (.c (.bool false))) 58 false,
 oa 24 70 (.pick (.t 58) (.c (.bool true)) (.t 69))])
  (.cond (.t 70) (.seq [2] (.region [oa 0 2 (.mv (.c (.bool false)))])
  .ret) .skip))))
  (.region [oa 0 71 (.bin .add (.t 42) (.c (.int .i64 1))),
 om 1 42 71]))))))))))
  (.region [oa 0 72 (.bin .add (.t 30) (.c (.int .i64 1))),
 om 1 30 72])))))))
  (.seq [2] (.region [oa 0 2 (.mv (.c (.bool true)))])
  .ret))))
noncomputable def df_impl_IsKeymap : DFun := ⟨1, 73, 2, true, [.tmp 2], dc_impl_IsKeymap⟩
noncomputable def pf_impl_IsKeymap : PFun := df_impl_IsKeymap.er
noncomputable def f_impl_IsKeymap : AFun := pf_impl_IsKeymap.er
@[irreducible] noncomputable def s_impl_IsKeymap : CallSem := funSem f_impl_IsKeymap
@[irreducible] noncomputable def p_impl_IsKeymap : PSem := pfunSem pf_impl_IsKeymap
theorem sp_impl_IsKeymap : SoundP s_impl_IsKeymap p_impl_IsKeymap := by unfold s_impl_IsKeymap p_impl_IsKeymap; exact pfun_sound (f := pf_impl_IsKeymap) ⟨sp_impl_IsAction, trivial⟩
def h_impl_IsKeymap : List HT := [.agg [(.frz, .int .i64), (.frz, .sl (.one (.sl (.cons (.int .i64) (.cons (.int .i64) (.cons (.int .i64) (.one (.int .i64))))))))]]
def q_impl_IsKeymap : QT := .one (.one .own (.bool))
@[irreducible] noncomputable def v_impl_IsKeymap (x : Int × (List (List (Int × Int × Int × Int)))) : Bool := (shut fun x => fnV df_impl_IsKeymap h_impl_IsKeymap q_impl_IsKeymap x).1 x
@[irreducible] noncomputable def ok_impl_IsKeymap (x : Int × (List (List (Int × Int × Int × Int)))) : Prop := (shut fun x => fnOk df_impl_IsKeymap h_impl_IsKeymap q_impl_IsKeymap x).1 x
theorem vu_impl_IsKeymap (x : Int × (List (List (Int × Int × Int × Int)))) : v_impl_IsKeymap x = fnV df_impl_IsKeymap h_impl_IsKeymap q_impl_IsKeymap x := by unfold v_impl_IsKeymap; exact congrFun (shut _).2 x
theorem ou_impl_IsKeymap (x : Int × (List (List (Int × Int × Int × Int)))) : ok_impl_IsKeymap x = fnOk df_impl_IsKeymap h_impl_IsKeymap q_impl_IsKeymap x := by unfold ok_impl_IsKeymap; exact congrFun (shut _).2 x
noncomputable def D_impl_IsKeymap : DSem := DSemOf h_impl_IsKeymap q_impl_IsKeymap ok_impl_IsKeymap v_impl_IsKeymap
theorem ck_impl_IsKeymap (x : Int × (List (List (Int × Int × Int × Int)))) : fnChk df_impl_IsKeymap h_impl_IsKeymap q_impl_IsKeymap x = true := by kernel_rfl
theorem ob_impl_IsKeymap : AllD df_impl_IsKeymap.body.obs := ⟨sd_impl_IsAction, trivial⟩
theorem st_impl_IsKeymap : fnSt df_impl_IsKeymap h_impl_IsKeymap q_impl_IsKeymap = true := by kernel_rfl
theorem sd_impl_IsKeymap : SoundD p_impl_IsKeymap D_impl_IsKeymap := by unfold p_impl_IsKeymap; exact soundD_of (f := df_impl_IsKeymap) (hs := h_impl_IsKeymap) (q := q_impl_IsKeymap) ob_impl_IsKeymap st_impl_IsKeymap ck_impl_IsKeymap (fun x h => Eq.mp (ou_impl_IsKeymap x) h) (fun x => (vu_impl_IsKeymap x).symm)
noncomputable def dc_laws_eqActionS : DCode :=
  (.seq [1, 0] (.region [oa 0 4 (.mv (.c (.bool false)))])
  (.seq [1, 0] (.seq [10, 1, 0] (.region [on 0 6 0,
 oa 1 7 (.len (.t 6)),
 on 2 8 1,
 oa 3 9 (.len (.t 8)),
 oa 4 10 (.bin .neq (.t 7) (.t 9))])
  (.cond (.t 10) (.seq [4] (.region [oa 0 4 (.mv (.c (.bool false)))])
  .ret) .skip))
  (.seq [] (.seq [5, 1, 0] (.region [oi 0 5 0])
  (.block 0 (.loop [0, 1, 5] 1 (.seq [5, 1, 0] (.seq [14, 5, 1, 0] (.region [om 0 11 5,
 on 1 12 0,
 oa 2 13 (.len (.t 12)),
 oa 3 14 (.bin .lss (.t 11) (.t 13))])
  (.cond (.t 14) .skip (.exit 0)))
  (.seq [5, 1, 0] (.block 1 (.seq [26, 5, 1, 0] (.region [on 0 17 0,
 om 1 18 5,
 xA 2 19 (.indexA 4 (.t 17) (.t 18)) (rg 2),
 xA 3 20 (.loadH (some 4) (.t 19)) (rg 3),
 on 4 21 1,
 om 5 22 5,
 xA 6 23 (.indexA 4 (.t 21) (.t 22)) [4, 5],
 xA 7 24 (.loadH (some 4) (.t 23)) [4, 5, 6],
 xC 8 25 s_laws_eqAction p_laws_eqAction D_laws_eqAction [(.t 20), (.t 24)] (rg 8),
 xA 9 26 (.un .not (.t 25)) (rg 9)])
  (.cond (.t 26) (.seq [4] (.region [oa 0 4 (.mv (.c (.bool false)))])
  .ret) .skip)))
  (.region [om 0 15 5,
 oa 1 16 (.bin .add (.t 15) (.c (.int .i64 1))),
 om 2 5 16]))))))
  (.seq [4] (.region [oa 0 4 (.mv (.c (.bool true)))])
  .ret))))
noncomputable def df_laws_eqActionS : DFun := ⟨2, 27, 0, true, [.tmp 4], dc_laws_eqActionS⟩
noncomputable def pf_laws_eqActionS : PFun := df_laws_eqActionS.er
noncomputable def f_laws_eqActionS : AFun := pf_laws_eqActionS.er
@[irreducible] noncomputable def s_laws_eqActionS : CallSem := funSem f_laws_eqActionS
@[irreducible] noncomputable def p_laws_eqActionS : PSem := pfunSem pf_laws_eqActionS
theorem sp_laws_eqActionS : SoundP s_laws_eqActionS p_laws_eqActionS := by unfold s_laws_eqActionS p_laws_eqActionS; exact pfun_sound (f := pf_laws_eqActionS) ⟨sp_laws_eqAction, trivial⟩
def h_laws_eqActionS : List HT := [.one .frz (.sl (.cons (.int .i64) (.cons (.int .i64) (.cons (.int .i64) (.one (.int .i64)))))), .one .frz (.sl (.cons (.int .i64) (.cons (.int .i64) (.cons (.int .i64) (.one (.int .i64))))))]
def q_laws_eqActionS : QT := .one (.one .own (.bool))
@[irreducible] noncomputable def v_laws_eqActionS (x : (List (Int × Int × Int × Int)) × (List (Int × Int × Int × Int))) : Bool := (shut fun x => fnV df_laws_eqActionS h_laws_eqActionS q_laws_eqActionS x).1 x
@[irreducible] noncomputable def ok_laws_eqActionS (x : (List (Int × Int × Int × Int)) × (List (Int × Int × Int × Int))) : Prop := (shut fun x => fnOk df_laws_eqActionS h_laws_eqActionS q_laws_eqActionS x).1 x
theorem vu_laws_eqActionS (x : (List (Int × Int × Int × Int)) × (List (Int × Int × Int × Int))) : v_laws_eqActionS x = fnV df_laws_eqActionS h_laws_eqActionS q_laws_eqActionS x := by unfold v_laws_eqActionS; exact congrFun (shut _).2 x
theorem ou_laws_eqActionS (x : (List (Int × Int × Int × Int)) × (List (Int × Int × Int × Int))) : ok_laws_eqActionS x = fnOk df_laws_eqActionS h_laws_eqActionS q_laws_eqActionS x := by unfold ok_laws_eqActionS; exact congrFun (shut _).2 x
noncomputable def D_laws_eqActionS : DSem := DSemOf h_laws_eqActionS q_laws_eqActionS ok_laws_eqActionS v_laws_eqActionS
theorem ck_laws_eqActionS (x : (List (Int × Int × Int × Int)) × (List (Int × Int × Int × Int))) : fnChk df_laws_eqActionS h_laws_eqActionS q_laws_eqActionS x = true := by kernel_rfl
theorem ob_laws_eqActionS : AllD df_laws_eqActionS.body.obs := ⟨sd_laws_eqAction, trivial⟩
theorem st_laws_eqActionS : fnSt df_laws_eqActionS h_laws_eqActionS q_laws_eqActionS = true := by kernel_rfl
theorem sd_laws_eqActionS : SoundD p_laws_eqActionS D_laws_eqActionS := by unfold p_laws_eqActionS; exact soundD_of (f := df_laws_eqActionS) (hs := h_laws_eqActionS) (q := q_laws_eqActionS) ob_laws_eqActionS st_laws_eqActionS ck_laws_eqActionS (fun x h => Eq.mp (ou_laws_eqActionS x) h) (fun x => (vu_laws_eqActionS x).symm)
noncomputable def dc_laws_eqActionSS : DCode :=
  (.seq [1, 0] (.region [oa 0 4 (.mv (.c (.bool false)))])
  (.seq [1, 0] (.seq [10, 1, 0] (.region [on 0 6 0,
 oa 1 7 (.len (.t 6)),
 on 2 8 1,
 oa 3 9 (.len (.t 8)),
 oa 4 10 (.bin .neq (.t 7) (.t 9))])
  (.cond (.t 10) (.seq [4] (.region [oa 0 4 (.mv (.c (.bool false)))])
  .ret) .skip))
  (.seq [] (.seq [5, 1, 0] (.region [oi 0 5 0])
  (.block 0 (.loop [0, 1, 5] 1 (.seq [5, 1, 0] (.seq [14, 5, 1, 0] (.region [om 0 11 5,
 on 1 12 0,
 oa 2 13 (.len (.t 12)),
 oa 3 14 (.bin .lss (.t 11) (.t 13))])
  (.cond (.t 14) .skip (.exit 0)))
  (.seq [5, 1, 0] (.block 1 (.seq [26, 5, 1, 0] (.region [on 0 17 0,
 om 1 18 5,
 xA 2 19 (.indexA 1 (.t 17) (.t 18)) (rg 2),
 xA 3 20 (.loadH none (.t 19)) (rg 3),
 on 4 21 1,
 om 5 22 5,
 xA 6 23 (.indexA 1 (.t 21) (.t 22)) [4, 5],
 xA 7 24 (.loadH none (.t 23)) [4, 5, 6],
 xC 8 25 s_laws_eqActionS p_laws_eqActionS D_laws_eqActionS [(.t 20), (.t 24)] (rg 8),
 xA 9 26 (.un .not (.t 25)) (rg 9)])
  (.cond (.t 26) (.seq [4] (.region [oa 0 4 (.mv (.c (.bool false)))])
  .ret) .skip)))
  (.region [om 0 15 5,
 oa 1 16 (.bin .add (.t 15) (.c (.int .i64 1))),
 om 2 5 16]))))))
  (.seq [4] (.region [oa 0 4 (.mv (.c (.bool true)))])
  .ret))))
noncomputable def df_laws_eqActionSS : DFun := ⟨2, 27, 0, true, [.tmp 4], dc_laws_eqActionSS⟩
noncomputable def pf_laws_eqActionSS : PFun := df_laws_eqActionSS.er
noncomputable def f_laws_eqActionSS : AFun := pf_laws_eqActionSS.er
@[irreducible] noncomputable def s_laws_eqActionSS : CallSem := funSem f_laws_eqActionSS
@[irreducible] noncomputable def p_laws_eqActionSS : PSem := pfunSem pf_laws_eqActionSS
theorem sp_laws_eqActionSS : SoundP s_laws_eqActionSS p_laws_eqActionSS := by unfold s_laws_eqActionSS p_laws_eqActionSS; exact pfun_sound (f := pf_laws_eqActionSS) ⟨sp_laws_eqActionS, trivial⟩
def h_laws_eqActionSS : List HT := [.one .frz (.sl (.one (.sl (.cons (.int .i64) (.cons (.int .i64) (.cons (.int .i64) (.one (.int .i64)))))))), .one .frz (.sl (.one (.sl (.cons (.int .i64) (.cons (.int .i64) (.cons (.int .i64) (.one (.int .i64))))))))]
def q_laws_eqActionSS : QT := .one (.one .own (.bool))
@[irreducible] noncomputable def v_laws_eqActionSS (x : (List (List (Int × Int × Int × Int))) × (List (List (Int × Int × Int × Int)))) : Bool := (shut fun x => fnV df_laws_eqActionSS h_laws_eqActionSS q_laws_eqActionSS x).1 x
@[irreducible] noncomputable def ok_laws_eqActionSS (x : (List (List (Int × Int × Int × Int))) × (List (List (Int × Int × Int × Int)))) : Prop := (shut fun x => fnOk df_laws_eqActionSS h_laws_eqActionSS q_laws_eqActionSS x).1 x
theorem vu_laws_eqActionSS (x : (List (List (Int × Int × Int × Int))) × (List (List (Int × Int × Int × Int)))) : v_laws_eqActionSS x = fnV df_laws_eqActionSS h_laws_eqActionSS q_laws_eqActionSS x := by unfold v_laws_eqActionSS; exact congrFun (shut _).2 x
theorem ou_laws_eqActionSS (x : (List (List (Int × Int × Int × Int))) × (List (List (Int × Int × Int × Int)))) : ok_laws_eqActionSS x = fnOk df_laws_eqActionSS h_laws_eqActionSS q_laws_eqActionSS x := by unfold ok_laws_eqActionSS; exact congrFun (shut _).2 x
noncomputable def D_laws_eqActionSS : DSem := DSemOf h_laws_eqActionSS q_laws_eqActionSS ok_laws_eqActionSS v_laws_eqActionSS
theorem ck_laws_eqActionSS (x : (List (List (Int × Int × Int × Int))) × (List (List (Int × Int × Int × Int)))) : fnChk df_laws_eqActionSS h_laws_eqActionSS q_laws_eqActionSS x = true := by kernel_rfl
theorem ob_laws_eqActionSS : AllD df_laws_eqActionSS.body.obs := ⟨sd_laws_eqActionS, trivial⟩
theorem st_laws_eqActionSS : fnSt df_laws_eqActionSS h_laws_eqActionSS q_laws_eqActionSS = true := by kernel_rfl
theorem sd_laws_eqActionSS : SoundD p_laws_eqActionSS D_laws_eqActionSS := by unfold p_laws_eqActionSS; exact soundD_of (f := df_laws_eqActionSS) (hs := h_laws_eqActionSS) (q := q_laws_eqActionSS) ob_laws_eqActionSS st_laws_eqActionSS ck_laws_eqActionSS (fun x h => Eq.mp (ou_laws_eqActionSS x) h) (fun x => (vu_laws_eqActionSS x).symm)
noncomputable def dc_laws_eqKeymap : DCode :=
  (.seq [3, 2] (.region [oa 0 2 (.boxB 0 2 (.t 0)),
 oa 1 3 (.boxB 1 2 (.t 1)),
 oa 2 4 (.mv (.c (.bool false)))])
  (.seq [3, 2] (.seq [9, 3, 2] (.region [oa 0 5 (.fieldA 0 (.t 2)),
 oa 1 6 (.loadB 0 none (.t 5)),
 oa 2 7 (.fieldA 0 (.t 3)),
 oa 3 8 (.loadB 1 none (.t 7)),
 oa 4 9 (.bin .neq (.t 6) (.t 8))])
  (.cond (.t 9) (.seq [4] (.region [oa 0 4 (.mv (.c (.bool false)))])
  .ret) .skip))
  (.seq [] (.seq [15] (.region [oa 0 10 (.fieldA 1 (.t 2)),
 oa 1 11 (.loadB 0 none (.t 10)),
 oa 2 12 (.fieldA 1 (.t 3)),
 oa 3 13 (.loadB 1 none (.t 12)),
 oc 4 14 s_laws_eqActionSS p_laws_eqActionSS D_laws_eqActionSS [(.t 11), (.t 13)],
 oa 5 15 (.un .not (.t 14))])
  (.cond (.t 15) (.seq [4] (.region [oa 0 4 (.mv (.c (.bool false)))])
  .ret) .skip))
  (.seq [4] (.region [oa 0 4 (.mv (.c (.bool true)))])
  .ret))))
noncomputable def df_laws_eqKeymap : DFun := ⟨2, 16, 2, true, [.tmp 4], dc_laws_eqKeymap⟩
noncomputable def pf_laws_eqKeymap : PFun := df_laws_eqKeymap.er
noncomputable def f_laws_eqKeymap : AFun := pf_laws_eqKeymap.er
@[irreducible] noncomputable def s_laws_eqKeymap : CallSem := funSem f_laws_eqKeymap
@[irreducible] noncomputable def p_laws_eqKeymap : PSem := pfunSem pf_laws_eqKeymap
theorem sp_laws_eqKeymap : SoundP s_laws_eqKeymap p_laws_eqKeymap := by unfold s_laws_eqKeymap p_laws_eqKeymap; exact pfun_sound (f := pf_laws_eqKeymap) ⟨sp_laws_eqActionSS, trivial⟩
def h_laws_eqKeymap : List HT := [.agg [(.frz, .int .i64), (.frz, .sl (.one (.sl (.cons (.int .i64) (.cons (.int .i64) (.cons (.int .i64) (.one (.int .i64))))))))], .agg [(.frz, .int .i64), (.frz, .sl (.one (.sl (.cons (.int .i64) (.cons (.int .i64) (.cons (.int .i64) (.one (.int .i64))))))))]]
def q_laws_eqKeymap : QT := .one (.one .own (.bool))
@[irreducible] noncomputable def v_laws_eqKeymap (x : (Int × (List (List (Int × Int × Int × Int)))) × (Int × (List (List (Int × Int × Int × Int))))) : Bool := (shut fun x => fnV df_laws_eqKeymap h_laws_eqKeymap q_laws_eqKeymap x).1 x
@[irreducible] noncomputable def ok_laws_eqKeymap (x : (Int × (List (List (Int × Int × Int × Int)))) × (Int × (List (List (Int × Int × Int × Int))))) : Prop := (shut fun x => fnOk df_laws_eqKeymap h_laws_eqKeymap q_laws_eqKeymap x).1 x
theorem vu_laws_eqKeymap (x : (Int × (List (List (Int × Int × Int × Int)))) × (Int × (List (List (Int × Int × Int × Int))))) : v_laws_eqKeymap x = fnV df_laws_eqKeymap h_laws_eqKeymap q_laws_eqKeymap x := by unfold v_laws_eqKeymap; exact congrFun (shut _).2 x
theorem ou_laws_eqKeymap (x : (Int × (List (List (Int × Int × Int × Int)))) × (Int × (List (List (Int × Int × Int × Int))))) : ok_laws_eqKeymap x = fnOk df_laws_eqKeymap h_laws_eqKeymap q_laws_eqKeymap x := by unfold ok_laws_eqKeymap; exact congrFun (shut _).2 x
noncomputable def D_laws_eqKeymap : DSem := DSemOf h_laws_eqKeymap q_laws_eqKeymap ok_laws_eqKeymap v_laws_eqKeymap
theorem ck_laws_eqKeymap (x : (Int × (List (List (Int × Int × Int × Int)))) × (Int × (List (List (Int × Int × Int × Int))))) : fnChk df_laws_eqKeymap h_laws_eqKeymap q_laws_eqKeymap x = true := by kernel_rfl
theorem ob_laws_eqKeymap : AllD df_laws_eqKeymap.body.obs := ⟨sd_laws_eqActionSS, trivial⟩
theorem st_laws_eqKeymap : fnSt df_laws_eqKeymap h_laws_eqKeymap q_laws_eqKeymap = true := by kernel_rfl
theorem sd_laws_eqKeymap : SoundD p_laws_eqKeymap D_laws_eqKeymap := by unfold p_laws_eqKeymap; exact soundD_of (f := df_laws_eqKeymap) (hs := h_laws_eqKeymap) (q := q_laws_eqKeymap) ob_laws_eqKeymap st_laws_eqKeymap ck_laws_eqKeymap (fun x h => Eq.mp (ou_laws_eqKeymap x) h) (fun x => (vu_laws_eqKeymap x).symm)
end
section
set_option maxRecDepth 100000
theorem ve_laws_szActionS (x : (List (Int × Int × Int × Int)) × Int) : v_laws_szActionS x = (bSel (iLt (iSub Go.IntKind.i64 x.2 (lLen x.1)) 0) (-1) (iSub Go.IntKind.i64 x.2 (lLen x.1))) := (vu_laws_szActionS x).trans (by kernel_rfl)
theorem oe_laws_szActionS (x : (List (Int × Int × Int × Int)) × Int) : ok_laws_szActionS x = True := (ou_laws_szActionS x).trans (by kernel_rfl)
theorem ve_laws_szActionSS (x : (List (List (Int × Int × Int × Int))) × Int) : v_laws_szActionSS x = (bSel (iLt (iSub Go.IntKind.i64 x.2 (lLen x.1)) 0) (-1) (bSel (iLt (loopV (fun (x0 : (Int × Int)) => (bAnd (iLt x0.2 (lLen x.1)) (bNot (iLt (v_laws_szActionS ((lGet x.1 (iNat x0.2) []), x0.1)) 0)))) (fun (x0 : (Int × Int)) => ((v_laws_szActionS ((lGet x.1 (iNat x0.2) []), x0.1)), (iAdd Go.IntKind.i64 x0.2 1))) ((iSub Go.IntKind.i64 x.2 (lLen x.1)), 0)).2 (lLen x.1)) (-1) (loopV (fun (x0 : (Int × Int)) => (bAnd (iLt x0.2 (lLen x.1)) (bNot (iLt (v_laws_szActionS ((lGet x.1 (iNat x0.2) []), x0.1)) 0)))) (fun (x0 : (Int × Int)) => ((v_laws_szActionS ((lGet x.1 (iNat x0.2) []), x0.1)), (iAdd Go.IntKind.i64 x0.2 1))) ((iSub Go.IntKind.i64 x.2 (lLen x.1)), 0)).1)) := (vu_laws_szActionSS x).trans (by kernel_rfl)
theorem oe_laws_szActionSS (x : (List (List (Int × Int × Int × Int))) × Int) : ok_laws_szActionSS x = (((iLt (iSub Go.IntKind.i64 x.2 (lLen x.1)) 0) = true → True) ∧ ((iLt (iSub Go.IntKind.i64 x.2 (lLen x.1)) 0) = false → (LoopOk (fun (x0 : (Int × Int)) => (bAnd (iLt x0.2 (lLen x.1)) (bNot (iLt (v_laws_szActionS ((lGet x.1 (iNat x0.2) []), x0.1)) 0)))) (fun (x0 : (Int × Int)) => ((v_laws_szActionS ((lGet x.1 (iNat x0.2) []), x0.1)), (iAdd Go.IntKind.i64 x0.2 1))) (fun (x0 : (Int × Int)) => (((iLt x0.2 (lLen x.1)) = true → ((((0 : Int) ≤ x0.2) ∧ (x0.2 < (((List.length x.1) : Int)))) ∧ (((iNat x0.2) < (List.length x.1)) ∧ (ok_laws_szActionS ((lGet x.1 (iNat x0.2) []), x0.1))))) ∧ ((iLt x0.2 (lLen x.1)) = false → True))) ((iSub Go.IntKind.i64 x.2 (lLen x.1)), 0)))) := (ou_laws_szActionSS x).trans (by kernel_rfl)
theorem ve_laws_szKeymap (x : (Int × (List (List (Int × Int × Int × Int)))) × Int) : v_laws_szKeymap x = (bSel (iLt (v_laws_szActionSS (x.1.2, x.2)) 0) (-1) (v_laws_szActionSS (x.1.2, x.2))) := (vu_laws_szKeymap x).trans (by kernel_rfl)
theorem oe_laws_szKeymap (x : (Int × (List (List (Int × Int × Int × Int)))) × Int) : ok_laws_szKeymap x = (ok_laws_szActionSS (x.1.2, x.2)) := (ou_laws_szKeymap x).trans (by kernel_rfl)
theorem ve_laws_toActionS (x : List (Int × Int × Int × Int)) : v_laws_toActionS x = (loopV (fun (x0 : ((List (Int × (Int × (Int × Int)))) × Int)) => (iLt x0.2 (lLen x))) (fun (x0 : ((List (Int × (Int × (Int × Int)))) × Int)) => ((lSet x0.1 (iNat x0.2) ((v_laws_toAction ((lGet x (iNat x0.2) (0, 0, 0, 0)).1, (lGet x (iNat x0.2) (0, 0, 0, 0)).2.1, (lGet x (iNat x0.2) (0, 0, 0, 0)).2.2.1, (lGet x (iNat x0.2) (0, 0, 0, 0)).2.2.2)).1, (v_laws_toAction ((lGet x (iNat x0.2) (0, 0, 0, 0)).1, (lGet x (iNat x0.2) (0, 0, 0, 0)).2.1, (lGet x (iNat x0.2) (0, 0, 0, 0)).2.2.1, (lGet x (iNat x0.2) (0, 0, 0, 0)).2.2.2)).2.1, (v_laws_toAction ((lGet x (iNat x0.2) (0, 0, 0, 0)).1, (lGet x (iNat x0.2) (0, 0, 0, 0)).2.1, (lGet x (iNat x0.2) (0, 0, 0, 0)).2.2.1, (lGet x (iNat x0.2) (0, 0, 0, 0)).2.2.2)).2.2.1, (v_laws_toAction ((lGet x (iNat x0.2) (0, 0, 0, 0)).1, (lGet x (iNat x0.2) (0, 0, 0, 0)).2.1, (lGet x (iNat x0.2) (0, 0, 0, 0)).2.2.1, (lGet x (iNat x0.2) (0, 0, 0, 0)).2.2.2)).2.2.2)), (iAdd Go.IntKind.i64 x0.2 1))) ((lRep (lLen x) (0, 0, 0, 0)), 0)).1 := (vu_laws_toActionS x).trans (by kernel_rfl)
theorem oe_laws_toActionS (x : List (Int × Int × Int × Int)) : ok_laws_toActionS x = ((((0 : Int) ≤ (lLen x)) ∧ (roomy ((Int.toNat (lLen x)) * 4))) ∧ (LoopOk (fun (x0 : ((List (Int × (Int × (Int × Int)))) × Int)) => (iLt x0.2 (lLen x))) (fun (x0 : ((List (Int × (Int × (Int × Int)))) × Int)) => ((lSet x0.1 (iNat x0.2) ((v_laws_toAction ((lGet x (iNat x0.2) (0, 0, 0, 0)).1, (lGet x (iNat x0.2) (0, 0, 0, 0)).2.1, (lGet x (iNat x0.2) (0, 0, 0, 0)).2.2.1, (lGet x (iNat x0.2) (0, 0, 0, 0)).2.2.2)).1, (v_laws_toAction ((lGet x (iNat x0.2) (0, 0, 0, 0)).1, (lGet x (iNat x0.2) (0, 0, 0, 0)).2.1, (lGet x (iNat x0.2) (0, 0, 0, 0)).2.2.1, (lGet x (iNat x0.2) (0, 0, 0, 0)).2.2.2)).2.1, (v_laws_toAction ((lGet x (iNat x0.2) (0, 0, 0, 0)).1, (lGet x (iNat x0.2) (0, 0, 0, 0)).2.1, (lGet x (iNat x0.2) (0, 0, 0, 0)).2.2.1, (lGet x (iNat x0.2) (0, 0, 0, 0)).2.2.2)).2.2.1, (v_laws_toAction ((lGet x (iNat x0.2) (0, 0, 0, 0)).1, (lGet x (iNat x0.2) (0, 0, 0, 0)).2.1, (lGet x (iNat x0.2) (0, 0, 0, 0)).2.2.1, (lGet x (iNat x0.2) (0, 0, 0, 0)).2.2.2)).2.2.2)), (iAdd Go.IntKind.i64 x0.2 1))) (fun (x0 : ((List (Int × (Int × (Int × Int)))) × Int)) => (((iLt x0.2 (lLen x)) = true → ((((0 : Int) ≤ x0.2) ∧ (x0.2 < (((List.length x) : Int)))) ∧ (((iNat x0.2) < (List.length x)) ∧ ((ok_laws_toAction ((lGet x (iNat x0.2) (0, 0, 0, 0)).1, (lGet x (iNat x0.2) (0, 0, 0, 0)).2.1, (lGet x (iNat x0.2) (0, 0, 0, 0)).2.2.1, (lGet x (iNat x0.2) (0, 0, 0, 0)).2.2.2)) ∧ ((((0 : Int) ≤ x0.2) ∧ (x0.2 < (((List.length x0.1) : Int)))) ∧ ((iNat x0.2) < (List.length x0.1))))))) ∧ ((iLt x0.2 (lLen x)) = false → True))) ((lRep (lLen x) (0, 0, 0, 0)), 0))) := (ou_laws_toActionS x).trans (by kernel_rfl)
theorem ve_laws_toActionSS (x : List (List (Int × Int × Int × Int))) : v_laws_toActionSS x = (loopV (fun (x0 : ((List (List (Int × (Int × (Int × Int))))) × Int)) => (iLt x0.2 (lLen x))) (fun (x0 : ((List (List (Int × (Int × (Int × Int))))) × Int)) => ((lSet x0.1 (iNat x0.2) (v_laws_toActionS (lGet x (iNat x0.2) []))), (iAdd Go.IntKind.i64 x0.2 1))) ((lRep (lLen x) []), 0)).1 := (vu_laws_toActionSS x).trans (by kernel_rfl)
theorem oe_laws_toActionSS (x : List (List (Int × Int × Int × Int))) : ok_laws_toActionSS x = ((((0 : Int) ≤ (lLen x)) ∧ (roomy ((Int.toNat (lLen x)) * 1))) ∧ (LoopOk (fun (x0 : ((List (List (Int × (Int × (Int × Int))))) × Int)) => (iLt x0.2 (lLen x))) (fun (x0 : ((List (List (Int × (Int × (Int × Int))))) × Int)) => ((lSet x0.1 (iNat x0.2) (v_laws_toActionS (lGet x (iNat x0.2) []))), (iAdd Go.IntKind.i64 x0.2 1))) (fun (x0 : ((List (List (Int × (Int × (Int × Int))))) × Int)) => (((iLt x0.2 (lLen x)) = true → ((((0 : Int) ≤ x0.2) ∧ (x0.2 < (((List.length x) : Int)))) ∧ (((iNat x0.2) < (List.length x)) ∧ ((ok_laws_toActionS (lGet x (iNat x0.2) [])) ∧ ((((0 : Int) ≤ x0.2) ∧ (x0.2 < (((List.length x0.1) : Int)))) ∧ ((iNat x0.2) < (List.length x0.1))))))) ∧ ((iLt x0.2 (lLen x)) = false → True))) ((lRep (lLen x) []), 0))) := (ou_laws_toActionSS x).trans (by kernel_rfl)
theorem ve_laws_toKeymap (x : Int × (List (List (Int × Int × Int × Int)))) : v_laws_toKeymap x = (x.1, (v_laws_toActionSS x.2)) := (vu_laws_toKeymap x).trans (by kernel_rfl)
theorem oe_laws_toKeymap (x : Int × (List (List (Int × Int × Int × Int)))) : ok_laws_toKeymap x = (ok_laws_toActionSS x.2) := (ou_laws_toKeymap x).trans (by kernel_rfl)
theorem ve_spec_IsKeymap (x : Int × (List (List (Int × Int × Int × Int)))) : v_spec_IsKeymap x = (bAnd (bNot (iLt (loopV (fun (x0 : Int) => (bAnd (iLt x0 (lLen x.2)) (bAnd (bNot (iNe (lLen (lGet x.2 (iNat x0) [])) x.1)) (bNot (iLt (loopV (fun (x1 : Int) => (bAnd (iLt x1 (lLen (lGet x.2 (iNat x0) []))) (bNot (bOr (bNot (v_spec_IsAction ((lGet (lGet x.2 (iNat x0) []) (iNat x1) (0, 0, 0, 0)).1, (lGet (lGet x.2 (iNat x0) []) (iNat x1) (0, 0, 0, 0)).2.1, (lGet (lGet x.2 (iNat x0) []) (iNat x1) (0, 0, 0, 0)).2.2.1, (lGet (lGet x.2 (iNat x0) []) (iNat x1) (0, 0, 0, 0)).2.2.2))) (bSel (iEq (lGet (lGet x.2 (iNat x0) []) (iNat x1) (0, 0, 0, 0)).1 1) (bOr (iEq x0 0) (bAnd (iNe (lGet (lGet x.2 (iNat x0) []) (iNat x1) (0, 0, 0, 0)).1 9) (iGe (lGet (lGet x.2 (iNat x0) []) (iNat x1) (0, 0, 0, 0)).2.2.2 (lLen x.2)))) (bAnd (iNe (lGet (lGet x.2 (iNat x0) []) (iNat x1) (0, 0, 0, 0)).1 9) (iGe (lGet (lGet x.2 (iNat x0) []) (iNat x1) (0, 0, 0, 0)).2.2.2 (lLen x.2)))))))) (fun (x1 : Int) => (iAdd Go.IntKind.i64 x1 1)) 0) (lLen (lGet x.2 (iNat x0) []))))))) (fun (x0 : Int) => (iAdd Go.IntKind.i64 x0 1)) 0) (lLen x.2))) (bAnd (v_spec_l1In (x.1, 1, 32)) (v_spec_l1In ((lLen x.2), 1, 4)))) := (vu_spec_IsKeymap x).trans (by kernel_rfl)
theorem oe_spec_IsKeymap (x : Int × (List (List (Int × Int × Int × Int)))) : ok_spec_IsKeymap x = ((LoopOk (fun (x0 : Int) => (bAnd (iLt x0 (lLen x.2)) (bAnd (bNot (iNe (lLen (lGet x.2 (iNat x0) [])) x.1)) (bNot (iLt (loopV (fun (x1 : Int) => (bAnd (iLt x1 (lLen (lGet x.2 (iNat x0) []))) (bNot (bOr (bNot (v_spec_IsAction ((lGet (lGet x.2 (iNat x0) []) (iNat x1) (0, 0, 0, 0)).1, (lGet (lGet x.2 (iNat x0) []) (iNat x1) (0, 0, 0, 0)).2.1, (lGet (lGet x.2 (iNat x0) []) (iNat x1) (0, 0, 0, 0)).2.2.1, (lGet (lGet x.2 (iNat x0) []) (iNat x1) (0, 0, 0, 0)).2.2.2))) (bSel (iEq (lGet (lGet x.2 (iNat x0) []) (iNat x1) (0, 0, 0, 0)).1 1) (bOr (iEq x0 0) (bAnd (iNe (lGet (lGet x.2 (iNat x0) []) (iNat x1) (0, 0, 0, 0)).1 9) (iGe (lGet (lGet x.2 (iNat x0) []) (iNat x1) (0, 0, 0, 0)).2.2.2 (lLen x.2)))) (bAnd (iNe (lGet (lGet x.2 (iNat x0) []) (iNat x1) (0, 0, 0, 0)).1 9) (iGe (lGet (lGet x.2 (iNat x0) []) (iNat x1) (0, 0, 0, 0)).2.2.2 (lLen x.2)))))))) (fun (x1 : Int) => (iAdd Go.IntKind.i64 x1 1)) 0) (lLen (lGet x.2 (iNat x0) []))))))) (fun (x0 : Int) => (iAdd Go.IntKind.i64 x0 1)) (fun (x0 : Int) => (((iLt x0 (lLen x.2)) = true → ((((0 : Int) ≤ x0) ∧ (x0 < (((List.length x.2) : Int)))) ∧ (((iNat x0) < (List.length x.2)) ∧ (((iNe (lLen (lGet x.2 (iNat x0) [])) x.1) = true → True) ∧ ((iNe (lLen (lGet x.2 (iNat x0) [])) x.1) = false → (LoopOk (fun (x1 : Int) => (bAnd (iLt x1 (lLen (lGet x.2 (iNat x0) []))) (bNot (bOr (bNot (v_spec_IsAction ((lGet (lGet x.2 (iNat x0) []) (iNat x1) (0, 0, 0, 0)).1, (lGet (lGet x.2 (iNat x0) []) (iNat x1) (0, 0, 0, 0)).2.1, (lGet (lGet x.2 (iNat x0) []) (iNat x1) (0, 0, 0, 0)).2.2.1, (lGet (lGet x.2 (iNat x0) []) (iNat x1) (0, 0, 0, 0)).2.2.2))) (bSel (iEq (lGet (lGet x.2 (iNat x0) []) (iNat x1) (0, 0, 0, 0)).1 1) (bOr (iEq x0 0) (bAnd (iNe (lGet (lGet x.2 (iNat x0) []) (iNat x1) (0, 0, 0, 0)).1 9) (iGe (lGet (lGet x.2 (iNat x0) []) (iNat x1) (0, 0, 0, 0)).2.2.2 (lLen x.2)))) (bAnd (iNe (lGet (lGet x.2 (iNat x0) []) (iNat x1) (0, 0, 0, 0)).1 9) (iGe (lGet (lGet x.2 (iNat x0) []) (iNat x1) (0, 0, 0, 0)).2.2.2 (lLen x.2)))))))) (fun (x1 : Int) => (iAdd Go.IntKind.i64 x1 1)) (fun (x1 : Int) => ((((0 : Int) ≤ x0) ∧ (x0 < (((List.length x.2) : Int)))) ∧ (((iNat x0) < (List.length x.2)) ∧ (((iLt x1 (lLen (lGet x.2 (iNat x0) []))) = true → ((((0 : Int) ≤ x0) ∧ (x0 < (((List.length x.2) : Int)))) ∧ (((iNat x0) < (List.length x.2)) ∧ ((((0 : Int) ≤ x1) ∧ (x1 < (((List.length (lGet x.2 (iNat x0) [])) : Int)))) ∧ (((iNat x1) < (List.length (lGet x.2 (iNat x0) []))) ∧ (ok_spec_IsAction ((lGet (lGet x.2 (iNat x0) []) (iNat x1) (0, 0, 0, 0)).1, (lGet (lGet x.2 (iNat x0) []) (iNat x1) (0, 0, 0, 0)).2.1, (lGet (lGet x.2 (iNat x0) []) (iNat x1) (0, 0, 0, 0)).2.2.1, (lGet (lGet x.2 (iNat x0) []) (iNat x1) (0, 0, 0, 0)).2.2.2))))))) ∧ ((iLt x1 (lLen (lGet x.2 (iNat x0) []))) = false → True))))) 0)))))) ∧ ((iLt x0 (lLen x.2)) = false → True))) 0) ∧ (((iLt (loopV (fun (x0 : Int) => (bAnd (iLt x0 (lLen x.2)) (bAnd (bNot (iNe (lLen (lGet x.2 (iNat x0) [])) x.1)) (bNot (iLt (loopV (fun (x1 : Int) => (bAnd (iLt x1 (lLen (lGet x.2 (iNat x0) []))) (bNot (bOr (bNot (v_spec_IsAction ((lGet (lGet x.2 (iNat x0) []) (iNat x1) (0, 0, 0, 0)).1, (lGet (lGet x.2 (iNat x0) []) (iNat x1) (0, 0, 0, 0)).2.1, (lGet (lGet x.2 (iNat x0) []) (iNat x1) (0, 0, 0, 0)).2.2.1, (lGet (lGet x.2 (iNat x0) []) (iNat x1) (0, 0, 0, 0)).2.2.2))) (bSel (iEq (lGet (lGet x.2 (iNat x0) []) (iNat x1) (0, 0, 0, 0)).1 1) (bOr (iEq x0 0) (bAnd (iNe (lGet (lGet x.2 (iNat x0) []) (iNat x1) (0, 0, 0, 0)).1 9) (iGe (lGet (lGet x.2 (iNat x0) []) (iNat x1) (0, 0, 0, 0)).2.2.2 (lLen x.2)))) (bAnd (iNe (lGet (lGet x.2 (iNat x0) []) (iNat x1) (0, 0, 0, 0)).1 9) (iGe (lGet (lGet x.2 (iNat x0) []) (iNat x1) (0, 0, 0, 0)).2.2.2 (lLen x.2)))))))) (fun (x1 : Int) => (iAdd Go.IntKind.i64 x1 1)) 0) (lLen (lGet x.2 (iNat x0) []))))))) (fun (x0 : Int) => (iAdd Go.IntKind.i64 x0 1)) 0) (lLen x.2)) = true → True) ∧ ((iLt (loopV (fun (x0 : Int) => (bAnd (iLt x0 (lLen x.2)) (bAnd (bNot (iNe (lLen (lGet x.2 (iNat x0) [])) x.1)) (bNot (iLt (loopV (fun (x1 : Int) => (bAnd (iLt x1 (lLen (lGet x.2 (iNat x0) []))) (bNot (bOr (bNot (v_spec_IsAction ((lGet (lGet x.2 (iNat x0) []) (iNat x1) (0, 0, 0, 0)).1, (lGet (lGet x.2 (iNat x0) []) (iNat x1) (0, 0, 0, 0)).2.1, (lGet (lGet x.2 (iNat x0) []) (iNat x1) (0, 0, 0, 0)).2.2.1, (lGet (lGet x.2 (iNat x0) []) (iNat x1) (0, 0, 0, 0)).2.2.2))) (bSel (iEq (lGet (lGet x.2 (iNat x0) []) (iNat x1) (0, 0, 0, 0)).1 1) (bOr (iEq x0 0) (bAnd (iNe (lGet (lGet x.2 (iNat x0) []) (iNat x1) (0, 0, 0, 0)).1 9) (iGe (lGet (lGet x.2 (iNat x0) []) (iNat x1) (0, 0, 0, 0)).2.2.2 (lLen x.2)))) (bAnd (iNe (lGet (lGet x.2 (iNat x0) []) (iNat x1) (0, 0, 0, 0)).1 9) (iGe (lGet (lGet x.2 (iNat x0) []) (iNat x1) (0, 0, 0, 0)).2.2.2 (lLen x.2)))))))) (fun (x1 : Int) => (iAdd Go.IntKind.i64 x1 1)) 0) (lLen (lGet x.2 (iNat x0) []))))))) (fun (x0 : Int) => (iAdd Go.IntKind.i64 x0 1)) 0) (lLen x.2)) = false → ((ok_spec_l1In (x.1, 1, 32)) ∧ (((v_spec_l1In (x.1, 1, 32)) = true → (ok_spec_l1In ((lLen x.2), 1, 4))) ∧ ((v_spec_l1In (x.1, 1, 32)) = false → True)))))) := (ou_spec_IsKeymap x).trans (by kernel_rfl)
theorem ve_impl_IsKeymap (x : Int × (List (List (Int × Int × Int × Int)))) : v_impl_IsKeymap x = (bAnd (bNot (bOr (iLt x.1 1) (bOr (iGt x.1 32) (bOr (iLt (lLen x.2) 1) (iGt (lLen x.2) 4))))) (bNot (iLt (loopV (fun (x0 : Int) => (bAnd (iLt x0 (lLen x.2)) (bAnd (bNot (iNe (lLen (lGet x.2 (iNat x0) [])) x.1)) (bNot (iLt (loopV (fun (x1 : Int) => (bAnd (iLt x1 (lLen (lGet x.2 (iNat x0) []))) (bNot (bOr (bNot (v_impl_IsAction ((lGet (lGet x.2 (iNat x0) []) (iNat x1) (0, 0, 0, 0)).1, (lGet (lGet x.2 (iNat x0) []) (iNat x1) (0, 0, 0, 0)).2.1, (lGet (lGet x.2 (iNat x0) []) (iNat x1) (0, 0, 0, 0)).2.2.1, (lGet (lGet x.2 (iNat x0) []) (iNat x1) (0, 0, 0, 0)).2.2.2))) (bSel (iEq x0 0) (bOr (iEq (lGet (lGet x.2 (iNat x0) []) (iNat x1) (0, 0, 0, 0)).1 1) (bAnd (iNe (lGet (lGet x.2 (iNat x0) []) (iNat x1) (0, 0, 0, 0)).1 9) (iGe (lGet (lGet x.2 (iNat x0) []) (iNat x1) (0, 0, 0, 0)).2.2.2 (lLen x.2)))) (bAnd (iNe (lGet (lGet x.2 (iNat x0) []) (iNat x1) (0, 0, 0, 0)).1 9) (iGe (lGet (lGet x.2 (iNat x0) []) (iNat x1) (0, 0, 0, 0)).2.2.2 (lLen x.2)))))))) (fun (x1 : Int) => (iAdd Go.IntKind.i64 x1 1)) 0) (lLen (lGet x.2 (iNat x0) []))))))) (fun (x0 : Int) => (iAdd Go.IntKind.i64 x0 1)) 0) (lLen x.2)))) := (vu_impl_IsKeymap x).trans (by kernel_rfl)
theorem oe_impl_IsKeymap (x : Int × (List (List (Int × Int × Int × Int)))) : ok_impl_IsKeymap x = (((bOr (iLt x.1 1) (bOr (iGt x.1 32) (bOr (iLt (lLen x.2) 1) (iGt (lLen x.2) 4)))) = true → True) ∧ ((bOr (iLt x.1 1) (bOr (iGt x.1 32) (bOr (iLt (lLen x.2) 1) (iGt (lLen x.2) 4)))) = false → (LoopOk (fun (x0 : Int) => (bAnd (iLt x0 (lLen x.2)) (bAnd (bNot (iNe (lLen (lGet x.2 (iNat x0) [])) x.1)) (bNot (iLt (loopV (fun (x1 : Int) => (bAnd (iLt x1 (lLen (lGet x.2 (iNat x0) []))) (bNot (bOr (bNot (v_impl_IsAction ((lGet (lGet x.2 (iNat x0) []) (iNat x1) (0, 0, 0, 0)).1, (lGet (lGet x.2 (iNat x0) []) (iNat x1) (0, 0, 0, 0)).2.1, (lGet (lGet x.2 (iNat x0) []) (iNat x1) (0, 0, 0, 0)).2.2.1, (lGet (lGet x.2 (iNat x0) []) (iNat x1) (0, 0, 0, 0)).2.2.2))) (bSel (iEq x0 0) (bOr (iEq (lGet (lGet x.2 (iNat x0) []) (iNat x1) (0, 0, 0, 0)).1 1) (bAnd (iNe (lGet (lGet x.2 (iNat x0) []) (iNat x1) (0, 0, 0, 0)).1 9) (iGe (lGet (lGet x.2 (iNat x0) []) (iNat x1) (0, 0, 0, 0)).2.2.2 (lLen x.2)))) (bAnd (iNe (lGet (lGet x.2 (iNat x0) []) (iNat x1) (0, 0, 0, 0)).1 9) (iGe (lGet (lGet x.2 (iNat x0) []) (iNat x1) (0, 0, 0, 0)).2.2.2 (lLen x.2)))))))) (fun (x1 : Int) => (iAdd Go.IntKind.i64 x1 1)) 0) (lLen (lGet x.2 (iNat x0) []))))))) (fun (x0 : Int) => (iAdd Go.IntKind.i64 x0 1)) (fun (x0 : Int) => (((iLt x0 (lLen x.2)) = true → ((((0 : Int) ≤ x0) ∧ (x0 < (((List.length x.2) : Int)))) ∧ (((iNat x0) < (List.length x.2)) ∧ (((iNe (lLen (lGet x.2 (iNat x0) [])) x.1) = true → True) ∧ ((iNe (lLen (lGet x.2 (iNat x0) [])) x.1) = false → (LoopOk (fun (x1 : Int) => (bAnd (iLt x1 (lLen (lGet x.2 (iNat x0) []))) (bNot (bOr (bNot (v_impl_IsAction ((lGet (lGet x.2 (iNat x0) []) (iNat x1) (0, 0, 0, 0)).1, (lGet (lGet x.2 (iNat x0) []) (iNat x1) (0, 0, 0, 0)).2.1, (lGet (lGet x.2 (iNat x0) []) (iNat x1) (0, 0, 0, 0)).2.2.1, (lGet (lGet x.2 (iNat x0) []) (iNat x1) (0, 0, 0, 0)).2.2.2))) (bSel (iEq x0 0) (bOr (iEq (lGet (lGet x.2 (iNat x0) []) (iNat x1) (0, 0, 0, 0)).1 1) (bAnd (iNe (lGet (lGet x.2 (iNat x0) []) (iNat x1) (0, 0, 0, 0)).1 9) (iGe (lGet (lGet x.2 (iNat x0) []) (iNat x1) (0, 0, 0, 0)).2.2.2 (lLen x.2)))) (bAnd (iNe (lGet (lGet x.2 (iNat x0) []) (iNat x1) (0, 0, 0, 0)).1 9) (iGe (lGet (lGet x.2 (iNat x0) []) (iNat x1) (0, 0, 0, 0)).2.2.2 (lLen x.2)))))))) (fun (x1 : Int) => (iAdd Go.IntKind.i64 x1 1)) (fun (x1 : Int) => (((iLt x1 (lLen (lGet x.2 (iNat x0) []))) = true → ((((0 : Int) ≤ x1) ∧ (x1 < (((List.length (lGet x.2 (iNat x0) [])) : Int)))) ∧ (((iNat x1) < (List.length (lGet x.2 (iNat x0) []))) ∧ (ok_impl_IsAction ((lGet (lGet x.2 (iNat x0) []) (iNat x1) (0, 0, 0, 0)).1, (lGet (lGet x.2 (iNat x0) []) (iNat x1) (0, 0, 0, 0)).2.1, (lGet (lGet x.2 (iNat x0) []) (iNat x1) (0, 0, 0, 0)).2.2.1, (lGet (lGet x.2 (iNat x0) []) (iNat x1) (0, 0, 0, 0)).2.2.2))))) ∧ ((iLt x1 (lLen (lGet x.2 (iNat x0) []))) = false → True))) 0)))))) ∧ ((iLt x0 (lLen x.2)) = false → True))) 0))) := (ou_impl_IsKeymap x).trans (by kernel_rfl)
theorem ve_laws_eqActionS (x : (List (Int × Int × Int × Int)) × (List (Int × Int × Int × Int))) : v_laws_eqActionS x = (bAnd (bNot (iNe (lLen x.1) (lLen x.2))) (bNot (iLt (loopV (fun (x0 : Int) => (bAnd (iLt x0 (lLen x.1)) (bNot (bNot (v_laws_eqAction (((lGet x.1 (iNat x0) (0, 0, 0, 0)).1, (lGet x.1 (iNat x0) (0, 0, 0, 0)).2.1, (lGet x.1 (iNat x0) (0, 0, 0, 0)).2.2.1, (lGet x.1 (iNat x0) (0, 0, 0, 0)).2.2.2), (lGet x.2 (iNat x0) (0, 0, 0, 0)).1, (lGet x.2 (iNat x0) (0, 0, 0, 0)).2.1, (lGet x.2 (iNat x0) (0, 0, 0, 0)).2.2.1, (lGet x.2 (iNat x0) (0, 0, 0, 0)).2.2.2)))))) (fun (x0 : Int) => (iAdd Go.IntKind.i64 x0 1)) 0) (lLen x.1)))) := (vu_laws_eqActionS x).trans (by kernel_rfl)
theorem oe_laws_eqActionS (x : (List (Int × Int × Int × Int)) × (List (Int × Int × Int × Int))) : ok_laws_eqActionS x = (((iNe (lLen x.1) (lLen x.2)) = true → True) ∧ ((iNe (lLen x.1) (lLen x.2)) = false → (LoopOk (fun (x0 : Int) => (bAnd (iLt x0 (lLen x.1)) (bNot (bNot (v_laws_eqAction (((lGet x.1 (iNat x0) (0, 0, 0, 0)).1, (lGet x.1 (iNat x0) (0, 0, 0, 0)).2.1, (lGet x.1 (iNat x0) (0, 0, 0, 0)).2.2.1, (lGet x.1 (iNat x0) (0, 0, 0, 0)).2.2.2), (lGet x.2 (iNat x0) (0, 0, 0, 0)).1, (lGet x.2 (iNat x0) (0, 0, 0, 0)).2.1, (lGet x.2 (iNat x0) (0, 0, 0, 0)).2.2.1, (lGet x.2 (iNat x0) (0, 0, 0, 0)).2.2.2)))))) (fun (x0 : Int) => (iAdd Go.IntKind.i64 x0 1)) (fun (x0 : Int) => (((iLt x0 (lLen x.1)) = true → ((((0 : Int) ≤ x0) ∧ (x0 < (((List.length x.1) : Int)))) ∧ (((iNat x0) < (List.length x.1)) ∧ ((((0 : Int) ≤ x0) ∧ (x0 < (((List.length x.2) : Int)))) ∧ (((iNat x0) < (List.length x.2)) ∧ (ok_laws_eqAction (((lGet x.1 (iNat x0) (0, 0, 0, 0)).1, (lGet x.1 (iNat x0) (0, 0, 0, 0)).2.1, (lGet x.1 (iNat x0) (0, 0, 0, 0)).2.2.1, (lGet x.1 (iNat x0) (0, 0, 0, 0)).2.2.2), (lGet x.2 (iNat x0) (0, 0, 0, 0)).1, (lGet x.2 (iNat x0) (0, 0, 0, 0)).2.1, (lGet x.2 (iNat x0) (0, 0, 0, 0)).2.2.1, (lGet x.2 (iNat x0) (0, 0, 0, 0)).2.2.2))))))) ∧ ((iLt x0 (lLen x.1)) = false → True))) 0))) := (ou_laws_eqActionS x).trans (by kernel_rfl)
theorem ve_laws_eqActionSS (x : (List (List (Int × Int × Int × Int))) × (List (List (Int × Int × Int × Int)))) : v_laws_eqActionSS x = (bAnd (bNot (iNe (lLen x.1) (lLen x.2))) (bNot (iLt (loopV (fun (x0 : Int) => (bAnd (iLt x0 (lLen x.1)) (bNot (bNot (v_laws_eqActionS ((lGet x.1 (iNat x0) []), (lGet x.2 (iNat x0) []))))))) (fun (x0 : Int) => (iAdd Go.IntKind.i64 x0 1)) 0) (lLen x.1)))) := (vu_laws_eqActionSS x).trans (by kernel_rfl)
theorem oe_laws_eqActionSS (x : (List (List (Int × Int × Int × Int))) × (List (List (Int × Int × Int × Int)))) : ok_laws_eqActionSS x = (((iNe (lLen x.1) (lLen x.2)) = true → True) ∧ ((iNe (lLen x.1) (lLen x.2)) = false → (LoopOk (fun (x0 : Int) => (bAnd (iLt x0 (lLen x.1)) (bNot (bNot (v_laws_eqActionS ((lGet x.1 (iNat x0) []), (lGet x.2 (iNat x0) []))))))) (fun (x0 : Int) => (iAdd Go.IntKind.i64 x0 1)) (fun (x0 : Int) => (((iLt x0 (lLen x.1)) = true → ((((0 : Int) ≤ x0) ∧ (x0 < (((List.length x.1) : Int)))) ∧ (((iNat x0) < (List.length x.1)) ∧ ((((0 : Int) ≤ x0) ∧ (x0 < (((List.length x.2) : Int)))) ∧ (((iNat x0) < (List.length x.2)) ∧ (ok_laws_eqActionS ((lGet x.1 (iNat x0) []), (lGet x.2 (iNat x0) [])))))))) ∧ ((iLt x0 (lLen x.1)) = false → True))) 0))) := (ou_laws_eqActionSS x).trans (by kernel_rfl)
theorem ve_laws_eqKeymap (x : (Int × (List (List (Int × Int × Int × Int)))) × (Int × (List (List (Int × Int × Int × Int))))) : v_laws_eqKeymap x = (bAnd (bNot (iNe x.1.1 x.2.1)) (bNot (bNot (v_laws_eqActionSS (x.1.2, x.2.2))))) := (vu_laws_eqKeymap x).trans (by kernel_rfl)
theorem oe_laws_eqKeymap (x : (Int × (List (List (Int × Int × Int × Int)))) × (Int × (List (List (Int × Int × Int × Int))))) : ok_laws_eqKeymap x = (((iNe x.1.1 x.2.1) = true → True) ∧ ((iNe x.1.1 x.2.1) = false → (ok_laws_eqActionSS (x.1.2, x.2.2)))) := (ou_laws_eqKeymap x).trans (by kernel_rfl)
end
def sm_ActionS (x : List (Int × Int × Int × Int)) : Prop := x.length ≤ 1048576 ∧ ∀ a ∈ x, sm_Action a
def wl_ActionS (x : List (Int × Int × Int × Int)) : Prop := x.length ≤ 9223372036854775807 ∧ ∀ a ∈ x, wl_Action a
theorem sz_ActionS (x : List (Int × Int × Int × Int)) (hw : wl_ActionS x) (l : Int) (h0 : 0 ≤ l) (h1 : l ≤ 1048576) : ok_laws_szActionS (x, l) ∧ (v_laws_szActionS (x, l) < 0 ∨ (0 ≤ v_laws_szActionS (x, l) ∧ v_laws_szActionS (x, l) ≤ l ∧ sm_ActionS x)) := by
  rw [oe_laws_szActionS, ve_laws_szActionS]
  have hl : x.length ≤ 9223372036854775807 := hw.1
  have hs : iSub .i64 l (lLen x) = l - x.length := by rw [lLen_eq]; exact iSub_i64 (by unfold In64; omega)
  refine ⟨trivial, ?_⟩
  simp only [hs, iLt_eq, bSel_eq, decide_eq_true_eq]
  split
  · left; omega
  · right; exact ⟨by omega, by omega, ⟨by omega, fun a _ => by simp [sm_Action]⟩⟩
def sm_ActionSS (x : List (List (Int × Int × Int × Int))) : Prop := x.length ≤ 1048576 ∧ ∀ a ∈ x, sm_ActionS a
def wl_ActionSS (x : List (List (Int × Int × Int × Int))) : Prop := x.length ≤ 9223372036854775807 ∧ ∀ a ∈ x, wl_ActionS a
theorem sz_ActionSS (x : List (List (Int × Int × Int × Int))) (hw : wl_ActionSS x) (l : Int) (h0 : 0 ≤ l) (h1 : l ≤ 1048576) : ok_laws_szActionSS (x, l) ∧ (v_laws_szActionSS (x, l) < 0 ∨ (0 ≤ v_laws_szActionSS (x, l) ∧ v_laws_szActionSS (x, l) ≤ l ∧ sm_ActionSS x)) := by
  rw [oe_laws_szActionSS, ve_laws_szActionSS]
  obtain ⟨hl, hw2⟩ := hw
  have hs : iSub .i64 l (lLen x) = l - x.length := by rw [lLen_eq]; exact iSub_i64 (by unfold In64; omega)
  simp only [hs]
  by_cases hneg : l - (x.length : Int) < 0
  · have hb : iLt (l - (x.length : Int)) 0 = true := by rw [iLt_eq]; simpa using hneg
    rw [hb]
    exact ⟨⟨fun _ => trivial, fun h => (by cases h)⟩, by rw [bSel_t]; left; omega⟩
  · have hb : iLt (l - (x.length : Int)) 0 = false := by rw [iLt_eq]; simpa using hneg
    rw [hb]
    have hg : ∀ i : Nat, i < x.length → ∀ m : Int, 0 ≤ m → m ≤ 1048576 → ok_laws_szActionS (x.getD i [], m) ∧ (v_laws_szActionS (x.getD i [], m) < 0 ∨ (0 ≤ v_laws_szActionS (x.getD i [], m) ∧ v_laws_szActionS (x.getD i [], m) ≤ m ∧ sm_ActionS (x.getD i []))) := fun i hi m g0 g1 => sz_ActionS _ (hw2 _ (getD_mem x i [] hi)) m g0 g1
    refine ⟨⟨fun h => (by cases h), fun _ => sz_ok x [] sm_ActionS (fun a m => v_laws_szActionS (a, m)) (l - (x.length : Int)) (by omega) (by omega) (by omega) (fun i hi m g0 g1 => (hg i hi m g0 g1).2) (fun m i hi => by simp only [bAnd_eq, iLt_eq, lLen_eq, iNat_eq, lGet_eq, bNot_eq, Int.toNat_natCast, Int.ofNat_lt]) (fun m i hi => by simp only [iNat_eq, lGet_eq, Int.toNat_natCast]) (fun m i g0 g1 hi => ?_)⟩, ?_⟩
    · simp only [iLt_eq, lLen_eq, iNat_eq, lGet_eq, decide_eq_true_eq, Int.toNat_natCast]
      exact ⟨fun hh => ⟨by omega, by omega, (hg i (by omega) m g0 g1).1⟩, fun _ => trivial⟩
    · rw [bSel_f]
      have hv := sz_v (c := fun st : Int × Int => bAnd (iLt st.2 (lLen x)) (bNot (iLt (v_laws_szActionS ((lGet x (iNat st.2) []), st.1)) 0))) (f := fun st => (v_laws_szActionS ((lGet x (iNat st.2) []), st.1), iAdd .i64 st.2 1)) x [] sm_ActionS (fun a m => v_laws_szActionS (a, m)) (l - (x.length : Int)) (by omega) (by omega) (by omega) (fun i hi m g0 g1 => (hg i hi m g0 g1).2) (fun m i hi => by simp only [bAnd_eq, iLt_eq, lLen_eq, iNat_eq, lGet_eq, bNot_eq, Int.toNat_natCast, Int.ofNat_lt]) (fun m i hi => by simp only [iNat_eq, lGet_eq, Int.toNat_natCast])
      rcases sz_fin (l := l) (by omega) hv with h | ⟨h2, h3, h4⟩
      · exact .inl h
      · exact .inr ⟨h2, h3, (by omega), h4⟩
def sm_Keymap (x : Int × (List (List (Int × Int × Int × Int)))) : Prop := sm_ActionSS x.2 ∧ True
def wl_Keymap (x : Int × (List (List (Int × Int × Int × Int)))) : Prop := wl_ActionSS x.2 ∧ True
theorem sz_Keymap (x : Int × (List (List (Int × Int × Int × Int)))) (hw : wl_Keymap x) (l : Int) (h0 : 0 ≤ l) (h1 : l ≤ 1048576) : ok_laws_szKeymap (x, l) ∧ (v_laws_szKeymap (x, l) < 0 ∨ (0 ≤ v_laws_szKeymap (x, l) ∧ v_laws_szKeymap (x, l) ≤ l ∧ sm_Keymap x)) := by
  rw [oe_laws_szKeymap, ve_laws_szKeymap]
  have hx := hw
  unfold wl_Keymap at hw
  obtain ⟨k0, g0⟩ := sz_ActionSS x.2 hw.1 l (by omega) (by omega)
  generalize hz0 : v_laws_szActionSS (x.2, l) = z0 at g0 ⊢
  rcases g0 with g0 | ⟨g0, g0', g0''⟩
  · have hb : iLt z0 0 = true := by rw [iLt_eq]; simpa using g0
    refine ⟨?_, ?_⟩
    · simp [k0, hb]
    · simp only [hb, bSel_t]; left; omega
  have hb0 : iLt z0 0 = false := by rw [iLt_eq]; simpa using g0
  simp only [hb0, bSel_f]
  exact ⟨by simp [k0], .inr ⟨by omega, by omega, g0'', trivial⟩⟩
theorem to_ActionS (x : List (Int × Int × Int × Int)) (h : sm_ActionS x) : ok_laws_toActionS x ∧ v_laws_toActionS x = x := by
  rw [oe_laws_toActionS, ve_laws_toActionS]
  obtain ⟨h1, h2⟩ := h
  have hY : ∀ i : Nat, i < x.length → ok_laws_toAction ((x.getD i (0, 0, 0, 0)).1, (x.getD i (0, 0, 0, 0)).2.1, (x.getD i (0, 0, 0, 0)).2.2.1, (x.getD i (0, 0, 0, 0)).2.2.2) ∧ v_laws_toAction ((x.getD i (0, 0, 0, 0)).1, (x.getD i (0, 0, 0, 0)).2.1, (x.getD i (0, 0, 0, 0)).2.2.1, (x.getD i (0, 0, 0, 0)).2.2.2) = x.getD i (0, 0, 0, 0) := fun i hi => to_Action _ (h2 _ (getD_mem x i (0, 0, 0, 0) hi))
  refine ⟨⟨⟨by rw [lLen_eq]; omega, roomy_of (by rw [lLen_eq]; omega) (by rw [lLen_eq]; omega) (by omega)⟩, copyg_ok x (0, 0, 0, 0) (0, 0, 0, 0) h1 (fun _ => rfl) (fun l i hi => by simp only [lSet_eq, lGet_eq, iNat_eq, Int.toNat_natCast]; rw [(hY i hi).2]) (fun l i hl hi => ?_)⟩, copyg_v x (0, 0, 0, 0) (0, 0, 0, 0) h1 (fun _ => rfl) (fun l i hi => by simp only [lSet_eq, lGet_eq, iNat_eq, Int.toNat_natCast]; rw [(hY i hi).2])⟩
  simp only [iLt_eq, lLen_eq, iNat_eq, lGet_eq, decide_eq_true_eq, Int.toNat_natCast]
  exact ⟨fun hh => ⟨by omega, by omega, (hY i (by omega)).1, by omega, by omega⟩, fun _ => trivial⟩
theorem to_ActionSS (x : List (List (Int × Int × Int × Int))) (h : sm_ActionSS x) : ok_laws_toActionSS x ∧ v_laws_toActionSS x = x := by
  rw [oe_laws_toActionSS, ve_laws_toActionSS]
  obtain ⟨h1, h2⟩ := h
  have hY : ∀ i : Nat, i < x.length → ok_laws_toActionS (x.getD i []) ∧ v_laws_toActionS (x.getD i []) = x.getD i [] := fun i hi => to_ActionS _ (h2 _ (getD_mem x i [] hi))
  refine ⟨⟨⟨by rw [lLen_eq]; omega, roomy_of (by rw [lLen_eq]; omega) (by rw [lLen_eq]; omega) (by omega)⟩, copyg_ok x [] [] h1 (fun _ => rfl) (fun l i hi => by simp only [lSet_eq, lGet_eq, iNat_eq, Int.toNat_natCast]; rw [(hY i hi).2]) (fun l i hl hi => ?_)⟩, copyg_v x [] [] h1 (fun _ => rfl) (fun l i hi => by simp only [lSet_eq, lGet_eq, iNat_eq, Int.toNat_natCast]; rw [(hY i hi).2])⟩
  simp only [iLt_eq, lLen_eq, iNat_eq, lGet_eq, decide_eq_true_eq, Int.toNat_natCast]
  exact ⟨fun hh => ⟨by omega, by omega, (hY i (by omega)).1, by omega, by omega⟩, fun _ => trivial⟩
theorem to_Keymap (x : Int × (List (List (Int × Int × Int × Int)))) (h : sm_Keymap x) : ok_laws_toKeymap x ∧ v_laws_toKeymap x = x := by
  rw [oe_laws_toKeymap, ve_laws_toKeymap]
  have k0 := to_ActionSS x.2 (by unfold sm_Keymap at h; exact h.1)
  refine ⟨k0.1, ?_⟩
  simp only [k0.2]
theorem eq_ActionS (a b : List (Int × Int × Int × Int)) (h : sm_ActionS a) : ok_laws_eqActionS (a, b) ∧ (v_laws_eqActionS (a, b) = true ↔ a = b) := by
  rw [oe_laws_eqActionS, ve_laws_eqActionS]
  obtain ⟨h1, h2⟩ := h
  have hY : ∀ i : Nat, i < a.length → ok_laws_eqAction (((lGet a i (0, 0, 0, 0)).1, (lGet a i (0, 0, 0, 0)).2.1, (lGet a i (0, 0, 0, 0)).2.2.1, (lGet a i (0, 0, 0, 0)).2.2.2), ((lGet b i (0, 0, 0, 0)).1, (lGet b i (0, 0, 0, 0)).2.1, (lGet b i (0, 0, 0, 0)).2.2.1, (lGet b i (0, 0, 0, 0)).2.2.2)) ∧ (v_laws_eqAction (((lGet a i (0, 0, 0, 0)).1, (lGet a i (0, 0, 0, 0)).2.1, (lGet a i (0, 0, 0, 0)).2.2.1, (lGet a i (0, 0, 0, 0)).2.2.2), ((lGet b i (0, 0, 0, 0)).1, (lGet b i (0, 0, 0, 0)).2.1, (lGet b i (0, 0, 0, 0)).2.2.1, (lGet b i (0, 0, 0, 0)).2.2.2)) = true ↔ a.getD i (0, 0, 0, 0) = b.getD i (0, 0, 0, 0)) := fun i hi => by
    have := eq_Action (a.getD i (0, 0, 0, 0)) (b.getD i (0, 0, 0, 0)) (h2 _ (getD_mem a i (0, 0, 0, 0) hi))
    rw [lGet_eq, lGet_eq]; exact this
  by_cases hl : a.length = b.length
  · refine ⟨⟨fun _ => trivial, fun _ => eq_ok a b (0, 0, 0, 0) (fun i => bNot (v_laws_eqAction (((lGet a i (0, 0, 0, 0)).1, (lGet a i (0, 0, 0, 0)).2.1, (lGet a i (0, 0, 0, 0)).2.2.1, (lGet a i (0, 0, 0, 0)).2.2.2), ((lGet b i (0, 0, 0, 0)).1, (lGet b i (0, 0, 0, 0)).2.1, (lGet b i (0, 0, 0, 0)).2.2.1, (lGet b i (0, 0, 0, 0)).2.2.2)))) hl (fun i hi => by simp only [bNot_eq, Bool.not_eq_false', (hY i hi).2]) (by omega) (fun i hi => by simp only [bAnd_eq, iLt_eq, lLen_eq, iNat_eq, bNot_eq, Int.toNat_natCast, Int.ofNat_lt]) (fun i hi => rfl) (fun i hi => ?_)⟩, ?_⟩
    · simp only [iLt_eq, lLen_eq, iNat_eq, decide_eq_true_eq, Int.toNat_natCast]
      exact ⟨fun hh => ⟨by omega, by omega, by omega, by omega, (hY i (by omega)).1⟩, fun _ => trivial⟩
    · have hv := eq_v (c := fun i : Int => bAnd (iLt i (lLen a)) (bNot ((fun i => bNot (v_laws_eqAction (((lGet a i (0, 0, 0, 0)).1, (lGet a i (0, 0, 0, 0)).2.1, (lGet a i (0, 0, 0, 0)).2.2.1, (lGet a i (0, 0, 0, 0)).2.2.2), ((lGet b i (0, 0, 0, 0)).1, (lGet b i (0, 0, 0, 0)).2.1, (lGet b i (0, 0, 0, 0)).2.2.1, (lGet b i (0, 0, 0, 0)).2.2.2)))) i.toNat))) (f := fun i => iAdd .i64 i 1) a b (0, 0, 0, 0) (fun i => bNot (v_laws_eqAction (((lGet a i (0, 0, 0, 0)).1, (lGet a i (0, 0, 0, 0)).2.1, (lGet a i (0, 0, 0, 0)).2.2.1, (lGet a i (0, 0, 0, 0)).2.2.2), ((lGet b i (0, 0, 0, 0)).1, (lGet b i (0, 0, 0, 0)).2.1, (lGet b i (0, 0, 0, 0)).2.2.1, (lGet b i (0, 0, 0, 0)).2.2.2)))) hl (fun i hi => by simp only [bNot_eq, Bool.not_eq_false', (hY i hi).2]) (by omega) (fun i hi => by simp only [bAnd_eq, iLt_eq, lLen_eq, bNot_eq, Int.toNat_natCast, Int.ofNat_lt]) (fun i hi => rfl)
      have e1 : bNot (iNe (lLen a) (lLen b)) = true := by rw [bNot_eq, iNe_eq, lLen_eq, lLen_eq, hl]; simp
      rw [e1, bAnd_eq true, Bool.true_and, bNot_eq (iLt _ (lLen a)), iLt_eq _ (lLen a)]
      simp only [← iNat_eq, lLen_eq] at hv ⊢
      simp only [Bool.not_eq_true', decide_eq_false_iff_not]
      rw [hv]; simp
  · have e1 : bNot (iNe (lLen a) (lLen b)) = false := by rw [bNot_eq, iNe_eq, lLen_eq, lLen_eq]; simp; omega
    refine ⟨⟨fun _ => trivial, fun h => ?_⟩, ?_⟩
    · rw [bNot_eq] at e1; rw [h] at e1; cases e1
    · rw [e1, bAnd_eq, Bool.false_and]; constructor
      · intro h; cases h
      · intro e; subst e; exact absurd rfl hl
theorem eq_ActionSS (a b : List (List (Int × Int × Int × Int))) (h : sm_ActionSS a) : ok_laws_eqActionSS (a, b) ∧ (v_laws_eqActionSS (a, b) = true ↔ a = b) := by
  rw [oe_laws_eqActionSS, ve_laws_eqActionSS]
  obtain ⟨h1, h2⟩ := h
  have hY : ∀ i : Nat, i < a.length → ok_laws_eqActionS ((lGet a i []), (lGet b i [])) ∧ (v_laws_eqActionS ((lGet a i []), (lGet b i [])) = true ↔ a.getD i [] = b.getD i []) := fun i hi => by
    have := eq_ActionS (a.getD i []) (b.getD i []) (h2 _ (getD_mem a i [] hi))
    rw [lGet_eq, lGet_eq]; exact this
  by_cases hl : a.length = b.length
  · refine ⟨⟨fun _ => trivial, fun _ => eq_ok a b [] (fun i => bNot (v_laws_eqActionS ((lGet a i []), (lGet b i [])))) hl (fun i hi => by simp only [bNot_eq, Bool.not_eq_false', (hY i hi).2]) (by omega) (fun i hi => by simp only [bAnd_eq, iLt_eq, lLen_eq, iNat_eq, bNot_eq, Int.toNat_natCast, Int.ofNat_lt]) (fun i hi => rfl) (fun i hi => ?_)⟩, ?_⟩
    · simp only [iLt_eq, lLen_eq, iNat_eq, decide_eq_true_eq, Int.toNat_natCast]
      exact ⟨fun hh => ⟨by omega, by omega, by omega, by omega, (hY i (by omega)).1⟩, fun _ => trivial⟩
    · have hv := eq_v (c := fun i : Int => bAnd (iLt i (lLen a)) (bNot ((fun i => bNot (v_laws_eqActionS ((lGet a i []), (lGet b i [])))) i.toNat))) (f := fun i => iAdd .i64 i 1) a b [] (fun i => bNot (v_laws_eqActionS ((lGet a i []), (lGet b i [])))) hl (fun i hi => by simp only [bNot_eq, Bool.not_eq_false', (hY i hi).2]) (by omega) (fun i hi => by simp only [bAnd_eq, iLt_eq, lLen_eq, bNot_eq, Int.toNat_natCast, Int.ofNat_lt]) (fun i hi => rfl)
      have e1 : bNot (iNe (lLen a) (lLen b)) = true := by rw [bNot_eq, iNe_eq, lLen_eq, lLen_eq, hl]; simp
      rw [e1, bAnd_eq true, Bool.true_and, bNot_eq (iLt _ (lLen a)), iLt_eq _ (lLen a)]
      simp only [← iNat_eq, lLen_eq] at hv ⊢
      simp only [Bool.not_eq_true', decide_eq_false_iff_not]
      rw [hv]; simp
  · have e1 : bNot (iNe (lLen a) (lLen b)) = false := by rw [bNot_eq, iNe_eq, lLen_eq, lLen_eq]; simp; omega
    refine ⟨⟨fun _ => trivial, fun h => ?_⟩, ?_⟩
    · rw [bNot_eq] at e1; rw [h] at e1; cases e1
    · rw [e1, bAnd_eq, Bool.false_and]; constructor
      · intro h; cases h
      · intro e; subst e; exact absurd rfl hl
theorem eq_Keymap (a b : Int × (List (List (Int × Int × Int × Int)))) (h : sm_Keymap a) : ok_laws_eqKeymap (a, b) ∧ (v_laws_eqKeymap (a, b) = true ↔ a = b) := by
  obtain ⟨a0, a1⟩ := a
  obtain ⟨b0, b1⟩ := b
  have k0 := eq_ActionSS a1 b1 (by unfold sm_Keymap at h; exact h.1)
  rw [oe_laws_eqKeymap, ve_laws_eqKeymap]
  refine ⟨by simp [k0.1, k0.2], ?_⟩
  simp only [k0.1, k0.2, bNot_eq, bAnd_eq, bIff_eq, iNe_eq, Bool.and_eq_true, Bool.not_not, decide_eq_true_eq, Prod.mk.injEq, beq_iff_eq]
  try (constructor <;> intro h <;> simp_all)
theorem isKeymap_eq (x : Int × List (List (Int × Int × Int × Int))) : v_spec_IsKeymap x = v_impl_IsKeymap x := by
  rw [ve_spec_IsKeymap, ve_impl_IsKeymap, l1In_eq, l1In_eq]
  have inner : ∀ (i a n : Int) (A B : Bool), bNot (bOr A (bSel (iEq a 1) (bOr (iEq i 0) B) B)) = bNot (bOr A (bSel (iEq i 0) (bOr (iEq a 1) B) B)) := by
    intro i a n A B
    simp only [bNot_eq, bOr_eq, bSel_eq, iEq_eq]
    by_cases h1 : a = 1 <;> by_cases h2 : i = 0 <;> simp [h1, h2]
  simp only [isAction_eq, fun i a A B => inner i a 0 A B]
  generalize bNot (iLt (loopV _ _ _) (lLen x.2)) = L
  rw [Bool.eq_iff_iff]
  simp only [bAnd_eq, bNot_eq, bOr_eq, iLt_eq, iGt_eq, lLen_eq, Bool.and_eq_true, Bool.or_eq_true, Bool.not_eq_true', Bool.not_eq_false', Bool.and_eq_false_iff, Bool.or_eq_false_iff, decide_eq_true_eq, decide_eq_false_iff_not, Bool.not_eq_true, Bool.not_eq_false, beq_iff_eq, beq_eq_false_iff_ne]
  cases L <;> simp <;> omega
theorem ok_IsKeymap_t (x : Int × List (List (Int × Int × Int × Int))) (h : sm_Keymap x) : ok_spec_IsKeymap x ∧ ok_impl_IsKeymap x := by
  obtain ⟨k, x⟩ := x
  have h : sm_ActionSS x := h.1
  rw [oe_spec_IsKeymap, oe_impl_IsKeymap]
  have inl : ∀ i : Int, 0 ≤ i → i < x.length → (lGet x (iNat i) []).length ≤ 1048576 := fun i h0 hi => by
    rw [lGet_eq, iNat_eq]; exact (h.2 _ (getD_mem x i.toNat [] (by omega))).1
  refine ⟨⟨?_, fun _ => trivial, fun _ => ⟨ok_l1In _, fun _ => ok_l1In _, fun _ => trivial⟩⟩, fun _ => trivial, fun _ => ?_⟩
  all_goals
    refine cnt_ok (fun st => st) x.length (by have := h.1; omega) (fun st _ _ hc => ?_) (fun st => rfl) (fun st h0 h1 => ?_) (by simp) (by simp)
    · rw [bAnd_eq, iLt_eq st, lLen_eq, Bool.and_eq_true, decide_eq_true_eq] at hc
      exact hc.1
    · refine ⟨fun hlt => ?_, fun _ => trivial⟩
      rw [iLt_eq, lLen_eq, decide_eq_true_eq] at hlt
      have hlt : st < (x.length : Int) := hlt
      have h3 : iNat st < x.length := by rw [iNat_eq]; omega
      have hl := inl st h0 hlt
      refine ⟨⟨h0, hlt⟩, h3, fun _ => trivial, fun _ => ?_⟩
      refine cnt_ok (fun st => st) (lGet x (iNat st) []).length (by omega) (fun j _ _ hc => ?_) (fun st => rfl) (fun j j0 j1 => ?_) (by simp) (by simp)
      · rw [bAnd_eq, iLt_eq j, lLen_eq, Bool.and_eq_true, decide_eq_true_eq] at hc
        exact hc.1
      · have fin : iLt j (lLen (lGet x (iNat st) [])) = true → j < ((lGet x (iNat st) []).length : Int) ∧ iNat j < (lGet x (iNat st) []).length := fun hj => by
          rw [iLt_eq, lLen_eq, decide_eq_true_eq] at hj
          exact ⟨hj, by rw [iNat_eq]; omega⟩
        first
          | exact ⟨⟨h0, hlt⟩, h3, fun hj => ⟨⟨h0, hlt⟩, h3, ⟨j0, (fin hj).1⟩, (fin hj).2, ok_spec_IsAction_t _⟩, fun _ => trivial⟩
          | exact ⟨fun hj => ⟨⟨j0, (fin hj).1⟩, (fin hj).2, ok_impl_IsAction_t _⟩, fun _ => trivial⟩
theorem wl_Keymap_of {k : Int} {x : List (List (Int × Int × Int × Int))} (h : CT.wf (.sl (.one (.sl (.cons (.int .i64) (.cons (.int .i64) (.cons (.int .i64) (.one (.int .i64)))))))) x) : wl_Keymap (k, x) := by
  exact ⟨⟨h.1, fun l hl => ⟨(h.2 l hl).1, fun a _ => by simp [wl_Action]⟩⟩, trivial⟩
structure MapOk (k : Int) (x : List (List (Int × Int × Int × Int))) : Prop where
  k1 : 1 ≤ k
  k2 : k ≤ 32
  l1 : 1 ≤ x.length
  l2 : x.length ≤ 4
  row : ∀ i : Nat, i < x.length → ((x.getD i []).length : Int) = k
  act : ∀ i j : Nat, i < x.length → j < (x.getD i []).length → v_impl_IsAction ((x.getD i []).getD j (0, 0, 0, 0)) = true ∧ (i = 0 → ((x.getD i []).getD j (0, 0, 0, 0)).1 ≠ 1) ∧ (((x.getD i []).getD j (0, 0, 0, 0)).1 ≠ 9 → ((x.getD i []).getD j (0, 0, 0, 0)).2.2.2 < x.length)
theorem isKeymap_ok {k : Int} {x : List (List (Int × Int × Int × Int))} (hs : sm_Keymap (k, x)) (h : v_impl_IsKeymap (k, x) = true) : MapOk k x := by
  rw [ve_impl_IsKeymap, bAnd_eq, Bool.and_eq_true] at h
  obtain ⟨h1, h2⟩ := h
  simp only [bNot_eq, bOr_eq, iLt_eq, iGt_eq, lLen_eq, Bool.and_eq_true, Bool.or_eq_true, Bool.not_eq_true', Bool.not_eq_false', Bool.and_eq_false_iff, Bool.or_eq_false_iff, decide_eq_true_eq, decide_eq_false_iff_not, Bool.not_eq_true, Bool.not_eq_false, beq_iff_eq, beq_eq_false_iff_ne] at h1
  rw [bNot_eq, Bool.not_eq_true', iLt_eq _ (lLen _), lLen_eq, decide_eq_false_iff_not] at h2
  have hs : sm_ActionSS x := hs.1
  have all := scan_all h2 (by show (x.length : Int) ≤ _; omega) (fun i hi hc => by
    rw [bAnd_eq, iLt_eq (i : Int), lLen_eq, Bool.and_eq_true, decide_eq_true_eq] at hc
    have := hc.1; show i < x.length; simp only at this; omega) (fun i hi => rfl)
  have row : ∀ i : Nat, i < x.length → ((x.getD i []).length : Int) = k ∧ ∀ j : Nat, j < (x.getD i []).length → v_impl_IsAction ((x.getD i []).getD j (0, 0, 0, 0)) = true ∧ (i = 0 → ((x.getD i []).getD j (0, 0, 0, 0)).1 ≠ 1) ∧ (((x.getD i []).getD j (0, 0, 0, 0)).1 ≠ 9 → ((x.getD i []).getD j (0, 0, 0, 0)).2.2.2 < x.length) := by
    intro i hi
    have hc := all i hi
    rw [bAnd_eq, bAnd_eq, Bool.and_eq_true, Bool.and_eq_true] at hc
    obtain ⟨_, c1, c2⟩ := hc
    simp only [bNot_eq, iNe_eq, lLen_eq, lGet_eq, iNat_eq, Int.toNat_natCast, Bool.not_not, decide_eq_true_eq] at c1
    rw [bNot_eq, Bool.not_eq_true', iLt_eq _ (lLen _), lLen_eq, decide_eq_false_iff_not] at c2
    have hli := (hs.2 _ (getD_mem x i [] hi)).1
    have hin : (lGet x (iNat (i : Int)) []) = x.getD i [] := by rw [lGet_eq, iNat_eq, Int.toNat_natCast]
    have all2 := scan_all c2 (by show ((lGet x (iNat (i : Int)) []).length : Int) ≤ _; rw [hin]; omega) (fun j hj hc => by
      simp only [bAnd_eq, iLt_eq, lLen_eq, Bool.and_eq_true, decide_eq_true_eq] at hc
      have := hc.1; show j < (lGet x (iNat (i : Int)) []).length; omega) (fun j hj => rfl)
    refine ⟨c1, fun j hj => ?_⟩
    have hc := all2 j (by show j < (lGet x (iNat (i : Int)) []).length; rw [hin]; exact hj)
    simp only [hin] at hc
    simp only [bAnd_eq, bNot_eq, bOr_eq, bSel_eq, iEq_eq, iNe_eq, iGe_eq, lLen_eq, lGet_eq, iNat_eq, Int.toNat_natCast, Bool.and_eq_true, Bool.not_eq_true', Bool.or_eq_false_iff, Bool.not_eq_false'] at hc
    obtain ⟨_, d1, d2⟩ := hc
    refine ⟨d1, fun hz => ?_, fun h9 => ?_⟩
    · subst hz
      simp only [Int.ofNat_zero, Int.natCast_zero, decide_true, if_true, Bool.or_eq_false_iff, decide_eq_false_iff_not] at d2
      exact d2.1
    · split at d2
      · simp only [Bool.or_eq_false_iff, Bool.and_eq_false_iff, decide_eq_false_iff_not, Bool.not_eq_false', decide_eq_true_eq] at d2
        rcases d2.2 with d2 | d2
        · exact absurd d2 h9
        · omega
      · simp only [Bool.and_eq_false_iff, decide_eq_false_iff_not, Bool.not_eq_false', decide_eq_true_eq] at d2
        rcases d2 with d2 | d2
        · exact absurd d2 h9
        · omega
  exact ⟨by omega, by omega, by omega, by omega, fun i hi => (row i hi).1, fun i j hi hj => (row i hi).2 j hj⟩
section
set_option maxRecDepth 8000
noncomputable def dc_laws_szStepS : DCode :=
  (.seq [1, 0] (.region [oi 0 4 0])
  (.seq [1] (.region [om 0 5 1,
 on 1 6 0,
 oa 2 7 (.len (.t 6)),
 oa 3 8 (.bin .sub (.t 5) (.t 7)),
 om 4 1 8])
  (.seq [1] (.seq [10, 1] (.region [om 0 9 1,
 oa 1 10 (.bin .lss (.t 9) (.c (.int .i64 0)))])
  (.cond (.t 10) (.seq [4] (.region [oi 0 4 (-1)])
  .ret) .skip))
  (.seq [4] (.region [om 0 11 1,
 om 1 4 11])
  .ret))))
noncomputable def df_laws_szStepS : DFun := ⟨2, 12, 0, true, [.tmp 4], dc_laws_szStepS⟩
noncomputable def pf_laws_szStepS : PFun := df_laws_szStepS.er
noncomputable def f_laws_szStepS : AFun := pf_laws_szStepS.er
@[irreducible] noncomputable def s_laws_szStepS : CallSem := funSem f_laws_szStepS
@[irreducible] noncomputable def p_laws_szStepS : PSem := pfunSem pf_laws_szStepS
theorem sp_laws_szStepS : SoundP s_laws_szStepS p_laws_szStepS := by unfold s_laws_szStepS p_laws_szStepS; exact pfun_sound (f := pf_laws_szStepS) trivial
def h_laws_szStepS : List HT := [.one .frz (.sl (.cons (.int .i64) (.cons (.int .i64) (.one (.int .i64))))), .one .frz (.int .i64)]
def q_laws_szStepS : QT := .one (.one .own (.int .i64))
@[irreducible] noncomputable def v_laws_szStepS (x : (List (Int × Int × Int)) × Int) : Int := (shut fun x => fnV df_laws_szStepS h_laws_szStepS q_laws_szStepS x).1 x
@[irreducible] noncomputable def ok_laws_szStepS (x : (List (Int × Int × Int)) × Int) : Prop := (shut fun x => fnOk df_laws_szStepS h_laws_szStepS q_laws_szStepS x).1 x
theorem vu_laws_szStepS (x : (List (Int × Int × Int)) × Int) : v_laws_szStepS x = fnV df_laws_szStepS h_laws_szStepS q_laws_szStepS x := by unfold v_laws_szStepS; exact congrFun (shut _).2 x
theorem ou_laws_szStepS (x : (List (Int × Int × Int)) × Int) : ok_laws_szStepS x = fnOk df_laws_szStepS h_laws_szStepS q_laws_szStepS x := by unfold ok_laws_szStepS; exact congrFun (shut _).2 x
noncomputable def D_laws_szStepS : DSem := DSemOf h_laws_szStepS q_laws_szStepS ok_laws_szStepS v_laws_szStepS
theorem ck_laws_szStepS (x : (List (Int × Int × Int)) × Int) : fnChk df_laws_szStepS h_laws_szStepS q_laws_szStepS x = true := by kernel_rfl
theorem ob_laws_szStepS : AllD df_laws_szStepS.body.obs := trivial
theorem st_laws_szStepS : fnSt df_laws_szStepS h_laws_szStepS q_laws_szStepS = true := by kernel_rfl
theorem sd_laws_szStepS : SoundD p_laws_szStepS D_laws_szStepS := by unfold p_laws_szStepS; exact soundD_of (f := df_laws_szStepS) (hs := h_laws_szStepS) (q := q_laws_szStepS) ob_laws_szStepS st_laws_szStepS ck_laws_szStepS (fun x h => Eq.mp (ou_laws_szStepS x) h) (fun x => (vu_laws_szStepS x).symm)
noncomputable def dc_laws_szStepSS : DCode :=
  (.seq [1, 0] (.region [oi 0 4 0])
  (.seq [1, 0] (.region [om 0 6 1,
 on 1 7 0,
 oa 2 8 (.len (.t 7)),
 oa 3 9 (.bin .sub (.t 6) (.t 8)),
 om 4 1 9])
  (.seq [1, 0] (.seq [11, 1, 0] (.region [om 0 10 1,
 oa 1 11 (.bin .lss (.t 10) (.c (.int .i64 0)))])
  (.cond (.t 11) (.seq [4] (.region [oi 0 4 (-1)])
  .ret) .skip))
  (.seq [1] (.seq [5, 1, 0] (.region [oi 0 5 0])
  (.block 0 (.loop [0, 1, 5] 1 (.seq [5, 1, 0] (.seq [15, 5, 1, 0] (.region [om 0 12 5,
 on 1 13 0,
 oa 2 14 (.len (.t 13)),
 oa 3 15 (.bin .lss (.t 12) (.t 14))])
  (.cond (.t 15) .skip (.exit 0)))
  (.seq [5, 1, 0] (.block 1 (.seq [5, 1, 0] (.region [on 0 18 0,
 om 1 19 5,
 oa 2 20 (.indexA 1 (.t 18) (.t 19)),
 oa 3 21 (.loadH none (.t 20)),
 om 4 22 1,
 oc 5 23 s_laws_szStepS p_laws_szStepS D_laws_szStepS [(.t 21), (.t 22)],
 om 6 1 23])
  (.seq [25, 5, 1, 0] (.region [om 0 24 1,
 oa 1 25 (.bin .lss (.t 24) (.c (.int .i64 0)))])
  (.cond (.t 25) (.seq [4] (.region [oi 0 4 (-1)])
  .ret) .skip))))
  (.region [om 0 16 5,
 oa 1 17 (.bin .add (.t 16) (.c (.int .i64 1))),
 om 2 5 17]))))))
  (.seq [4] (.region [om 0 26 1,
 om 1 4 26])
  .ret)))))
noncomputable def df_laws_szStepSS : DFun := ⟨2, 27, 0, true, [.tmp 4], dc_laws_szStepSS⟩
noncomputable def pf_laws_szStepSS : PFun := df_laws_szStepSS.er
noncomputable def f_laws_szStepSS : AFun := pf_laws_szStepSS.er
@[irreducible] noncomputable def s_laws_szStepSS : CallSem := funSem f_laws_szStepSS
@[irreducible] noncomputable def p_laws_szStepSS : PSem := pfunSem pf_laws_szStepSS
theorem sp_laws_szStepSS : SoundP s_laws_szStepSS p_laws_szStepSS := by unfold s_laws_szStepSS p_laws_szStepSS; exact pfun_sound (f := pf_laws_szStepSS) ⟨sp_laws_szStepS, trivial⟩
def h_laws_szStepSS : List HT := [.one .frz (.sl (.one (.sl (.cons (.int .i64) (.cons (.int .i64) (.one (.int .i64))))))), .one .frz (.int .i64)]
def q_laws_szStepSS : QT := .one (.one .own (.int .i64))
@[irreducible] noncomputable def v_laws_szStepSS (x : (List (List (Int × Int × Int))) × Int) : Int := (shut fun x => fnV df_laws_szStepSS h_laws_szStepSS q_laws_szStepSS x).1 x
@[irreducible] noncomputable def ok_laws_szStepSS (x : (List (List (Int × Int × Int))) × Int) : Prop := (shut fun x => fnOk df_laws_szStepSS h_laws_szStepSS q_laws_szStepSS x).1 x
theorem vu_laws_szStepSS (x : (List (List (Int × Int × Int))) × Int) : v_laws_szStepSS x = fnV df_laws_szStepSS h_laws_szStepSS q_laws_szStepSS x := by unfold v_laws_szStepSS; exact congrFun (shut _).2 x
theorem ou_laws_szStepSS (x : (List (List (Int × Int × Int))) × Int) : ok_laws_szStepSS x = fnOk df_laws_szStepSS h_laws_szStepSS q_laws_szStepSS x := by unfold ok_laws_szStepSS; exact congrFun (shut _).2 x
noncomputable def D_laws_szStepSS : DSem := DSemOf h_laws_szStepSS q_laws_szStepSS ok_laws_szStepSS v_laws_szStepSS
theorem ck_laws_szStepSS (x : (List (List (Int × Int × Int))) × Int) : fnChk df_laws_szStepSS h_laws_szStepSS q_laws_szStepSS x = true := by kernel_rfl
theorem ob_laws_szStepSS : AllD df_laws_szStepSS.body.obs := ⟨sd_laws_szStepS, trivial⟩
theorem st_laws_szStepSS : fnSt df_laws_szStepSS h_laws_szStepSS q_laws_szStepSS = true := by kernel_rfl
theorem sd_laws_szStepSS : SoundD p_laws_szStepSS D_laws_szStepSS := by unfold p_laws_szStepSS; exact soundD_of (f := df_laws_szStepSS) (hs := h_laws_szStepSS) (q := q_laws_szStepSS) ob_laws_szStepSS st_laws_szStepSS ck_laws_szStepSS (fun x h => Eq.mp (ou_laws_szStepSS x) h) (fun x => (vu_laws_szStepSS x).symm)
noncomputable def dc_laws_szEngine : DCode :=
  (.seq [2, 1] (.region [oa 0 2 (.boxB 0 7 (.t 0)),
 oi 1 4 0])
  (.seq [2, 1] (.region [oa 0 5 (.fieldA 0 (.t 2)),
 oa 1 6 (.loadB 0 (some 2) (.t 5)),
 om 2 7 1,
 oc 3 8 s_laws_szKeymap p_laws_szKeymap D_laws_szKeymap [(.t 6), (.t 7)],
 om 4 1 8])
  (.seq [2, 1] (.seq [10, 2, 1] (.region [om 0 9 1,
 oa 1 10 (.bin .lss (.t 9) (.c (.int .i64 0)))])
  (.cond (.t 10) (.seq [4] (.region [oi 0 4 (-1)])
  .ret) .skip))
  (.seq [2, 1] (.region [oa 0 11 (.fieldA 2 (.t 2)),
 oa 1 12 (.loadB 0 none (.t 11)),
 om 2 13 1,
 oc 3 14 s_laws_szStepSS p_laws_szStepSS D_laws_szStepSS [(.t 12), (.t 13)],
 om 4 1 14])
  (.seq [2, 1] (.seq [16, 2, 1] (.region [om 0 15 1,
 oa 1 16 (.bin .lss (.t 15) (.c (.int .i64 0)))])
  (.cond (.t 16) (.seq [4] (.region [oi 0 4 (-1)])
  .ret) .skip))
  (.seq [1] (.region [oa 0 17 (.fieldA 4 (.t 2)),
 oa 1 18 (.loadB 0 none (.t 17)),
 om 2 19 1,
 oc 3 20 s_laws_szHeldS p_laws_szHeldS D_laws_szHeldS [(.t 18), (.t 19)],
 om 4 1 20])
  (.seq [1] (.seq [22, 1] (.region [om 0 21 1,
 oa 1 22 (.bin .lss (.t 21) (.c (.int .i64 0)))])
  (.cond (.t 22) (.seq [4] (.region [oi 0 4 (-1)])
  .ret) .skip))
  (.seq [4] (.region [om 0 23 1,
 om 1 4 23])
  .ret))))))))
noncomputable def df_laws_szEngine : DFun := ⟨2, 24, 1, true, [.tmp 4], dc_laws_szEngine⟩
noncomputable def pf_laws_szEngine : PFun := df_laws_szEngine.er
noncomputable def f_laws_szEngine : AFun := pf_laws_szEngine.er
@[irreducible] noncomputable def s_laws_szEngine : CallSem := funSem f_laws_szEngine
@[irreducible] noncomputable def p_laws_szEngine : PSem := pfunSem pf_laws_szEngine
theorem sp_laws_szEngine : SoundP s_laws_szEngine p_laws_szEngine := by unfold s_laws_szEngine p_laws_szEngine; exact pfun_sound (f := pf_laws_szEngine) ⟨sp_laws_szKeymap, sp_laws_szStepSS, sp_laws_szHeldS, trivial⟩
def h_laws_szEngine : List HT := [.agg [(.frz, .int .i64), (.frz, .sl (.one (.sl (.cons (.int .i64) (.cons (.int .i64) (.cons (.int .i64) (.one (.int .i64)))))))), (.frz, .sl (.one (.sl (.cons (.int .i64) (.cons (.int .i64) (.one (.int .i64))))))), (.frz, .int .i64), (.frz, .sl (.cons (.int .i64) (.cons (.int .i64) (.cons (.int .i64) (.cons (.int .i64) (.one (.int .i64))))))), (.frz, .int .i64), (.frz, .bool)], .one .frz (.int .i64)]
def q_laws_szEngine : QT := .one (.one .own (.int .i64))
@[irreducible] noncomputable def v_laws_szEngine (x : (Int × (List (List (Int × Int × Int × Int))) × (List (List (Int × Int × Int))) × Int × (List (Int × Int × Int × Int × Int)) × Int × Bool) × Int) : Int := (shut fun x => fnV df_laws_szEngine h_laws_szEngine q_laws_szEngine x).1 x
@[irreducible] noncomputable def ok_laws_szEngine (x : (Int × (List (List (Int × Int × Int × Int))) × (List (List (Int × Int × Int))) × Int × (List (Int × Int × Int × Int × Int)) × Int × Bool) × Int) : Prop := (shut fun x => fnOk df_laws_szEngine h_laws_szEngine q_laws_szEngine x).1 x
theorem vu_laws_szEngine (x : (Int × (List (List (Int × Int × Int × Int))) × (List (List (Int × Int × Int))) × Int × (List (Int × Int × Int × Int × Int)) × Int × Bool) × Int) : v_laws_szEngine x = fnV df_laws_szEngine h_laws_szEngine q_laws_szEngine x := by unfold v_laws_szEngine; exact congrFun (shut _).2 x
theorem ou_laws_szEngine (x : (Int × (List (List (Int × Int × Int × Int))) × (List (List (Int × Int × Int))) × Int × (List (Int × Int × Int × Int × Int)) × Int × Bool) × Int) : ok_laws_szEngine x = fnOk df_laws_szEngine h_laws_szEngine q_laws_szEngine x := by unfold ok_laws_szEngine; exact congrFun (shut _).2 x
noncomputable def D_laws_szEngine : DSem := DSemOf h_laws_szEngine q_laws_szEngine ok_laws_szEngine v_laws_szEngine
theorem ck_laws_szEngine (x : (Int × (List (List (Int × Int × Int × Int))) × (List (List (Int × Int × Int))) × Int × (List (Int × Int × Int × Int × Int)) × Int × Bool) × Int) : fnChk df_laws_szEngine h_laws_szEngine q_laws_szEngine x = true := by kernel_rfl
theorem ob_laws_szEngine : AllD df_laws_szEngine.body.obs := ⟨sd_laws_szKeymap, sd_laws_szStepSS, sd_laws_szHeldS, trivial⟩
theorem st_laws_szEngine : fnSt df_laws_szEngine h_laws_szEngine q_laws_szEngine = true := by kernel_rfl
theorem sd_laws_szEngine : SoundD p_laws_szEngine D_laws_szEngine := by unfold p_laws_szEngine; exact soundD_of (f := df_laws_szEngine) (hs := h_laws_szEngine) (q := q_laws_szEngine) ob_laws_szEngine st_laws_szEngine ck_laws_szEngine (fun x h => Eq.mp (ou_laws_szEngine x) h) (fun x => (vu_laws_szEngine x).symm)
noncomputable def dc_laws_toStep : DCode :=
  (.seq [2, 1] (.region [oa 0 1 (.boxB 0 3 (.t 0)),
 oa 1 2 (.allocB 1 [(.int .i64 0), (.int .i64 0), (.int .i64 0)])])
  (.seq [3, 2, 1] (.region [oa 0 3 (.allocB 2 [(.int .i64 0), (.int .i64 0), (.int .i64 0)])])
  (.seq [3, 2, 1] (.region [oa 0 4 (.fieldA 0 (.t 1)),
 ob 1 5 (.loadB 0 none (.t 4)),
 oa 2 6 (.fieldA 0 (.t 3)),
 os 3 (.storeB 2 1 (.t 6) (.t 5))])
  (.seq [3, 2, 1] (.region [oa 0 7 (.fieldA 1 (.t 1)),
 ob 1 8 (.loadB 0 none (.t 7)),
 oa 2 9 (.fieldA 1 (.t 3)),
 os 3 (.storeB 2 1 (.t 9) (.t 8))])
  (.seq [3, 2] (.region [oa 0 10 (.fieldA 2 (.t 1)),
 ob 1 11 (.loadB 0 none (.t 10)),
 oa 2 12 (.fieldA 2 (.t 3)),
 os 3 (.storeB 2 1 (.t 12) (.t 11))])
  (.seq [2] (.region [ob 0 13 (.loadB 2 (some 3) (.t 3)),
 os 1 (.storeB 1 3 (.t 2) (.t 13))])
  .ret))))))
noncomputable def df_laws_toStep : DFun := ⟨1, 14, 3, true, [.cell 2 (some 3)], dc_laws_toStep⟩
noncomputable def pf_laws_toStep : PFun := df_laws_toStep.er
noncomputable def f_laws_toStep : AFun := pf_laws_toStep.er
@[irreducible] noncomputable def s_laws_toStep : CallSem := funSem f_laws_toStep
@[irreducible] noncomputable def p_laws_toStep : PSem := pfunSem pf_laws_toStep
theorem sp_laws_toStep : SoundP s_laws_toStep p_laws_toStep := by unfold s_laws_toStep p_laws_toStep; exact pfun_sound (f := pf_laws_toStep) trivial
def h_laws_toStep : List HT := [.agg [(.frz, .int .i64), (.frz, .int .i64), (.frz, .int .i64)]]
def q_laws_toStep : QT := .one (.agg [(.own, .int .i64), (.own, .int .i64), (.own, .int .i64)])
@[irreducible] noncomputable def v_laws_toStep (x : Int × Int × Int) : Int × Int × Int := (shut fun x => fnV df_laws_toStep h_laws_toStep q_laws_toStep x).1 x
@[irreducible] noncomputable def ok_laws_toStep (x : Int × Int × Int) : Prop := (shut fun x => fnOk df_laws_toStep h_laws_toStep q_laws_toStep x).1 x
theorem vu_laws_toStep (x : Int × Int × Int) : v_laws_toStep x = fnV df_laws_toStep h_laws_toStep q_laws_toStep x := by unfold v_laws_toStep; exact congrFun (shut _).2 x
theorem ou_laws_toStep (x : Int × Int × Int) : ok_laws_toStep x = fnOk df_laws_toStep h_laws_toStep q_laws_toStep x := by unfold ok_laws_toStep; exact congrFun (shut _).2 x
noncomputable def D_laws_toStep : DSem := DSemOf h_laws_toStep q_laws_toStep ok_laws_toStep v_laws_toStep
theorem ck_laws_toStep (x : Int × Int × Int) : fnChk df_laws_toStep h_laws_toStep q_laws_toStep x = true := by kernel_rfl
theorem ob_laws_toStep : AllD df_laws_toStep.body.obs := trivial
theorem st_laws_toStep : fnSt df_laws_toStep h_laws_toStep q_laws_toStep = true := by kernel_rfl
theorem sd_laws_toStep : SoundD p_laws_toStep D_laws_toStep := by unfold p_laws_toStep; exact soundD_of (f := df_laws_toStep) (hs := h_laws_toStep) (q := q_laws_toStep) ob_laws_toStep st_laws_toStep ck_laws_toStep (fun x h => Eq.mp (ou_laws_toStep x) h) (fun x => (vu_laws_toStep x).symm)
noncomputable def dc_laws_toStepS : DCode :=
  (.seq [0] (.region [oa 0 2 (.mv (.c .nils))])
  (.seq [3, 0] (.region [on 0 5 0,
 oa 1 6 (.len (.t 5)),
 ⟨2, some 7, .a false (.mkSlice 3 [(.int .i64 0), (.int .i64 0), (.int .i64 0)] (.t 6)) (some (.cons (.int .i64) (.cons (.int .i64) (.one (.int .i64))))), none, []⟩,
 om 3 3 7])
  (.seq [3] (.seq [4, 3, 0] (.region [oi 0 4 0])
  (.block 0 (.loop [0, 3, 4] 1 (.seq [4, 3, 0] (.seq [11, 4, 3, 0] (.region [om 0 8 4,
 on 1 9 0,
 oa 2 10 (.len (.t 9)),
 oa 3 11 (.bin .lss (.t 8) (.t 10))])
  (.cond (.t 11) .skip (.exit 0)))
  (.seq [4, 3, 0] (.block 1 (.region [on 0 14 3,
 om 1 15 4,
 on 2 16 0,
 om 3 17 4,
 oa 4 18 (.indexA 3 (.t 16) (.t 17)),
 oa 5 19 (.loadH (some 3) (.t 18)),
 oc 6 20 s_laws_toStep p_laws_toStep D_laws_toStep [(.t 19)],
 oa 7 21 (.indexA 3 (.t 14) (.t 15)),
 os 8 (.storeH 3 (.t 21) (.t 20))]))
  (.region [om 0 12 4,
 oa 1 13 (.bin .add (.t 12) (.c (.int .i64 1))),
 om 2 4 13]))))))
  (.seq [2] (.region [om 0 22 3,
 om 1 2 22])
  .ret))))
noncomputable def df_laws_toStepS : DFun := ⟨1, 23, 0, false, [.tmp 2], dc_laws_toStepS⟩
noncomputable def pf_laws_toStepS : PFun := df_laws_toStepS.er
noncomputable def f_laws_toStepS : AFun := pf_laws_toStepS.er
@[irreducible] noncomputable def s_laws_toStepS : CallSem := funSem f_laws_toStepS
@[irreducible] noncomputable def p_laws_toStepS : PSem := pfunSem pf_laws_toStepS
theorem sp_laws_toStepS : SoundP s_laws_toStepS p_laws_toStepS := by unfold s_laws_toStepS p_laws_toStepS; exact pfun_sound (f := pf_laws_toStepS) ⟨sp_laws_toStep, trivial⟩
def h_laws_toStepS : List HT := [.one .frz (.sl (.cons (.int .i64) (.cons (.int .i64) (.one (.int .i64)))))]
def q_laws_toStepS : QT := .one (.one .own (.sl (.cons (.int .i64) (.cons (.int .i64) (.one (.int .i64))))))
@[irreducible] noncomputable def v_laws_toStepS (x : List (Int × Int × Int)) : List (Int × Int × Int) := (shut fun x => fnV df_laws_toStepS h_laws_toStepS q_laws_toStepS x).1 x
@[irreducible] noncomputable def ok_laws_toStepS (x : List (Int × Int × Int)) : Prop := (shut fun x => fnOk df_laws_toStepS h_laws_toStepS q_laws_toStepS x).1 x
theorem vu_laws_toStepS (x : List (Int × Int × Int)) : v_laws_toStepS x = fnV df_laws_toStepS h_laws_toStepS q_laws_toStepS x := by unfold v_laws_toStepS; exact congrFun (shut _).2 x
theorem ou_laws_toStepS (x : List (Int × Int × Int)) : ok_laws_toStepS x = fnOk df_laws_toStepS h_laws_toStepS q_laws_toStepS x := by unfold ok_laws_toStepS; exact congrFun (shut _).2 x
noncomputable def D_laws_toStepS : DSem := DSemOf h_laws_toStepS q_laws_toStepS ok_laws_toStepS v_laws_toStepS
theorem ck_laws_toStepS (x : List (Int × Int × Int)) : fnChk df_laws_toStepS h_laws_toStepS q_laws_toStepS x = true := by kernel_rfl
theorem ob_laws_toStepS : AllD df_laws_toStepS.body.obs := ⟨sd_laws_toStep, trivial⟩
theorem st_laws_toStepS : fnSt df_laws_toStepS h_laws_toStepS q_laws_toStepS = true := by kernel_rfl
theorem sd_laws_toStepS : SoundD p_laws_toStepS D_laws_toStepS := by unfold p_laws_toStepS; exact soundD_of (f := df_laws_toStepS) (hs := h_laws_toStepS) (q := q_laws_toStepS) ob_laws_toStepS st_laws_toStepS ck_laws_toStepS (fun x h => Eq.mp (ou_laws_toStepS x) h) (fun x => (vu_laws_toStepS x).symm)
noncomputable def dc_laws_toStepSS : DCode :=
  (.seq [0] (.region [oa 0 2 (.mv (.c .nils))])
  (.seq [3, 0] (.region [on 0 5 0,
 oa 1 6 (.len (.t 5)),
 ⟨2, some 7, .a false (.mkSlice 1 [.nils] (.t 6)) (some (.one (.sl (.cons (.int .i64) (.cons (.int .i64) (.one (.int .i64))))))), none, []⟩,
 om 3 3 7])
  (.seq [3] (.seq [4, 3, 0] (.region [oi 0 4 0])
  (.block 0 (.loop [0, 3, 4] 1 (.seq [4, 3, 0] (.seq [11, 4, 3, 0] (.region [om 0 8 4,
 on 1 9 0,
 oa 2 10 (.len (.t 9)),
 oa 3 11 (.bin .lss (.t 8) (.t 10))])
  (.cond (.t 11) .skip (.exit 0)))
  (.seq [4, 3, 0] (.block 1 (.region [on 0 14 3,
 om 1 15 4,
 on 2 16 0,
 om 3 17 4,
 oa 4 18 (.indexA 1 (.t 16) (.t 17)),
 oa 5 19 (.loadH none (.t 18)),
 oc 6 20 s_laws_toStepS p_laws_toStepS D_laws_toStepS [(.t 19)],
 oa 7 21 (.indexA 1 (.t 14) (.t 15)),
 os 8 (.storeH 1 (.t 21) (.t 20))]))
  (.region [om 0 12 4,
 oa 1 13 (.bin .add (.t 12) (.c (.int .i64 1))),
 om 2 4 13]))))))
  (.seq [2] (.region [om 0 22 3,
 om 1 2 22])
  .ret))))
noncomputable def df_laws_toStepSS : DFun := ⟨1, 23, 0, false, [.tmp 2], dc_laws_toStepSS⟩
noncomputable def pf_laws_toStepSS : PFun := df_laws_toStepSS.er
noncomputable def f_laws_toStepSS : AFun := pf_laws_toStepSS.er
@[irreducible] noncomputable def s_laws_toStepSS : CallSem := funSem f_laws_toStepSS
@[irreducible] noncomputable def p_laws_toStepSS : PSem := pfunSem pf_laws_toStepSS
theorem sp_laws_toStepSS : SoundP s_laws_toStepSS p_laws_toStepSS := by unfold s_laws_toStepSS p_laws_toStepSS; exact pfun_sound (f := pf_laws_toStepSS) ⟨sp_laws_toStepS, trivial⟩
def h_laws_toStepSS : List HT := [.one .frz (.sl (.one (.sl (.cons (.int .i64) (.cons (.int .i64) (.one (.int .i64)))))))]
def q_laws_toStepSS : QT := .one (.one .own (.sl (.one (.sl (.cons (.int .i64) (.cons (.int .i64) (.one (.int .i64))))))))
@[irreducible] noncomputable def v_laws_toStepSS (x : List (List (Int × Int × Int))) : List (List (Int × Int × Int)) := (shut fun x => fnV df_laws_toStepSS h_laws_toStepSS q_laws_toStepSS x).1 x
@[irreducible] noncomputable def ok_laws_toStepSS (x : List (List (Int × Int × Int))) : Prop := (shut fun x => fnOk df_laws_toStepSS h_laws_toStepSS q_laws_toStepSS x).1 x
theorem vu_laws_toStepSS (x : List (List (Int × Int × Int))) : v_laws_toStepSS x = fnV df_laws_toStepSS h_laws_toStepSS q_laws_toStepSS x := by unfold v_laws_toStepSS; exact congrFun (shut _).2 x
theorem ou_laws_toStepSS (x : List (List (Int × Int × Int))) : ok_laws_toStepSS x = fnOk df_laws_toStepSS h_laws_toStepSS q_laws_toStepSS x := by unfold ok_laws_toStepSS; exact congrFun (shut _).2 x
noncomputable def D_laws_toStepSS : DSem := DSemOf h_laws_toStepSS q_laws_toStepSS ok_laws_toStepSS v_laws_toStepSS
theorem ck_laws_toStepSS (x : List (List (Int × Int × Int))) : fnChk df_laws_toStepSS h_laws_toStepSS q_laws_toStepSS x = true := by kernel_rfl
theorem ob_laws_toStepSS : AllD df_laws_toStepSS.body.obs := ⟨sd_laws_toStepS, trivial⟩
theorem st_laws_toStepSS : fnSt df_laws_toStepSS h_laws_toStepSS q_laws_toStepSS = true := by kernel_rfl
theorem sd_laws_toStepSS : SoundD p_laws_toStepSS D_laws_toStepSS := by unfold p_laws_toStepSS; exact soundD_of (f := df_laws_toStepSS) (hs := h_laws_toStepSS) (q := q_laws_toStepSS) ob_laws_toStepSS st_laws_toStepSS ck_laws_toStepSS (fun x h => Eq.mp (ou_laws_toStepSS x) h) (fun x => (vu_laws_toStepSS x).symm)
noncomputable def dc_laws_toEngine : DCode :=
  (.seq [2, 1] (.region [oa 0 1 (.boxB 0 7 (.t 0)),
 oa 1 2 (.allocB 1 [(.int .i64 0), .nils, .nils, (.int .i64 0), .nils, (.int .i64 0), (.bool false)])])
  (.seq [3, 2, 1] (.region [oa 0 3 (.allocB 2 [(.int .i64 0), .nils, .nils, (.int .i64 0), .nils, (.int .i64 0), (.bool false)])])
  (.seq [3, 2, 1] (.region [oa 0 4 (.fieldA 0 (.t 1)),
 oa 1 5 (.loadB 0 (some 2) (.t 4)),
 oc 2 6 s_laws_toKeymap p_laws_toKeymap D_laws_toKeymap [(.t 5)],
 oa 3 7 (.fieldA 0 (.t 3)),
 os 4 (.storeB 2 2 (.t 7) (.t 6))])
  (.seq [3, 2, 1] (.region [oa 0 8 (.fieldA 2 (.t 1)),
 oa 1 9 (.loadB 0 none (.t 8)),
 oc 2 10 s_laws_toStepSS p_laws_toStepSS D_laws_toStepSS [(.t 9)],
 oa 3 11 (.fieldA 2 (.t 3)),
 os 4 (.storeB 2 1 (.t 11) (.t 10))])
  (.seq [3, 2, 1] (.region [oa 0 12 (.fieldA 3 (.t 1)),
 ob 1 13 (.loadB 0 none (.t 12)),
 oa 2 14 (.fieldA 3 (.t 3)),
 os 3 (.storeB 2 1 (.t 14) (.t 13))])
  (.seq [3, 2, 1] (.region [oa 0 15 (.fieldA 4 (.t 1)),
 oa 1 16 (.loadB 0 none (.t 15)),
 oc 2 17 s_laws_toHeldS p_laws_toHeldS D_laws_toHeldS [(.t 16)],
 oa 3 18 (.fieldA 4 (.t 3)),
 os 4 (.storeB 2 1 (.t 18) (.t 17))])
  (.seq [3, 2, 1] (.region [oa 0 19 (.fieldA 5 (.t 1)),
 ob 1 20 (.loadB 0 none (.t 19)),
 oa 2 21 (.fieldA 5 (.t 3)),
 os 3 (.storeB 2 1 (.t 21) (.t 20))])
  (.seq [3, 2] (.region [oa 0 22 (.fieldA 6 (.t 1)),
 ob 1 23 (.loadB 0 none (.t 22)),
 oa 2 24 (.fieldA 6 (.t 3)),
 os 3 (.storeB 2 1 (.t 24) (.t 23))])
  (.seq [2] (.region [ob 0 25 (.loadB 2 (some 7) (.t 3)),
 os 1 (.storeB 1 7 (.t 2) (.t 25))])
  .ret)))))))))
noncomputable def df_laws_toEngine : DFun := ⟨1, 26, 3, false, [.cell 2 (some 7)], dc_laws_toEngine⟩
noncomputable def pf_laws_toEngine : PFun := df_laws_toEngine.er
noncomputable def f_laws_toEngine : AFun := pf_laws_toEngine.er
@[irreducible] noncomputable def s_laws_toEngine : CallSem := funSem f_laws_toEngine
@[irreducible] noncomputable def p_laws_toEngine : PSem := pfunSem pf_laws_toEngine
theorem sp_laws_toEngine : SoundP s_laws_toEngine p_laws_toEngine := by unfold s_laws_toEngine p_laws_toEngine; exact pfun_sound (f := pf_laws_toEngine) ⟨sp_laws_toKeymap, sp_laws_toStepSS, sp_laws_toHeldS, trivial⟩
def h_laws_toEngine : List HT := [.agg [(.frz, .int .i64), (.frz, .sl (.one (.sl (.cons (.int .i64) (.cons (.int .i64) (.cons (.int .i64) (.one (.int .i64)))))))), (.frz, .sl (.one (.sl (.cons (.int .i64) (.cons (.int .i64) (.one (.int .i64))))))), (.frz, .int .i64), (.frz, .sl (.cons (.int .i64) (.cons (.int .i64) (.cons (.int .i64) (.cons (.int .i64) (.one (.int .i64))))))), (.frz, .int .i64), (.frz, .bool)]]
def q_laws_toEngine : QT := .one (.agg [(.own, .int .i64), (.own, .sl (.one (.sl (.cons (.int .i64) (.cons (.int .i64) (.cons (.int .i64) (.one (.int .i64)))))))), (.own, .sl (.one (.sl (.cons (.int .i64) (.cons (.int .i64) (.one (.int .i64))))))), (.own, .int .i64), (.own, .sl (.cons (.int .i64) (.cons (.int .i64) (.cons (.int .i64) (.cons (.int .i64) (.one (.int .i64))))))), (.own, .int .i64), (.own, .bool)])
@[irreducible] noncomputable def v_laws_toEngine (x : Int × (List (List (Int × Int × Int × Int))) × (List (List (Int × Int × Int))) × Int × (List (Int × Int × Int × Int × Int)) × Int × Bool) : Int × (List (List (Int × Int × Int × Int))) × (List (List (Int × Int × Int))) × Int × (List (Int × Int × Int × Int × Int)) × Int × Bool := (shut fun x => fnV df_laws_toEngine h_laws_toEngine q_laws_toEngine x).1 x
@[irreducible] noncomputable def ok_laws_toEngine (x : Int × (List (List (Int × Int × Int × Int))) × (List (List (Int × Int × Int))) × Int × (List (Int × Int × Int × Int × Int)) × Int × Bool) : Prop := (shut fun x => fnOk df_laws_toEngine h_laws_toEngine q_laws_toEngine x).1 x
theorem vu_laws_toEngine (x : Int × (List (List (Int × Int × Int × Int))) × (List (List (Int × Int × Int))) × Int × (List (Int × Int × Int × Int × Int)) × Int × Bool) : v_laws_toEngine x = fnV df_laws_toEngine h_laws_toEngine q_laws_toEngine x := by unfold v_laws_toEngine; exact congrFun (shut _).2 x
theorem ou_laws_toEngine (x : Int × (List (List (Int × Int × Int × Int))) × (List (List (Int × Int × Int))) × Int × (List (Int × Int × Int × Int × Int)) × Int × Bool) : ok_laws_toEngine x = fnOk df_laws_toEngine h_laws_toEngine q_laws_toEngine x := by unfold ok_laws_toEngine; exact congrFun (shut _).2 x
noncomputable def D_laws_toEngine : DSem := DSemOf h_laws_toEngine q_laws_toEngine ok_laws_toEngine v_laws_toEngine
theorem ck_laws_toEngine (x : Int × (List (List (Int × Int × Int × Int))) × (List (List (Int × Int × Int))) × Int × (List (Int × Int × Int × Int × Int)) × Int × Bool) : fnChk df_laws_toEngine h_laws_toEngine q_laws_toEngine x = true := by kernel_rfl
theorem ob_laws_toEngine : AllD df_laws_toEngine.body.obs := ⟨sd_laws_toKeymap, sd_laws_toStepSS, sd_laws_toHeldS, trivial⟩
theorem st_laws_toEngine : fnSt df_laws_toEngine h_laws_toEngine q_laws_toEngine = true := by kernel_rfl
theorem sd_laws_toEngine : SoundD p_laws_toEngine D_laws_toEngine := by unfold p_laws_toEngine; exact soundD_of (f := df_laws_toEngine) (hs := h_laws_toEngine) (q := q_laws_toEngine) ob_laws_toEngine st_laws_toEngine ck_laws_toEngine (fun x h => Eq.mp (ou_laws_toEngine x) h) (fun x => (vu_laws_toEngine x).symm)
noncomputable def dc_laws_eqStep : DCode :=
  (.seq [3, 2] (.region [oa 0 2 (.boxB 0 3 (.t 0)),
 oa 1 3 (.boxB 1 3 (.t 1)),
 oa 2 4 (.mv (.c (.bool false)))])
  (.seq [3, 2] (.seq [9, 3, 2] (.region [oa 0 5 (.fieldA 0 (.t 2)),
 oa 1 6 (.loadB 0 none (.t 5)),
 oa 2 7 (.fieldA 0 (.t 3)),
 oa 3 8 (.loadB 1 none (.t 7)),
 oa 4 9 (.bin .neq (.t 6) (.t 8))])
  (.cond (.t 9) (.seq [4] (.region [oa 0 4 (.mv (.c (.bool false)))])
  .ret) .skip))
  (.seq [3, 2] (.seq [14, 3, 2] (.region [oa 0 10 (.fieldA 1 (.t 2)),
 oa 1 11 (.loadB 0 none (.t 10)),
 oa 2 12 (.fieldA 1 (.t 3)),
 oa 3 13 (.loadB 1 none (.t 12)),
 oa 4 14 (.bin .neq (.t 11) (.t 13))])
  (.cond (.t 14) (.seq [4] (.region [oa 0 4 (.mv (.c (.bool false)))])
  .ret) .skip))
  (.seq [] (.seq [19] (.region [oa 0 15 (.fieldA 2 (.t 2)),
 oa 1 16 (.loadB 0 none (.t 15)),
 oa 2 17 (.fieldA 2 (.t 3)),
 oa 3 18 (.loadB 1 none (.t 17)),
 oa 4 19 (.bin .neq (.t 16) (.t 18))])
  (.cond (.t 19) (.seq [4] (.region [oa 0 4 (.mv (.c (.bool false)))])
  .ret) .skip))
  (.seq [4] (.region [oa 0 4 (.mv (.c (.bool true)))])
  .ret)))))
noncomputable def df_laws_eqStep : DFun := ⟨2, 20, 2, true, [.tmp 4], dc_laws_eqStep⟩
noncomputable def pf_laws_eqStep : PFun := df_laws_eqStep.er
noncomputable def f_laws_eqStep : AFun := pf_laws_eqStep.er
@[irreducible] noncomputable def s_laws_eqStep : CallSem := funSem f_laws_eqStep
@[irreducible] noncomputable def p_laws_eqStep : PSem := pfunSem pf_laws_eqStep
theorem sp_laws_eqStep : SoundP s_laws_eqStep p_laws_eqStep := by unfold s_laws_eqStep p_laws_eqStep; exact pfun_sound (f := pf_laws_eqStep) trivial
def h_laws_eqStep : List HT := [.agg [(.frz, .int .i64), (.frz, .int .i64), (.frz, .int .i64)], .agg [(.frz, .int .i64), (.frz, .int .i64), (.frz, .int .i64)]]
def q_laws_eqStep : QT := .one (.one .own (.bool))
@[irreducible] noncomputable def v_laws_eqStep (x : (Int × Int × Int) × (Int × Int × Int)) : Bool := (shut fun x => fnV df_laws_eqStep h_laws_eqStep q_laws_eqStep x).1 x
@[irreducible] noncomputable def ok_laws_eqStep (x : (Int × Int × Int) × (Int × Int × Int)) : Prop := (shut fun x => fnOk df_laws_eqStep h_laws_eqStep q_laws_eqStep x).1 x
theorem vu_laws_eqStep (x : (Int × Int × Int) × (Int × Int × Int)) : v_laws_eqStep x = fnV df_laws_eqStep h_laws_eqStep q_laws_eqStep x := by unfold v_laws_eqStep; exact congrFun (shut _).2 x
theorem ou_laws_eqStep (x : (Int × Int × Int) × (Int × Int × Int)) : ok_laws_eqStep x = fnOk df_laws_eqStep h_laws_eqStep q_laws_eqStep x := by unfold ok_laws_eqStep; exact congrFun (shut _).2 x
noncomputable def D_laws_eqStep : DSem := DSemOf h_laws_eqStep q_laws_eqStep ok_laws_eqStep v_laws_eqStep
theorem ck_laws_eqStep (x : (Int × Int × Int) × (Int × Int × Int)) : fnChk df_laws_eqStep h_laws_eqStep q_laws_eqStep x = true := by kernel_rfl
theorem ob_laws_eqStep : AllD df_laws_eqStep.body.obs := trivial
theorem st_laws_eqStep : fnSt df_laws_eqStep h_laws_eqStep q_laws_eqStep = true := by kernel_rfl
theorem sd_laws_eqStep : SoundD p_laws_eqStep D_laws_eqStep := by unfold p_laws_eqStep; exact soundD_of (f := df_laws_eqStep) (hs := h_laws_eqStep) (q := q_laws_eqStep) ob_laws_eqStep st_laws_eqStep ck_laws_eqStep (fun x h => Eq.mp (ou_laws_eqStep x) h) (fun x => (vu_laws_eqStep x).symm)
noncomputable def dc_laws_eqStepS : DCode :=
  (.seq [1, 0] (.region [oa 0 4 (.mv (.c (.bool false)))])
  (.seq [1, 0] (.seq [10, 1, 0] (.region [on 0 6 0,
 oa 1 7 (.len (.t 6)),
 on 2 8 1,
 oa 3 9 (.len (.t 8)),
 oa 4 10 (.bin .neq (.t 7) (.t 9))])
  (.cond (.t 10) (.seq [4] (.region [oa 0 4 (.mv (.c (.bool false)))])
  .ret) .skip))
  (.seq [] (.seq [5, 1, 0] (.region [oi 0 5 0])
  (.block 0 (.loop [0, 1, 5] 1 (.seq [5, 1, 0] (.seq [14, 5, 1, 0] (.region [om 0 11 5,
 on 1 12 0,
 oa 2 13 (.len (.t 12)),
 oa 3 14 (.bin .lss (.t 11) (.t 13))])
  (.cond (.t 14) .skip (.exit 0)))
  (.seq [5, 1, 0] (.block 1 (.seq [26, 5, 1, 0] (.region [on 0 17 0,
 om 1 18 5,
 xA 2 19 (.indexA 3 (.t 17) (.t 18)) (rg 2),
 xA 3 20 (.loadH (some 3) (.t 19)) (rg 3),
 on 4 21 1,
 om 5 22 5,
 xA 6 23 (.indexA 3 (.t 21) (.t 22)) [4, 5],
 xA 7 24 (.loadH (some 3) (.t 23)) [4, 5, 6],
 xC 8 25 s_laws_eqStep p_laws_eqStep D_laws_eqStep [(.t 20), (.t 24)] (rg 8),
 xA 9 26 (.un .not (.t 25)) (rg 9)])
  (.cond (.t 26) (.seq [4] (.region [oa 0 4 (.mv (.c (.bool false)))])
  .ret) .skip)))
  (.region [om 0 15 5,
 oa 1 16 (.bin .add (.t 15) (.c (.int .i64 1))),
 om 2 5 16]))))))
  (.seq [4] (.region [oa 0 4 (.mv (.c (.bool true)))])
  .ret))))
noncomputable def df_laws_eqStepS : DFun := ⟨2, 27, 0, true, [.tmp 4], dc_laws_eqStepS⟩
noncomputable def pf_laws_eqStepS : PFun := df_laws_eqStepS.er
noncomputable def f_laws_eqStepS : AFun := pf_laws_eqStepS.er
@[irreducible] noncomputable def s_laws_eqStepS : CallSem := funSem f_laws_eqStepS
@[irreducible] noncomputable def p_laws_eqStepS : PSem := pfunSem pf_laws_eqStepS
theorem sp_laws_eqStepS : SoundP s_laws_eqStepS p_laws_eqStepS := by unfold s_laws_eqStepS p_laws_eqStepS; exact pfun_sound (f := pf_laws_eqStepS) ⟨sp_laws_eqStep, trivial⟩
def h_laws_eqStepS : List HT := [.one .frz (.sl (.cons (.int .i64) (.cons (.int .i64) (.one (.int .i64))))), .one .frz (.sl (.cons (.int .i64) (.cons (.int .i64) (.one (.int .i64)))))]
def q_laws_eqStepS : QT := .one (.one .own (.bool))
@[irreducible] noncomputable def v_laws_eqStepS (x : (List (Int × Int × Int)) × (List (Int × Int × Int))) : Bool := (shut fun x => fnV df_laws_eqStepS h_laws_eqStepS q_laws_eqStepS x).1 x
@[irreducible] noncomputable def ok_laws_eqStepS (x : (List (Int × Int × Int)) × (List (Int × Int × Int))) : Prop := (shut fun x => fnOk df_laws_eqStepS h_laws_eqStepS q_laws_eqStepS x).1 x
theorem vu_laws_eqStepS (x : (List (Int × Int × Int)) × (List (Int × Int × Int))) : v_laws_eqStepS x = fnV df_laws_eqStepS h_laws_eqStepS q_laws_eqStepS x := by unfold v_laws_eqStepS; exact congrFun (shut _).2 x
theorem ou_laws_eqStepS (x : (List (Int × Int × Int)) × (List (Int × Int × Int))) : ok_laws_eqStepS x = fnOk df_laws_eqStepS h_laws_eqStepS q_laws_eqStepS x := by unfold ok_laws_eqStepS; exact congrFun (shut _).2 x
noncomputable def D_laws_eqStepS : DSem := DSemOf h_laws_eqStepS q_laws_eqStepS ok_laws_eqStepS v_laws_eqStepS
theorem ck_laws_eqStepS (x : (List (Int × Int × Int)) × (List (Int × Int × Int))) : fnChk df_laws_eqStepS h_laws_eqStepS q_laws_eqStepS x = true := by kernel_rfl
theorem ob_laws_eqStepS : AllD df_laws_eqStepS.body.obs := ⟨sd_laws_eqStep, trivial⟩
theorem st_laws_eqStepS : fnSt df_laws_eqStepS h_laws_eqStepS q_laws_eqStepS = true := by kernel_rfl
theorem sd_laws_eqStepS : SoundD p_laws_eqStepS D_laws_eqStepS := by unfold p_laws_eqStepS; exact soundD_of (f := df_laws_eqStepS) (hs := h_laws_eqStepS) (q := q_laws_eqStepS) ob_laws_eqStepS st_laws_eqStepS ck_laws_eqStepS (fun x h => Eq.mp (ou_laws_eqStepS x) h) (fun x => (vu_laws_eqStepS x).symm)
noncomputable def dc_laws_eqStepSS : DCode :=
  (.seq [1, 0] (.region [oa 0 4 (.mv (.c (.bool false)))])
  (.seq [1, 0] (.seq [10, 1, 0] (.region [on 0 6 0,
 oa 1 7 (.len (.t 6)),
 on 2 8 1,
 oa 3 9 (.len (.t 8)),
 oa 4 10 (.bin .neq (.t 7) (.t 9))])
  (.cond (.t 10) (.seq [4] (.region [oa 0 4 (.mv (.c (.bool false)))])
  .ret) .skip))
  (.seq [] (.seq [5, 1, 0] (.region [oi 0 5 0])
  (.block 0 (.loop [0, 1, 5] 1 (.seq [5, 1, 0] (.seq [14, 5, 1, 0] (.region [om 0 11 5,
 on 1 12 0,
 oa 2 13 (.len (.t 12)),
 oa 3 14 (.bin .lss (.t 11) (.t 13))])
  (.cond (.t 14) .skip (.exit 0)))
  (.seq [5, 1, 0] (.block 1 (.seq [26, 5, 1, 0] (.region [on 0 17 0,
 om 1 18 5,
 xA 2 19 (.indexA 1 (.t 17) (.t 18)) (rg 2),
 xA 3 20 (.loadH none (.t 19)) (rg 3),
 on 4 21 1,
 om 5 22 5,
 xA 6 23 (.indexA 1 (.t 21) (.t 22)) [4, 5],
 xA 7 24 (.loadH none (.t 23)) [4, 5, 6],
 xC 8 25 s_laws_eqStepS p_laws_eqStepS D_laws_eqStepS [(.t 20), (.t 24)] (rg 8),
 xA 9 26 (.un .not (.t 25)) (rg 9)])
  (.cond (.t 26) (.seq [4] (.region [oa 0 4 (.mv (.c (.bool false)))])
  .ret) .skip)))
  (.region [om 0 15 5,
 oa 1 16 (.bin .add (.t 15) (.c (.int .i64 1))),
 om 2 5 16]))))))
  (.seq [4] (.region [oa 0 4 (.mv (.c (.bool true)))])
  .ret))))
noncomputable def df_laws_eqStepSS : DFun := ⟨2, 27, 0, true, [.tmp 4], dc_laws_eqStepSS⟩
noncomputable def pf_laws_eqStepSS : PFun := df_laws_eqStepSS.er
noncomputable def f_laws_eqStepSS : AFun := pf_laws_eqStepSS.er
@[irreducible] noncomputable def s_laws_eqStepSS : CallSem := funSem f_laws_eqStepSS
@[irreducible] noncomputable def p_laws_eqStepSS : PSem := pfunSem pf_laws_eqStepSS
theorem sp_laws_eqStepSS : SoundP s_laws_eqStepSS p_laws_eqStepSS := by unfold s_laws_eqStepSS p_laws_eqStepSS; exact pfun_sound (f := pf_laws_eqStepSS) ⟨sp_laws_eqStepS, trivial⟩
def h_laws_eqStepSS : List HT := [.one .frz (.sl (.one (.sl (.cons (.int .i64) (.cons (.int .i64) (.one (.int .i64))))))), .one .frz (.sl (.one (.sl (.cons (.int .i64) (.cons (.int .i64) (.one (.int .i64)))))))]
def q_laws_eqStepSS : QT := .one (.one .own (.bool))
@[irreducible] noncomputable def v_laws_eqStepSS (x : (List (List (Int × Int × Int))) × (List (List (Int × Int × Int)))) : Bool := (shut fun x => fnV df_laws_eqStepSS h_laws_eqStepSS q_laws_eqStepSS x).1 x
@[irreducible] noncomputable def ok_laws_eqStepSS (x : (List (List (Int × Int × Int))) × (List (List (Int × Int × Int)))) : Prop := (shut fun x => fnOk df_laws_eqStepSS h_laws_eqStepSS q_laws_eqStepSS x).1 x
theorem vu_laws_eqStepSS (x : (List (List (Int × Int × Int))) × (List (List (Int × Int × Int)))) : v_laws_eqStepSS x = fnV df_laws_eqStepSS h_laws_eqStepSS q_laws_eqStepSS x := by unfold v_laws_eqStepSS; exact congrFun (shut _).2 x
theorem ou_laws_eqStepSS (x : (List (List (Int × Int × Int))) × (List (List (Int × Int × Int)))) : ok_laws_eqStepSS x = fnOk df_laws_eqStepSS h_laws_eqStepSS q_laws_eqStepSS x := by unfold ok_laws_eqStepSS; exact congrFun (shut _).2 x
noncomputable def D_laws_eqStepSS : DSem := DSemOf h_laws_eqStepSS q_laws_eqStepSS ok_laws_eqStepSS v_laws_eqStepSS
theorem ck_laws_eqStepSS (x : (List (List (Int × Int × Int))) × (List (List (Int × Int × Int)))) : fnChk df_laws_eqStepSS h_laws_eqStepSS q_laws_eqStepSS x = true := by kernel_rfl
theorem ob_laws_eqStepSS : AllD df_laws_eqStepSS.body.obs := ⟨sd_laws_eqStepS, trivial⟩
theorem st_laws_eqStepSS : fnSt df_laws_eqStepSS h_laws_eqStepSS q_laws_eqStepSS = true := by kernel_rfl
theorem sd_laws_eqStepSS : SoundD p_laws_eqStepSS D_laws_eqStepSS := by unfold p_laws_eqStepSS; exact soundD_of (f := df_laws_eqStepSS) (hs := h_laws_eqStepSS) (q := q_laws_eqStepSS) ob_laws_eqStepSS st_laws_eqStepSS ck_laws_eqStepSS (fun x h => Eq.mp (ou_laws_eqStepSS x) h) (fun x => (vu_laws_eqStepSS x).symm)
noncomputable def dc_laws_eqEngine : DCode :=
  (.seq [3, 2] (.region [oa 0 2 (.boxB 0 7 (.t 0)),
 oa 1 3 (.boxB 1 7 (.t 1)),
 oa 2 4 (.mv (.c (.bool false)))])
  (.seq [3, 2] (.seq [10, 3, 2] (.region [oa 0 5 (.fieldA 0 (.t 2)),
 oa 1 6 (.loadB 0 (some 2) (.t 5)),
 oa 2 7 (.fieldA 0 (.t 3)),
 oa 3 8 (.loadB 1 (some 2) (.t 7)),
 oc 4 9 s_laws_eqKeymap p_laws_eqKeymap D_laws_eqKeymap [(.t 6), (.t 8)],
 oa 5 10 (.un .not (.t 9))])
  (.cond (.t 10) (.seq [4] (.region [oa 0 4 (.mv (.c (.bool false)))])
  .ret) .skip))
  (.seq [3, 2] (.seq [16, 3, 2] (.region [oa 0 11 (.fieldA 2 (.t 2)),
 oa 1 12 (.loadB 0 none (.t 11)),
 oa 2 13 (.fieldA 2 (.t 3)),
 oa 3 14 (.loadB 1 none (.t 13)),
 oc 4 15 s_laws_eqStepSS p_laws_eqStepSS D_laws_eqStepSS [(.t 12), (.t 14)],
 oa 5 16 (.un .not (.t 15))])
  (.cond (.t 16) (.seq [4] (.region [oa 0 4 (.mv (.c (.bool false)))])
  .ret) .skip))
  (.seq [3, 2] (.seq [21, 3, 2] (.region [oa 0 17 (.fieldA 3 (.t 2)),
 oa 1 18 (.loadB 0 none (.t 17)),
 oa 2 19 (.fieldA 3 (.t 3)),
 oa 3 20 (.loadB 1 none (.t 19)),
 oa 4 21 (.bin .neq (.t 18) (.t 20))])
  (.cond (.t 21) (.seq [4] (.region [oa 0 4 (.mv (.c (.bool false)))])
  .ret) .skip))
  (.seq [3, 2] (.seq [27, 3, 2] (.region [oa 0 22 (.fieldA 4 (.t 2)),
 oa 1 23 (.loadB 0 none (.t 22)),
 oa 2 24 (.fieldA 4 (.t 3)),
 oa 3 25 (.loadB 1 none (.t 24)),
 oc 4 26 s_laws_eqHeldS p_laws_eqHeldS D_laws_eqHeldS [(.t 23), (.t 25)],
 oa 5 27 (.un .not (.t 26))])
  (.cond (.t 27) (.seq [4] (.region [oa 0 4 (.mv (.c (.bool false)))])
  .ret) .skip))
  (.seq [3, 2] (.seq [32, 3, 2] (.region [oa 0 28 (.fieldA 5 (.t 2)),
 oa 1 29 (.loadB 0 none (.t 28)),
 oa 2 30 (.fieldA 5 (.t 3)),
 oa 3 31 (.loadB 1 none (.t 30)),
 oa 4 32 (.bin .neq (.t 29) (.t 31))])
  (.cond (.t 32) (.seq [4] (.region [oa 0 4 (.mv (.c (.bool false)))])
  .ret) .skip))
  (.seq [] (.seq [37] (.region [oa 0 33 (.fieldA 6 (.t 2)),
 oa 1 34 (.loadB 0 none (.t 33)),
 oa 2 35 (.fieldA 6 (.t 3)),
 oa 3 36 (.loadB 1 none (.t 35)),
 oa 4 37 (.eqB true (.t 34) (.t 36))])
  (.cond (.t 37) (.seq [4] (.region [oa 0 4 (.mv (.c (.bool false)))])
  .ret) .skip))
  (.seq [4] (.region [oa 0 4 (.mv (.c (.bool true)))])
  .ret))))))))
noncomputable def df_laws_eqEngine : DFun := ⟨2, 38, 2, true, [.tmp 4], dc_laws_eqEngine⟩
noncomputable def pf_laws_eqEngine : PFun := df_laws_eqEngine.er
noncomputable def f_laws_eqEngine : AFun := pf_laws_eqEngine.er
@[irreducible] noncomputable def s_laws_eqEngine : CallSem := funSem f_laws_eqEngine
@[irreducible] noncomputable def p_laws_eqEngine : PSem := pfunSem pf_laws_eqEngine
theorem sp_laws_eqEngine : SoundP s_laws_eqEngine p_laws_eqEngine := by unfold s_laws_eqEngine p_laws_eqEngine; exact pfun_sound (f := pf_laws_eqEngine) ⟨sp_laws_eqKeymap, sp_laws_eqStepSS, sp_laws_eqHeldS, trivial⟩
def h_laws_eqEngine : List HT := [.agg [(.frz, .int .i64), (.frz, .sl (.one (.sl (.cons (.int .i64) (.cons (.int .i64) (.cons (.int .i64) (.one (.int .i64)))))))), (.frz, .sl (.one (.sl (.cons (.int .i64) (.cons (.int .i64) (.one (.int .i64))))))), (.frz, .int .i64), (.frz, .sl (.cons (.int .i64) (.cons (.int .i64) (.cons (.int .i64) (.cons (.int .i64) (.one (.int .i64))))))), (.frz, .int .i64), (.frz, .bool)], .agg [(.frz, .int .i64), (.frz, .sl (.one (.sl (.cons (.int .i64) (.cons (.int .i64) (.cons (.int .i64) (.one (.int .i64)))))))), (.frz, .sl (.one (.sl (.cons (.int .i64) (.cons (.int .i64) (.one (.int .i64))))))), (.frz, .int .i64), (.frz, .sl (.cons (.int .i64) (.cons (.int .i64) (.cons (.int .i64) (.cons (.int .i64) (.one (.int .i64))))))), (.frz, .int .i64), (.frz, .bool)]]
def q_laws_eqEngine : QT := .one (.one .own (.bool))
@[irreducible] noncomputable def v_laws_eqEngine (x : (Int × (List (List (Int × Int × Int × Int))) × (List (List (Int × Int × Int))) × Int × (List (Int × Int × Int × Int × Int)) × Int × Bool) × (Int × (List (List (Int × Int × Int × Int))) × (List (List (Int × Int × Int))) × Int × (List (Int × Int × Int × Int × Int)) × Int × Bool)) : Bool := (shut fun x => fnV df_laws_eqEngine h_laws_eqEngine q_laws_eqEngine x).1 x
@[irreducible] noncomputable def ok_laws_eqEngine (x : (Int × (List (List (Int × Int × Int × Int))) × (List (List (Int × Int × Int))) × Int × (List (Int × Int × Int × Int × Int)) × Int × Bool) × (Int × (List (List (Int × Int × Int × Int))) × (List (List (Int × Int × Int))) × Int × (List (Int × Int × Int × Int × Int)) × Int × Bool)) : Prop := (shut fun x => fnOk df_laws_eqEngine h_laws_eqEngine q_laws_eqEngine x).1 x
theorem vu_laws_eqEngine (x : (Int × (List (List (Int × Int × Int × Int))) × (List (List (Int × Int × Int))) × Int × (List (Int × Int × Int × Int × Int)) × Int × Bool) × (Int × (List (List (Int × Int × Int × Int))) × (List (List (Int × Int × Int))) × Int × (List (Int × Int × Int × Int × Int)) × Int × Bool)) : v_laws_eqEngine x = fnV df_laws_eqEngine h_laws_eqEngine q_laws_eqEngine x := by unfold v_laws_eqEngine; exact congrFun (shut _).2 x
theorem ou_laws_eqEngine (x : (Int × (List (List (Int × Int × Int × Int))) × (List (List (Int × Int × Int))) × Int × (List (Int × Int × Int × Int × Int)) × Int × Bool) × (Int × (List (List (Int × Int × Int × Int))) × (List (List (Int × Int × Int))) × Int × (List (Int × Int × Int × Int × Int)) × Int × Bool)) : ok_laws_eqEngine x = fnOk df_laws_eqEngine h_laws_eqEngine q_laws_eqEngine x := by unfold ok_laws_eqEngine; exact congrFun (shut _).2 x
noncomputable def D_laws_eqEngine : DSem := DSemOf h_laws_eqEngine q_laws_eqEngine ok_laws_eqEngine v_laws_eqEngine
theorem ck_laws_eqEngine (x : (Int × (List (List (Int × Int × Int × Int))) × (List (List (Int × Int × Int))) × Int × (List (Int × Int × Int × Int × Int)) × Int × Bool) × (Int × (List (List (Int × Int × Int × Int))) × (List (List (Int × Int × Int))) × Int × (List (Int × Int × Int × Int × Int)) × Int × Bool)) : fnChk df_laws_eqEngine h_laws_eqEngine q_laws_eqEngine x = true := by kernel_rfl
theorem ob_laws_eqEngine : AllD df_laws_eqEngine.body.obs := ⟨sd_laws_eqKeymap, sd_laws_eqStepSS, sd_laws_eqHeldS, trivial⟩
theorem st_laws_eqEngine : fnSt df_laws_eqEngine h_laws_eqEngine q_laws_eqEngine = true := by kernel_rfl
theorem sd_laws_eqEngine : SoundD p_laws_eqEngine D_laws_eqEngine := by unfold p_laws_eqEngine; exact soundD_of (f := df_laws_eqEngine) (hs := h_laws_eqEngine) (q := q_laws_eqEngine) ob_laws_eqEngine st_laws_eqEngine ck_laws_eqEngine (fun x h => Eq.mp (ou_laws_eqEngine x) h) (fun x => (vu_laws_eqEngine x).symm)
end
section
set_option maxRecDepth 100000
theorem ve_laws_szStepS (x : (List (Int × Int × Int)) × Int) : v_laws_szStepS x = (bSel (iLt (iSub Go.IntKind.i64 x.2 (lLen x.1)) 0) (-1) (iSub Go.IntKind.i64 x.2 (lLen x.1))) := (vu_laws_szStepS x).trans (by kernel_rfl)
theorem oe_laws_szStepS (x : (List (Int × Int × Int)) × Int) : ok_laws_szStepS x = True := (ou_laws_szStepS x).trans (by kernel_rfl)
theorem ve_laws_szStepSS (x : (List (List (Int × Int × Int))) × Int) : v_laws_szStepSS x = (bSel (iLt (iSub Go.IntKind.i64 x.2 (lLen x.1)) 0) (-1) (bSel (iLt (loopV (fun (x0 : (Int × Int)) => (bAnd (iLt x0.2 (lLen x.1)) (bNot (iLt (v_laws_szStepS ((lGet x.1 (iNat x0.2) []), x0.1)) 0)))) (fun (x0 : (Int × Int)) => ((v_laws_szStepS ((lGet x.1 (iNat x0.2) []), x0.1)), (iAdd Go.IntKind.i64 x0.2 1))) ((iSub Go.IntKind.i64 x.2 (lLen x.1)), 0)).2 (lLen x.1)) (-1) (loopV (fun (x0 : (Int × Int)) => (bAnd (iLt x0.2 (lLen x.1)) (bNot (iLt (v_laws_szStepS ((lGet x.1 (iNat x0.2) []), x0.1)) 0)))) (fun (x0 : (Int × Int)) => ((v_laws_szStepS ((lGet x.1 (iNat x0.2) []), x0.1)), (iAdd Go.IntKind.i64 x0.2 1))) ((iSub Go.IntKind.i64 x.2 (lLen x.1)), 0)).1)) := (vu_laws_szStepSS x).trans (by kernel_rfl)
theorem oe_laws_szStepSS (x : (List (List (Int × Int × Int))) × Int) : ok_laws_szStepSS x = (((iLt (iSub Go.IntKind.i64 x.2 (lLen x.1)) 0) = true → True) ∧ ((iLt (iSub Go.IntKind.i64 x.2 (lLen x.1)) 0) = false → (LoopOk (fun (x0 : (Int × Int)) => (bAnd (iLt x0.2 (lLen x.1)) (bNot (iLt (v_laws_szStepS ((lGet x.1 (iNat x0.2) []), x0.1)) 0)))) (fun (x0 : (Int × Int)) => ((v_laws_szStepS ((lGet x.1 (iNat x0.2) []), x0.1)), (iAdd Go.IntKind.i64 x0.2 1))) (fun (x0 : (Int × Int)) => (((iLt x0.2 (lLen x.1)) = true → ((((0 : Int) ≤ x0.2) ∧ (x0.2 < (((List.length x.1) : Int)))) ∧ (((iNat x0.2) < (List.length x.1)) ∧ (ok_laws_szStepS ((lGet x.1 (iNat x0.2) []), x0.1))))) ∧ ((iLt x0.2 (lLen x.1)) = false → True))) ((iSub Go.IntKind.i64 x.2 (lLen x.1)), 0)))) := (ou_laws_szStepSS x).trans (by kernel_rfl)
theorem ve_laws_szEngine (x : (Int × (List (List (Int × Int × Int × Int))) × (List (List (Int × Int × Int))) × Int × (List (Int × Int × Int × Int × Int)) × Int × Bool) × Int) : v_laws_szEngine x = (bSel (iLt (v_laws_szKeymap ((x.1.1, x.1.2.1), x.2)) 0) (-1) (bSel (iLt (v_laws_szStepSS (x.1.2.2.1, (v_laws_szKeymap ((x.1.1, x.1.2.1), x.2)))) 0) (-1) (bSel (iLt (v_laws_szHeldS (x.1.2.2.2.2.1, (v_laws_szStepSS (x.1.2.2.1, (v_laws_szKeymap ((x.1.1, x.1.2.1), x.2)))))) 0) (-1) (v_laws_szHeldS (x.1.2.2.2.2.1, (v_laws_szStepSS (x.1.2.2.1, (v_laws_szKeymap ((x.1.1, x.1.2.1), x.2))))))))) := (vu_laws_szEngine x).trans (by kernel_rfl)
theorem oe_laws_szEngine (x : (Int × (List (List (Int × Int × Int × Int))) × (List (List (Int × Int × Int))) × Int × (List (Int × Int × Int × Int × Int)) × Int × Bool) × Int) : ok_laws_szEngine x = ((ok_laws_szKeymap ((x.1.1, x.1.2.1), x.2)) ∧ (((iLt (v_laws_szKeymap ((x.1.1, x.1.2.1), x.2)) 0) = true → True) ∧ ((iLt (v_laws_szKeymap ((x.1.1, x.1.2.1), x.2)) 0) = false → ((ok_laws_szStepSS (x.1.2.2.1, (v_laws_szKeymap ((x.1.1, x.1.2.1), x.2)))) ∧ (((iLt (v_laws_szStepSS (x.1.2.2.1, (v_laws_szKeymap ((x.1.1, x.1.2.1), x.2)))) 0) = true → True) ∧ ((iLt (v_laws_szStepSS (x.1.2.2.1, (v_laws_szKeymap ((x.1.1, x.1.2.1), x.2)))) 0) = false → (ok_laws_szHeldS (x.1.2.2.2.2.1, (v_laws_szStepSS (x.1.2.2.1, (v_laws_szKeymap ((x.1.1, x.1.2.1), x.2)))))))))))) := (ou_laws_szEngine x).trans (by kernel_rfl)
theorem ve_laws_toStep (x : Int × Int × Int) : v_laws_toStep x = (x.1, x.2.1, x.2.2) := (vu_laws_toStep x).trans (by kernel_rfl)
theorem oe_laws_toStep (x : Int × Int × Int) : ok_laws_toStep x = True := (ou_laws_toStep x).trans (by kernel_rfl)
theorem ve_laws_toStepS (x : List (Int × Int × Int)) : v_laws_toStepS x = (loopV (fun (x0 : ((List (Int × (Int × Int))) × Int)) => (iLt x0.2 (lLen x))) (fun (x0 : ((List (Int × (Int × Int))) × Int)) => ((lSet x0.1 (iNat x0.2) ((v_laws_toStep ((lGet x (iNat x0.2) (0, 0, 0)).1, (lGet x (iNat x0.2) (0, 0, 0)).2.1, (lGet x (iNat x0.2) (0, 0, 0)).2.2)).1, (v_laws_toStep ((lGet x (iNat x0.2) (0, 0, 0)).1, (lGet x (iNat x0.2) (0, 0, 0)).2.1, (lGet x (iNat x0.2) (0, 0, 0)).2.2)).2.1, (v_laws_toStep ((lGet x (iNat x0.2) (0, 0, 0)).1, (lGet x (iNat x0.2) (0, 0, 0)).2.1, (lGet x (iNat x0.2) (0, 0, 0)).2.2)).2.2)), (iAdd Go.IntKind.i64 x0.2 1))) ((lRep (lLen x) (0, 0, 0)), 0)).1 := (vu_laws_toStepS x).trans (by kernel_rfl)
theorem oe_laws_toStepS (x : List (Int × Int × Int)) : ok_laws_toStepS x = ((((0 : Int) ≤ (lLen x)) ∧ (roomy ((Int.toNat (lLen x)) * 3))) ∧ (LoopOk (fun (x0 : ((List (Int × (Int × Int))) × Int)) => (iLt x0.2 (lLen x))) (fun (x0 : ((List (Int × (Int × Int))) × Int)) => ((lSet x0.1 (iNat x0.2) ((v_laws_toStep ((lGet x (iNat x0.2) (0, 0, 0)).1, (lGet x (iNat x0.2) (0, 0, 0)).2.1, (lGet x (iNat x0.2) (0, 0, 0)).2.2)).1, (v_laws_toStep ((lGet x (iNat x0.2) (0, 0, 0)).1, (lGet x (iNat x0.2) (0, 0, 0)).2.1, (lGet x (iNat x0.2) (0, 0, 0)).2.2)).2.1, (v_laws_toStep ((lGet x (iNat x0.2) (0, 0, 0)).1, (lGet x (iNat x0.2) (0, 0, 0)).2.1, (lGet x (iNat x0.2) (0, 0, 0)).2.2)).2.2)), (iAdd Go.IntKind.i64 x0.2 1))) (fun (x0 : ((List (Int × (Int × Int))) × Int)) => (((iLt x0.2 (lLen x)) = true → ((((0 : Int) ≤ x0.2) ∧ (x0.2 < (((List.length x) : Int)))) ∧ (((iNat x0.2) < (List.length x)) ∧ ((ok_laws_toStep ((lGet x (iNat x0.2) (0, 0, 0)).1, (lGet x (iNat x0.2) (0, 0, 0)).2.1, (lGet x (iNat x0.2) (0, 0, 0)).2.2)) ∧ ((((0 : Int) ≤ x0.2) ∧ (x0.2 < (((List.length x0.1) : Int)))) ∧ ((iNat x0.2) < (List.length x0.1))))))) ∧ ((iLt x0.2 (lLen x)) = false → True))) ((lRep (lLen x) (0, 0, 0)), 0))) := (ou_laws_toStepS x).trans (by kernel_rfl)
theorem ve_laws_toStepSS (x : List (List (Int × Int × Int))) : v_laws_toStepSS x = (loopV (fun (x0 : ((List (List (Int × (Int × Int)))) × Int)) => (iLt x0.2 (lLen x))) (fun (x0 : ((List (List (Int × (Int × Int)))) × Int)) => ((lSet x0.1 (iNat x0.2) (v_laws_toStepS (lGet x (iNat x0.2) []))), (iAdd Go.IntKind.i64 x0.2 1))) ((lRep (lLen x) []), 0)).1 := (vu_laws_toStepSS x).trans (by kernel_rfl)
theorem oe_laws_toStepSS (x : List (List (Int × Int × Int))) : ok_laws_toStepSS x = ((((0 : Int) ≤ (lLen x)) ∧ (roomy ((Int.toNat (lLen x)) * 1))) ∧ (LoopOk (fun (x0 : ((List (List (Int × (Int × Int)))) × Int)) => (iLt x0.2 (lLen x))) (fun (x0 : ((List (List (Int × (Int × Int)))) × Int)) => ((lSet x0.1 (iNat x0.2) (v_laws_toStepS (lGet x (iNat x0.2) []))), (iAdd Go.IntKind.i64 x0.2 1))) (fun (x0 : ((List (List (Int × (Int × Int)))) × Int)) => (((iLt x0.2 (lLen x)) = true → ((((0 : Int) ≤ x0.2) ∧ (x0.2 < (((List.length x) : Int)))) ∧ (((iNat x0.2) < (List.length x)) ∧ ((ok_laws_toStepS (lGet x (iNat x0.2) [])) ∧ ((((0 : Int) ≤ x0.2) ∧ (x0.2 < (((List.length x0.1) : Int)))) ∧ ((iNat x0.2) < (List.length x0.1))))))) ∧ ((iLt x0.2 (lLen x)) = false → True))) ((lRep (lLen x) []), 0))) := (ou_laws_toStepSS x).trans (by kernel_rfl)
theorem ve_laws_toEngine (x : Int × (List (List (Int × Int × Int × Int))) × (List (List (Int × Int × Int))) × Int × (List (Int × Int × Int × Int × Int)) × Int × Bool) : v_laws_toEngine x = ((v_laws_toKeymap (x.1, x.2.1)).1, (v_laws_toKeymap (x.1, x.2.1)).2, (v_laws_toStepSS x.2.2.1), x.2.2.2.1, (v_laws_toHeldS x.2.2.2.2.1), x.2.2.2.2.2.1, x.2.2.2.2.2.2) := (vu_laws_toEngine x).trans (by kernel_rfl)
theorem oe_laws_toEngine (x : Int × (List (List (Int × Int × Int × Int))) × (List (List (Int × Int × Int))) × Int × (List (Int × Int × Int × Int × Int)) × Int × Bool) : ok_laws_toEngine x = ((ok_laws_toKeymap (x.1, x.2.1)) ∧ ((ok_laws_toStepSS x.2.2.1) ∧ (ok_laws_toHeldS x.2.2.2.2.1))) := (ou_laws_toEngine x).trans (by kernel_rfl)
theorem ve_laws_eqStep (x : (Int × Int × Int) × (Int × Int × Int)) : v_laws_eqStep x = (bAnd (bNot (iNe x.1.1 x.2.1)) (bAnd (bNot (iNe x.1.2.1 x.2.2.1)) (bNot (iNe x.1.2.2 x.2.2.2)))) := (vu_laws_eqStep x).trans (by kernel_rfl)
theorem oe_laws_eqStep (x : (Int × Int × Int) × (Int × Int × Int)) : ok_laws_eqStep x = True := (ou_laws_eqStep x).trans (by kernel_rfl)
theorem ve_laws_eqStepS (x : (List (Int × Int × Int)) × (List (Int × Int × Int))) : v_laws_eqStepS x = (bAnd (bNot (iNe (lLen x.1) (lLen x.2))) (bNot (iLt (loopV (fun (x0 : Int) => (bAnd (iLt x0 (lLen x.1)) (bNot (bNot (v_laws_eqStep (((lGet x.1 (iNat x0) (0, 0, 0)).1, (lGet x.1 (iNat x0) (0, 0, 0)).2.1, (lGet x.1 (iNat x0) (0, 0, 0)).2.2), (lGet x.2 (iNat x0) (0, 0, 0)).1, (lGet x.2 (iNat x0) (0, 0, 0)).2.1, (lGet x.2 (iNat x0) (0, 0, 0)).2.2)))))) (fun (x0 : Int) => (iAdd Go.IntKind.i64 x0 1)) 0) (lLen x.1)))) := (vu_laws_eqStepS x).trans (by kernel_rfl)
theorem oe_laws_eqStepS (x : (List (Int × Int × Int)) × (List (Int × Int × Int))) : ok_laws_eqStepS x = (((iNe (lLen x.1) (lLen x.2)) = true → True) ∧ ((iNe (lLen x.1) (lLen x.2)) = false → (LoopOk (fun (x0 : Int) => (bAnd (iLt x0 (lLen x.1)) (bNot (bNot (v_laws_eqStep (((lGet x.1 (iNat x0) (0, 0, 0)).1, (lGet x.1 (iNat x0) (0, 0, 0)).2.1, (lGet x.1 (iNat x0) (0, 0, 0)).2.2), (lGet x.2 (iNat x0) (0, 0, 0)).1, (lGet x.2 (iNat x0) (0, 0, 0)).2.1, (lGet x.2 (iNat x0) (0, 0, 0)).2.2)))))) (fun (x0 : Int) => (iAdd Go.IntKind.i64 x0 1)) (fun (x0 : Int) => (((iLt x0 (lLen x.1)) = true → ((((0 : Int) ≤ x0) ∧ (x0 < (((List.length x.1) : Int)))) ∧ (((iNat x0) < (List.length x.1)) ∧ ((((0 : Int) ≤ x0) ∧ (x0 < (((List.length x.2) : Int)))) ∧ (((iNat x0) < (List.length x.2)) ∧ (ok_laws_eqStep (((lGet x.1 (iNat x0) (0, 0, 0)).1, (lGet x.1 (iNat x0) (0, 0, 0)).2.1, (lGet x.1 (iNat x0) (0, 0, 0)).2.2), (lGet x.2 (iNat x0) (0, 0, 0)).1, (lGet x.2 (iNat x0) (0, 0, 0)).2.1, (lGet x.2 (iNat x0) (0, 0, 0)).2.2))))))) ∧ ((iLt x0 (lLen x.1)) = false → True))) 0))) := (ou_laws_eqStepS x).trans (by kernel_rfl)
theorem ve_laws_eqStepSS (x : (List (List (Int × Int × Int))) × (List (List (Int × Int × Int)))) : v_laws_eqStepSS x = (bAnd (bNot (iNe (lLen x.1) (lLen x.2))) (bNot (iLt (loopV (fun (x0 : Int) => (bAnd (iLt x0 (lLen x.1)) (bNot (bNot (v_laws_eqStepS ((lGet x.1 (iNat x0) []), (lGet x.2 (iNat x0) []))))))) (fun (x0 : Int) => (iAdd Go.IntKind.i64 x0 1)) 0) (lLen x.1)))) := (vu_laws_eqStepSS x).trans (by kernel_rfl)
theorem oe_laws_eqStepSS (x : (List (List (Int × Int × Int))) × (List (List (Int × Int × Int)))) : ok_laws_eqStepSS x = (((iNe (lLen x.1) (lLen x.2)) = true → True) ∧ ((iNe (lLen x.1) (lLen x.2)) = false → (LoopOk (fun (x0 : Int) => (bAnd (iLt x0 (lLen x.1)) (bNot (bNot (v_laws_eqStepS ((lGet x.1 (iNat x0) []), (lGet x.2 (iNat x0) []))))))) (fun (x0 : Int) => (iAdd Go.IntKind.i64 x0 1)) (fun (x0 : Int) => (((iLt x0 (lLen x.1)) = true → ((((0 : Int) ≤ x0) ∧ (x0 < (((List.length x.1) : Int)))) ∧ (((iNat x0) < (List.length x.1)) ∧ ((((0 : Int) ≤ x0) ∧ (x0 < (((List.length x.2) : Int)))) ∧ (((iNat x0) < (List.length x.2)) ∧ (ok_laws_eqStepS ((lGet x.1 (iNat x0) []), (lGet x.2 (iNat x0) [])))))))) ∧ ((iLt x0 (lLen x.1)) = false → True))) 0))) := (ou_laws_eqStepSS x).trans (by kernel_rfl)
theorem ve_laws_eqEngine (x : (Int × (List (List (Int × Int × Int × Int))) × (List (List (Int × Int × Int))) × Int × (List (Int × Int × Int × Int × Int)) × Int × Bool) × (Int × (List (List (Int × Int × Int × Int))) × (List (List (Int × Int × Int))) × Int × (List (Int × Int × Int × Int × Int)) × Int × Bool)) : v_laws_eqEngine x = (bAnd (bNot (bNot (v_laws_eqKeymap ((x.1.1, x.1.2.1), x.2.1, x.2.2.1)))) (bAnd (bNot (bNot (v_laws_eqStepSS (x.1.2.2.1, x.2.2.2.1)))) (bAnd (bNot (iNe x.1.2.2.2.1 x.2.2.2.2.1)) (bAnd (bNot (bNot (v_laws_eqHeldS (x.1.2.2.2.2.1, x.2.2.2.2.2.1)))) (bAnd (bNot (iNe x.1.2.2.2.2.2.1 x.2.2.2.2.2.2.1)) (bNot (bNot (bIff x.1.2.2.2.2.2.2 x.2.2.2.2.2.2.2)))))))) := (vu_laws_eqEngine x).trans (by kernel_rfl)
theorem oe_laws_eqEngine (x : (Int × (List (List (Int × Int × Int × Int))) × (List (List (Int × Int × Int))) × Int × (List (Int × Int × Int × Int × Int)) × Int × Bool) × (Int × (List (List (Int × Int × Int × Int))) × (List (List (Int × Int × Int))) × Int × (List (Int × Int × Int × Int × Int)) × Int × Bool)) : ok_laws_eqEngine x = ((ok_laws_eqKeymap ((x.1.1, x.1.2.1), x.2.1, x.2.2.1)) ∧ (((bNot (v_laws_eqKeymap ((x.1.1, x.1.2.1), x.2.1, x.2.2.1))) = true → True) ∧ ((bNot (v_laws_eqKeymap ((x.1.1, x.1.2.1), x.2.1, x.2.2.1))) = false → ((ok_laws_eqStepSS (x.1.2.2.1, x.2.2.2.1)) ∧ (((bNot (v_laws_eqStepSS (x.1.2.2.1, x.2.2.2.1))) = true → True) ∧ ((bNot (v_laws_eqStepSS (x.1.2.2.1, x.2.2.2.1))) = false → (((iNe x.1.2.2.2.1 x.2.2.2.2.1) = true → True) ∧ ((iNe x.1.2.2.2.1 x.2.2.2.2.1) = false → (ok_laws_eqHeldS (x.1.2.2.2.2.1, x.2.2.2.2.2.1)))))))))) := (ou_laws_eqEngine x).trans (by kernel_rfl)
end
def sm_Step (_ : Int × Int × Int) : Prop := True
def wl_Step (_ : Int × Int × Int) : Prop := True
def sm_StepS (x : List (Int × Int × Int)) : Prop := x.length ≤ 1048576 ∧ ∀ a ∈ x, sm_Step a
def wl_StepS (x : List (Int × Int × Int)) : Prop := x.length ≤ 9223372036854775807 ∧ ∀ a ∈ x, wl_Step a
theorem sz_StepS (x : List (Int × Int × Int)) (hw : wl_StepS x) (l : Int) (h0 : 0 ≤ l) (h1 : l ≤ 1048576) : ok_laws_szStepS (x, l) ∧ (v_laws_szStepS (x, l) < 0 ∨ (0 ≤ v_laws_szStepS (x, l) ∧ v_laws_szStepS (x, l) ≤ l ∧ sm_StepS x)) := by
  rw [oe_laws_szStepS, ve_laws_szStepS]
  have hl : x.length ≤ 9223372036854775807 := hw.1
  have hs : iSub .i64 l (lLen x) = l - x.length := by rw [lLen_eq]; exact iSub_i64 (by unfold In64; omega)
  refine ⟨trivial, ?_⟩
  simp only [hs, iLt_eq, bSel_eq, decide_eq_true_eq]
  split
  · left; omega
  · right; exact ⟨by omega, by omega, ⟨by omega, fun a _ => by simp [sm_Step]⟩⟩
def sm_StepSS (x : List (List (Int × Int × Int))) : Prop := x.length ≤ 1048576 ∧ ∀ a ∈ x, sm_StepS a
def wl_StepSS (x : List (List (Int × Int × Int))) : Prop := x.length ≤ 9223372036854775807 ∧ ∀ a ∈ x, wl_StepS a
theorem sz_StepSS (x : List (List (Int × Int × Int))) (hw : wl_StepSS x) (l : Int) (h0 : 0 ≤ l) (h1 : l ≤ 1048576) : ok_laws_szStepSS (x, l) ∧ (v_laws_szStepSS (x, l) < 0 ∨ (0 ≤ v_laws_szStepSS (x, l) ∧ v_laws_szStepSS (x, l) ≤ l ∧ sm_StepSS x)) := by
  rw [oe_laws_szStepSS, ve_laws_szStepSS]
  obtain ⟨hl, hw2⟩ := hw
  have hs : iSub .i64 l (lLen x) = l - x.length := by rw [lLen_eq]; exact iSub_i64 (by unfold In64; omega)
  simp only [hs]
  by_cases hneg : l - (x.length : Int) < 0
  · have hb : iLt (l - (x.length : Int)) 0 = true := by rw [iLt_eq]; simpa using hneg
    rw [hb]
    exact ⟨⟨fun _ => trivial, fun h => (by cases h)⟩, by rw [bSel_t]; left; omega⟩
  · have hb : iLt (l - (x.length : Int)) 0 = false := by rw [iLt_eq]; simpa using hneg
    rw [hb]
    have hg : ∀ i : Nat, i < x.length → ∀ m : Int, 0 ≤ m → m ≤ 1048576 → ok_laws_szStepS (x.getD i [], m) ∧ (v_laws_szStepS (x.getD i [], m) < 0 ∨ (0 ≤ v_laws_szStepS (x.getD i [], m) ∧ v_laws_szStepS (x.getD i [], m) ≤ m ∧ sm_StepS (x.getD i []))) := fun i hi m g0 g1 => sz_StepS _ (hw2 _ (getD_mem x i [] hi)) m g0 g1
    refine ⟨⟨fun h => (by cases h), fun _ => sz_ok x [] sm_StepS (fun a m => v_laws_szStepS (a, m)) (l - (x.length : Int)) (by omega) (by omega) (by omega) (fun i hi m g0 g1 => (hg i hi m g0 g1).2) (fun m i hi => by simp only [bAnd_eq, iLt_eq, lLen_eq, iNat_eq, lGet_eq, bNot_eq, Int.toNat_natCast, Int.ofNat_lt]) (fun m i hi => by simp only [iNat_eq, lGet_eq, Int.toNat_natCast]) (fun m i g0 g1 hi => ?_)⟩, ?_⟩
    · simp only [iLt_eq, lLen_eq, iNat_eq, lGet_eq, decide_eq_true_eq, Int.toNat_natCast]
      exact ⟨fun hh => ⟨by omega, by omega, (hg i (by omega) m g0 g1).1⟩, fun _ => trivial⟩
    · rw [bSel_f]
      have hv := sz_v (c := fun st : Int × Int => bAnd (iLt st.2 (lLen x)) (bNot (iLt (v_laws_szStepS ((lGet x (iNat st.2) []), st.1)) 0))) (f := fun st => (v_laws_szStepS ((lGet x (iNat st.2) []), st.1), iAdd .i64 st.2 1)) x [] sm_StepS (fun a m => v_laws_szStepS (a, m)) (l - (x.length : Int)) (by omega) (by omega) (by omega) (fun i hi m g0 g1 => (hg i hi m g0 g1).2) (fun m i hi => by simp only [bAnd_eq, iLt_eq, lLen_eq, iNat_eq, lGet_eq, bNot_eq, Int.toNat_natCast, Int.ofNat_lt]) (fun m i hi => by simp only [iNat_eq, lGet_eq, Int.toNat_natCast])
      rcases sz_fin (l := l) (by omega) hv with h | ⟨h2, h3, h4⟩
      · exact .inl h
      · exact .inr ⟨h2, h3, (by omega), h4⟩
def sm_Engine (x : Int × (List (List (Int × Int × Int × Int))) × (List (List (Int × Int × Int))) × Int × (List (Int × Int × Int × Int × Int)) × Int × Bool) : Prop := sm_Keymap (x.1, x.2.1) ∧ sm_StepSS x.2.2.1 ∧ sm_HeldS x.2.2.2.2.1 ∧ True
def wl_Engine (x : Int × (List (List (Int × Int × Int × Int))) × (List (List (Int × Int × Int))) × Int × (List (Int × Int × Int × Int × Int)) × Int × Bool) : Prop := wl_Keymap (x.1, x.2.1) ∧ wl_StepSS x.2.2.1 ∧ wl_HeldS x.2.2.2.2.1 ∧ True
theorem sz_Engine (x : Int × (List (List (Int × Int × Int × Int))) × (List (List (Int × Int × Int))) × Int × (List (Int × Int × Int × Int × Int)) × Int × Bool) (hw : wl_Engine x) (l : Int) (h0 : 0 ≤ l) (h1 : l ≤ 1048576) : ok_laws_szEngine (x, l) ∧ (v_laws_szEngine (x, l) < 0 ∨ (0 ≤ v_laws_szEngine (x, l) ∧ v_laws_szEngine (x, l) ≤ l ∧ sm_Engine x)) := by
  rw [oe_laws_szEngine, ve_laws_szEngine]
  have hx := hw
  unfold wl_Engine at hw
  obtain ⟨k0, g0⟩ := sz_Keymap (x.1, x.2.1) hw.1 l (by omega) (by omega)
  generalize hz0 : v_laws_szKeymap ((x.1, x.2.1), l) = z0 at g0 ⊢
  rcases g0 with g0 | ⟨g0, g0', g0''⟩
  · have hb : iLt z0 0 = true := by rw [iLt_eq]; simpa using g0
    refine ⟨?_, ?_⟩
    · simp [k0, hb]
    · simp only [hb, bSel_t]; left; omega
  have hb0 : iLt z0 0 = false := by rw [iLt_eq]; simpa using g0
  simp only [hb0, bSel_f]
  obtain ⟨k1, g1⟩ := sz_StepSS x.2.2.1 hw.2.1 z0 (by omega) (by omega)
  generalize hz1 : v_laws_szStepSS (x.2.2.1, z0) = z1 at g1 ⊢
  rcases g1 with g1 | ⟨g1, g1', g1''⟩
  · have hb : iLt z1 0 = true := by rw [iLt_eq]; simpa using g1
    refine ⟨?_, ?_⟩
    · simp [k0, k1, hb]
    · simp only [hb, bSel_t]; left; omega
  have hb1 : iLt z1 0 = false := by rw [iLt_eq]; simpa using g1
  simp only [hb1, bSel_f]
  obtain ⟨k2, g2⟩ := sz_HeldS x.2.2.2.2.1 hw.2.2.1 z1 (by omega) (by omega)
  generalize hz2 : v_laws_szHeldS (x.2.2.2.2.1, z1) = z2 at g2 ⊢
  rcases g2 with g2 | ⟨g2, g2', g2''⟩
  · have hb : iLt z2 0 = true := by rw [iLt_eq]; simpa using g2
    refine ⟨?_, ?_⟩
    · simp [k0, k1, k2, hb]
    · simp only [hb, bSel_t]; left; omega
  have hb2 : iLt z2 0 = false := by rw [iLt_eq]; simpa using g2
  simp only [hb2, bSel_f]
  exact ⟨by simp [k0, k1, k2], .inr ⟨by omega, by omega, g0'', g1'', g2'', trivial⟩⟩
theorem to_Step (x : Int × Int × Int) (h : sm_Step x) : ok_laws_toStep x ∧ v_laws_toStep x = x := by
  rw [oe_laws_toStep, ve_laws_toStep]
  exact ⟨trivial, rfl⟩
theorem to_StepS (x : List (Int × Int × Int)) (h : sm_StepS x) : ok_laws_toStepS x ∧ v_laws_toStepS x = x := by
  rw [oe_laws_toStepS, ve_laws_toStepS]
  obtain ⟨h1, h2⟩ := h
  have hY : ∀ i : Nat, i < x.length → ok_laws_toStep ((x.getD i (0, 0, 0)).1, (x.getD i (0, 0, 0)).2.1, (x.getD i (0, 0, 0)).2.2) ∧ v_laws_toStep ((x.getD i (0, 0, 0)).1, (x.getD i (0, 0, 0)).2.1, (x.getD i (0, 0, 0)).2.2) = x.getD i (0, 0, 0) := fun i hi => to_Step _ (h2 _ (getD_mem x i (0, 0, 0) hi))
  refine ⟨⟨⟨by rw [lLen_eq]; omega, roomy_of (by rw [lLen_eq]; omega) (by rw [lLen_eq]; omega) (by omega)⟩, copyg_ok x (0, 0, 0) (0, 0, 0) h1 (fun _ => rfl) (fun l i hi => by simp only [lSet_eq, lGet_eq, iNat_eq, Int.toNat_natCast]; rw [(hY i hi).2]) (fun l i hl hi => ?_)⟩, copyg_v x (0, 0, 0) (0, 0, 0) h1 (fun _ => rfl) (fun l i hi => by simp only [lSet_eq, lGet_eq, iNat_eq, Int.toNat_natCast]; rw [(hY i hi).2])⟩
  simp only [iLt_eq, lLen_eq, iNat_eq, lGet_eq, decide_eq_true_eq, Int.toNat_natCast]
  exact ⟨fun hh => ⟨by omega, by omega, (hY i (by omega)).1, by omega, by omega⟩, fun _ => trivial⟩
theorem to_StepSS (x : List (List (Int × Int × Int))) (h : sm_StepSS x) : ok_laws_toStepSS x ∧ v_laws_toStepSS x = x := by
  rw [oe_laws_toStepSS, ve_laws_toStepSS]
  obtain ⟨h1, h2⟩ := h
  have hY : ∀ i : Nat, i < x.length → ok_laws_toStepS (x.getD i []) ∧ v_laws_toStepS (x.getD i []) = x.getD i [] := fun i hi => to_StepS _ (h2 _ (getD_mem x i [] hi))
  refine ⟨⟨⟨by rw [lLen_eq]; omega, roomy_of (by rw [lLen_eq]; omega) (by rw [lLen_eq]; omega) (by omega)⟩, copyg_ok x [] [] h1 (fun _ => rfl) (fun l i hi => by simp only [lSet_eq, lGet_eq, iNat_eq, Int.toNat_natCast]; rw [(hY i hi).2]) (fun l i hl hi => ?_)⟩, copyg_v x [] [] h1 (fun _ => rfl) (fun l i hi => by simp only [lSet_eq, lGet_eq, iNat_eq, Int.toNat_natCast]; rw [(hY i hi).2])⟩
  simp only [iLt_eq, lLen_eq, iNat_eq, lGet_eq, decide_eq_true_eq, Int.toNat_natCast]
  exact ⟨fun hh => ⟨by omega, by omega, (hY i (by omega)).1, by omega, by omega⟩, fun _ => trivial⟩
theorem to_Engine (x : Int × (List (List (Int × Int × Int × Int))) × (List (List (Int × Int × Int))) × Int × (List (Int × Int × Int × Int × Int)) × Int × Bool) (h : sm_Engine x) : ok_laws_toEngine x ∧ v_laws_toEngine x = x := by
  rw [oe_laws_toEngine, ve_laws_toEngine]
  have k0 := to_Keymap (x.1, x.2.1) (by unfold sm_Engine at h; exact h.1)
  have k1 := to_StepSS x.2.2.1 (by unfold sm_Engine at h; exact h.2.1)
  have k2 := to_HeldS x.2.2.2.2.1 (by unfold sm_Engine at h; exact h.2.2.1)
  refine ⟨⟨k0.1, k1.1, k2.1⟩, ?_⟩
  simp only [k0.2, k1.2, k2.2]
theorem eq_Step (a b : Int × Int × Int) (h : sm_Step a) : ok_laws_eqStep (a, b) ∧ (v_laws_eqStep (a, b) = true ↔ a = b) := by
  obtain ⟨a0, a1, a2⟩ := a
  obtain ⟨b0, b1, b2⟩ := b
  rw [oe_laws_eqStep, ve_laws_eqStep]
  refine ⟨by simp, ?_⟩
  simp only [bNot_eq, bAnd_eq, bIff_eq, iNe_eq, Bool.and_eq_true, Bool.not_not, decide_eq_true_eq, Prod.mk.injEq, beq_iff_eq]
  try (constructor <;> intro h <;> simp_all)
theorem eq_StepS (a b : List (Int × Int × Int)) (h : sm_StepS a) : ok_laws_eqStepS (a, b) ∧ (v_laws_eqStepS (a, b) = true ↔ a = b) := by
  rw [oe_laws_eqStepS, ve_laws_eqStepS]
  obtain ⟨h1, h2⟩ := h
  have hY : ∀ i : Nat, i < a.length → ok_laws_eqStep (((lGet a i (0, 0, 0)).1, (lGet a i (0, 0, 0)).2.1, (lGet a i (0, 0, 0)).2.2), ((lGet b i (0, 0, 0)).1, (lGet b i (0, 0, 0)).2.1, (lGet b i (0, 0, 0)).2.2)) ∧ (v_laws_eqStep (((lGet a i (0, 0, 0)).1, (lGet a i (0, 0, 0)).2.1, (lGet a i (0, 0, 0)).2.2), ((lGet b i (0, 0, 0)).1, (lGet b i (0, 0, 0)).2.1, (lGet b i (0, 0, 0)).2.2)) = true ↔ a.getD i (0, 0, 0) = b.getD i (0, 0, 0)) := fun i hi => by
    have := eq_Step (a.getD i (0, 0, 0)) (b.getD i (0, 0, 0)) (h2 _ (getD_mem a i (0, 0, 0) hi))
    rw [lGet_eq, lGet_eq]; exact this
  by_cases hl : a.length = b.length
  · refine ⟨⟨fun _ => trivial, fun _ => eq_ok a b (0, 0, 0) (fun i => bNot (v_laws_eqStep (((lGet a i (0, 0, 0)).1, (lGet a i (0, 0, 0)).2.1, (lGet a i (0, 0, 0)).2.2), ((lGet b i (0, 0, 0)).1, (lGet b i (0, 0, 0)).2.1, (lGet b i (0, 0, 0)).2.2)))) hl (fun i hi => by simp only [bNot_eq, Bool.not_eq_false', (hY i hi).2]) (by omega) (fun i hi => by simp only [bAnd_eq, iLt_eq, lLen_eq, iNat_eq, bNot_eq, Int.toNat_natCast, Int.ofNat_lt]) (fun i hi => rfl) (fun i hi => ?_)⟩, ?_⟩
    · simp only [iLt_eq, lLen_eq, iNat_eq, decide_eq_true_eq, Int.toNat_natCast]
      exact ⟨fun hh => ⟨by omega, by omega, by omega, by omega, (hY i (by omega)).1⟩, fun _ => trivial⟩
    · have hv := eq_v (c := fun i : Int => bAnd (iLt i (lLen a)) (bNot ((fun i => bNot (v_laws_eqStep (((lGet a i (0, 0, 0)).1, (lGet a i (0, 0, 0)).2.1, (lGet a i (0, 0, 0)).2.2), ((lGet b i (0, 0, 0)).1, (lGet b i (0, 0, 0)).2.1, (lGet b i (0, 0, 0)).2.2)))) i.toNat))) (f := fun i => iAdd .i64 i 1) a b (0, 0, 0) (fun i => bNot (v_laws_eqStep (((lGet a i (0, 0, 0)).1, (lGet a i (0, 0, 0)).2.1, (lGet a i (0, 0, 0)).2.2), ((lGet b i (0, 0, 0)).1, (lGet b i (0, 0, 0)).2.1, (lGet b i (0, 0, 0)).2.2)))) hl (fun i hi => by simp only [bNot_eq, Bool.not_eq_false', (hY i hi).2]) (by omega) (fun i hi => by simp only [bAnd_eq, iLt_eq, lLen_eq, bNot_eq, Int.toNat_natCast, Int.ofNat_lt]) (fun i hi => rfl)
      have e1 : bNot (iNe (lLen a) (lLen b)) = true := by rw [bNot_eq, iNe_eq, lLen_eq, lLen_eq, hl]; simp
      rw [e1, bAnd_eq true, Bool.true_and, bNot_eq (iLt _ (lLen a)), iLt_eq _ (lLen a)]
      simp only [← iNat_eq, lLen_eq] at hv ⊢
      simp only [Bool.not_eq_true', decide_eq_false_iff_not]
      rw [hv]; simp
  · have e1 : bNot (iNe (lLen a) (lLen b)) = false := by rw [bNot_eq, iNe_eq, lLen_eq, lLen_eq]; simp; omega
    refine ⟨⟨fun _ => trivial, fun h => ?_⟩, ?_⟩
    · rw [bNot_eq] at e1; rw [h] at e1; cases e1
    · rw [e1, bAnd_eq, Bool.false_and]; constructor
      · intro h; cases h
      · intro e; subst e; exact absurd rfl hl
theorem eq_StepSS (a b : List (List (Int × Int × Int))) (h : sm_StepSS a) : ok_laws_eqStepSS (a, b) ∧ (v_laws_eqStepSS (a, b) = true ↔ a = b) := by
  rw [oe_laws_eqStepSS, ve_laws_eqStepSS]
  obtain ⟨h1, h2⟩ := h
  have hY : ∀ i : Nat, i < a.length → ok_laws_eqStepS ((lGet a i []), (lGet b i [])) ∧ (v_laws_eqStepS ((lGet a i []), (lGet b i [])) = true ↔ a.getD i [] = b.getD i []) := fun i hi => by
    have := eq_StepS (a.getD i []) (b.getD i []) (h2 _ (getD_mem a i [] hi))
    rw [lGet_eq, lGet_eq]; exact this
  by_cases hl : a.length = b.length
  · refine ⟨⟨fun _ => trivial, fun _ => eq_ok a b [] (fun i => bNot (v_laws_eqStepS ((lGet a i []), (lGet b i [])))) hl (fun i hi => by simp only [bNot_eq, Bool.not_eq_false', (hY i hi).2]) (by omega) (fun i hi => by simp only [bAnd_eq, iLt_eq, lLen_eq, iNat_eq, bNot_eq, Int.toNat_natCast, Int.ofNat_lt]) (fun i hi => rfl) (fun i hi => ?_)⟩, ?_⟩
    · simp only [iLt_eq, lLen_eq, iNat_eq, decide_eq_true_eq, Int.toNat_natCast]
      exact ⟨fun hh => ⟨by omega, by omega, by omega, by omega, (hY i (by omega)).1⟩, fun _ => trivial⟩
    · have hv := eq_v (c := fun i : Int => bAnd (iLt i (lLen a)) (bNot ((fun i => bNot (v_laws_eqStepS ((lGet a i []), (lGet b i [])))) i.toNat))) (f := fun i => iAdd .i64 i 1) a b [] (fun i => bNot (v_laws_eqStepS ((lGet a i []), (lGet b i [])))) hl (fun i hi => by simp only [bNot_eq, Bool.not_eq_false', (hY i hi).2]) (by omega) (fun i hi => by simp only [bAnd_eq, iLt_eq, lLen_eq, bNot_eq, Int.toNat_natCast, Int.ofNat_lt]) (fun i hi => rfl)
      have e1 : bNot (iNe (lLen a) (lLen b)) = true := by rw [bNot_eq, iNe_eq, lLen_eq, lLen_eq, hl]; simp
      rw [e1, bAnd_eq true, Bool.true_and, bNot_eq (iLt _ (lLen a)), iLt_eq _ (lLen a)]
      simp only [← iNat_eq, lLen_eq] at hv ⊢
      simp only [Bool.not_eq_true', decide_eq_false_iff_not]
      rw [hv]; simp
  · have e1 : bNot (iNe (lLen a) (lLen b)) = false := by rw [bNot_eq, iNe_eq, lLen_eq, lLen_eq]; simp; omega
    refine ⟨⟨fun _ => trivial, fun h => ?_⟩, ?_⟩
    · rw [bNot_eq] at e1; rw [h] at e1; cases e1
    · rw [e1, bAnd_eq, Bool.false_and]; constructor
      · intro h; cases h
      · intro e; subst e; exact absurd rfl hl
theorem eq_Engine (a b : Int × (List (List (Int × Int × Int × Int))) × (List (List (Int × Int × Int))) × Int × (List (Int × Int × Int × Int × Int)) × Int × Bool) (h : sm_Engine a) : ok_laws_eqEngine (a, b) ∧ (v_laws_eqEngine (a, b) = true ↔ a = b) := by
  obtain ⟨a0, a1, a2, a3, a4, a5, a6⟩ := a
  obtain ⟨b0, b1, b2, b3, b4, b5, b6⟩ := b
  have k0 := eq_Keymap (a0, a1) (b0, b1) (by unfold sm_Engine at h; exact h.1)
  have k1 := eq_StepSS a2 b2 (by unfold sm_Engine at h; exact h.2.1)
  have k2 := eq_HeldS a4 b4 (by unfold sm_Engine at h; exact h.2.2.1)
  rw [oe_laws_eqEngine, ve_laws_eqEngine]
  refine ⟨by simp [k0.1, k0.2, k1.1, k1.2, k2.1, k2.2], ?_⟩
  simp only [k0.1, k0.2, k1.1, k1.2, k2.1, k2.2, bNot_eq, bAnd_eq, bIff_eq, iNe_eq, Bool.and_eq_true, Bool.not_not, decide_eq_true_eq, Prod.mk.injEq, beq_iff_eq]
  try (constructor <;> intro h <;> simp_all)
section
set_option maxRecDepth 8000
noncomputable def dc_spec_l8Find : DCode :=
  (.seq [3, 0] (.region [oa 0 3 (.boxB 0 3 (.t 1)),
 oi 1 4 0])
  (.seq [] (.seq [5, 3, 0] (.region [oi 0 5 0])
  (.block 0 (.loop [0, 3, 5] 1 (.seq [5, 3, 0] (.seq [9, 5, 3, 0] (.region [om 0 6 5,
 on 1 7 0,
 oa 2 8 (.len (.t 7)),
 oa 3 9 (.bin .lss (.t 6) (.t 8))])
  (.cond (.t 9) .skip (.exit 0)))
  (.seq [5, 3, 0] (.block 1 (.seq [31, 5, 3, 0] (.region [on 0 12 0,
 om 1 13 5,
 xA 2 14 (.indexA 5 (.t 12) (.t 13)) (rg 2),
 xA 3 15 (.fieldA 1 (.t 14)) (rg 3),
 xA 4 16 (.fieldA 1 (.t 15)) (rg 4),
 xA 5 17 (.loadH none (.t 16)) (rg 5),
 oa 6 18 (.fieldA 1 (.t 3)),
 xA 7 19 (.loadB 0 none (.t 18)) [6],
 xA 8 20 (.bin .eql (.t 17) (.t 19)) (rg 8),
 xA 9 21 (.mv (.t 20)) (rg 9),
 ⟨10, some 22, .a true (.mv (.t 0)) none, (some (21, true)), [0, 1, 2, 3, 4, 5, 6, 7, 8, 9]⟩,
 ⟨11, some 23, .a false (.mv (.t 5)) none, (some (21, true)), [0, 1, 2, 3, 4, 5, 6, 7, 8, 9]⟩,
 ⟨12, some 24, .a false (.indexA 5 (.t 22) (.t 23)) none, (some (21, true)), [0, 1, 2, 3, 4, 5, 6, 7, 8, 9, 10, 11]⟩,
 ⟨13, some 25, .a false (.fieldA 1 (.t 24)) none, (some (21, true)), [0, 1, 2, 3, 4, 5, 6, 7, 8, 9, 10, 11, 12]⟩,
 ⟨14, some 26, .a false (.fieldA 2 (.t 25)) none, (some (21, true)), [0, 1, 2, 3, 4, 5, 6, 7, 8, 9, 10, 11, 12, 13]⟩,
 ⟨15, some 27, .a false (.loadH none (.t 26)) none, (some (21, true)), [0, 1, 2, 3, 4, 5, 6, 7, 8, 9, 10, 11, 12, 13, 14]⟩,
 ⟨16, some 28, .a false (.fieldA 2 (.t 3)) none, (some (21, true)), [0, 1, 2, 3, 4, 5, 6, 7, 8, 9]⟩,
 ⟨17, some 29, .a false (.loadB 0 none (.t 28)) none, (some (21, true)), [0, 1, 2, 3, 4, 5, 6, 7, 8, 9, 16]⟩,
 ⟨18, some 30, .a false (.bin .eql (.t 27) (.t 29)) none, (some (21, true)), [0, 1, 2, 3, 4, 5, 6, 7, 8, 9, 10, 11, 12, 13, 14, 15, 16, 17]⟩,
 xA 19 31 (.pick (.t 21) (.t 30) (.c (.bool false))) (rg 19)])
  (.cond (.t 31) (.seq [4] (.region [om 0 32 5,
 om 1 4 32])
  .ret) .skip)))
  (.region [om 0 10 5,
 oa 1 11 (.bin .add (.t 10) (.c (.int .i64 1))),
 om 2 5 11]))))))
  (.seq [4] (.region [oi 0 4 (-1)])
  .ret)))
noncomputable def df_spec_l8Find : DFun := ⟨2, 33, 1, true, [.tmp 4], dc_spec_l8Find⟩
noncomputable def pf_spec_l8Find : PFun := df_spec_l8Find.er
noncomputable def f_spec_l8Find : AFun := pf_spec_l8Find.er
@[irreducible] noncomputable def s_spec_l8Find : CallSem := funSem f_spec_l8Find
@[irreducible] noncomputable def p_spec_l8Find : PSem := pfunSem pf_spec_l8Find
theorem sp_spec_l8Find : SoundP s_spec_l8Find p_spec_l8Find := by unfold s_spec_l8Find p_spec_l8Find; exact pfun_sound (f := pf_spec_l8Find) trivial
def h_spec_l8Find : List HT := [.one .frz (.sl (.cons (.int .i64) (.cons (.int .i64) (.cons (.int .i64) (.cons (.int .i64) (.one (.int .i64))))))), .agg [(.frz, .int .i64), (.frz, .int .i64), (.frz, .int .i64)]]
def q_spec_l8Find : QT := .one (.one .own (.int .i64))
@[irreducible] noncomputable def v_spec_l8Find (x : (List (Int × Int × Int × Int × Int)) × (Int × Int × Int)) : Int := (shut fun x => fnV df_spec_l8Find h_spec_l8Find q_spec_l8Find x).1 x
@[irreducible] noncomputable def ok_spec_l8Find (x : (List (Int × Int × Int × Int × Int)) × (Int × Int × Int)) : Prop := (shut fun x => fnOk df_spec_l8Find h_spec_l8Find q_spec_l8Find x).1 x
theorem vu_spec_l8Find (x : (List (Int × Int × Int × Int × Int)) × (Int × Int × Int)) : v_spec_l8Find x = fnV df_spec_l8Find h_spec_l8Find q_spec_l8Find x := by unfold v_spec_l8Find; exact congrFun (shut _).2 x
theorem ou_spec_l8Find (x : (List (Int × Int × Int × Int × Int)) × (Int × Int × Int)) : ok_spec_l8Find x = fnOk df_spec_l8Find h_spec_l8Find q_spec_l8Find x := by unfold ok_spec_l8Find; exact congrFun (shut _).2 x
noncomputable def D_spec_l8Find : DSem := DSemOf h_spec_l8Find q_spec_l8Find ok_spec_l8Find v_spec_l8Find
theorem ck_spec_l8Find (x : (List (Int × Int × Int × Int × Int)) × (Int × Int × Int)) : fnChk df_spec_l8Find h_spec_l8Find q_spec_l8Find x = true := by kernel_rfl
theorem ob_spec_l8Find : AllD df_spec_l8Find.body.obs := trivial
theorem st_spec_l8Find : fnSt df_spec_l8Find h_spec_l8Find q_spec_l8Find = true := by kernel_rfl
theorem sd_spec_l8Find : SoundD p_spec_l8Find D_spec_l8Find := by unfold p_spec_l8Find; exact soundD_of (f := df_spec_l8Find) (hs := h_spec_l8Find) (q := q_spec_l8Find) ob_spec_l8Find st_spec_l8Find ck_spec_l8Find (fun x h => Eq.mp (ou_spec_l8Find x) h) (fun x => (vu_spec_l8Find x).symm)
noncomputable def dc_spec_l8Action : DCode :=
  (.seq [2, 1] (.region [oa 0 1 (.boxB 0 3 (.t 0)),
 oa 1 2 (.allocB 1 [(.int .i64 0), (.int .i64 0), (.int .i64 0), (.int .i64 0)])])
  (.seq [2] (.region [oa 0 3 (.fieldA 1 (.t 1)),
 ob 1 4 (.loadB 0 none (.t 3)),
 oa 2 5 (.fieldA 2 (.t 1)),
 ob 3 6 (.loadB 0 none (.t 5)),
 oa 4 7 (.build [(.int .i64 0), (.int .i64 0), (.int .i64 0), (.int .i64 0)] [(0, 1, (.c (.int .i64 2))), (1, 1, (.t 4)), (2, 1, (.t 6))]),
 os 5 (.storeB 1 4 (.t 2) (.t 7))])
  .ret))
noncomputable def df_spec_l8Action : DFun := ⟨1, 8, 2, true, [.cell 2 (some 4)], dc_spec_l8Action⟩
noncomputable def pf_spec_l8Action : PFun := df_spec_l8Action.er
noncomputable def f_spec_l8Action : AFun := pf_spec_l8Action.er
@[irreducible] noncomputable def s_spec_l8Action : CallSem := funSem f_spec_l8Action
@[irreducible] noncomputable def p_spec_l8Action : PSem := pfunSem pf_spec_l8Action
theorem sp_spec_l8Action : SoundP s_spec_l8Action p_spec_l8Action := by unfold s_spec_l8Action p_spec_l8Action; exact pfun_sound (f := pf_spec_l8Action) trivial
def h_spec_l8Action : List HT := [.agg [(.frz, .int .i64), (.frz, .int .i64), (.frz, .int .i64)]]
def q_spec_l8Action : QT := .one (.agg [(.own, .int .i64), (.own, .int .i64), (.own, .int .i64), (.own, .int .i64)])
@[irreducible] noncomputable def v_spec_l8Action (x : Int × Int × Int) : Int × Int × Int × Int := (shut fun x => fnV df_spec_l8Action h_spec_l8Action q_spec_l8Action x).1 x
@[irreducible] noncomputable def ok_spec_l8Action (x : Int × Int × Int) : Prop := (shut fun x => fnOk df_spec_l8Action h_spec_l8Action q_spec_l8Action x).1 x
theorem vu_spec_l8Action (x : Int × Int × Int) : v_spec_l8Action x = fnV df_spec_l8Action h_spec_l8Action q_spec_l8Action x := by unfold v_spec_l8Action; exact congrFun (shut _).2 x
theorem ou_spec_l8Action (x : Int × Int × Int) : ok_spec_l8Action x = fnOk df_spec_l8Action h_spec_l8Action q_spec_l8Action x := by unfold ok_spec_l8Action; exact congrFun (shut _).2 x
noncomputable def D_spec_l8Action : DSem := DSemOf h_spec_l8Action q_spec_l8Action ok_spec_l8Action v_spec_l8Action
theorem ck_spec_l8Action (x : Int × Int × Int) : fnChk df_spec_l8Action h_spec_l8Action q_spec_l8Action x = true := by kernel_rfl
theorem ob_spec_l8Action : AllD df_spec_l8Action.body.obs := trivial
theorem st_spec_l8Action : fnSt df_spec_l8Action h_spec_l8Action q_spec_l8Action = true := by kernel_rfl
theorem sd_spec_l8Action : SoundD p_spec_l8Action D_spec_l8Action := by unfold p_spec_l8Action; exact soundD_of (f := df_spec_l8Action) (hs := h_spec_l8Action) (q := q_spec_l8Action) ob_spec_l8Action st_spec_l8Action ck_spec_l8Action (fun x h => Eq.mp (ou_spec_l8Action x) h) (fun x => (vu_spec_l8Action x).symm)
noncomputable def dc_spec_l8Without : DCode :=
  (.seq [1, 0] (.region [oa 0 4 (.mv (.c .nils))])
  (.seq [4] (.region [on 1 6 0,
 om 2 7 1,
 xA 3 8 (.slice 5 (.t 6) none (some (.t 7))) [1, 2],
 on 5 10 0,
 om 6 11 1,
 xA 7 12 (.bin .add (.t 11) (.c (.int .i64 1))) [6],
 xA 8 13 (.slice 5 (.t 10) (some (.t 12)) none) [5, 6, 7],
 ⟨0, some 5, .a false (.litSlice 5 0 [] []) (some (.cons (.int .i64) (.cons (.int .i64) (.cons (.int .i64) (.cons (.int .i64) (.one (.int .i64))))))), none, []⟩,
 xA 4 9 (.app 5 (.t 5) (.t 8)) (rg 4),
 xA 9 14 (.app 5 (.t 9) (.t 13)) (rg 9),
 xA 10 4 (.mv (.t 14)) (rg 10)])
  .ret))
noncomputable def df_spec_l8Without : DFun := ⟨2, 15, 0, false, [.tmp 4], dc_spec_l8Without⟩
noncomputable def pf_spec_l8Without : PFun := df_spec_l8Without.er
noncomputable def f_spec_l8Without : AFun := pf_spec_l8Without.er
@[irreducible] noncomputable def s_spec_l8Without : CallSem := funSem f_spec_l8Without
@[irreducible] noncomputable def p_spec_l8Without : PSem := pfunSem pf_spec_l8Without
theorem sp_spec_l8Without : SoundP s_spec_l8Without p_spec_l8Without := by unfold s_spec_l8Without p_spec_l8Without; exact pfun_sound (f := pf_spec_l8Without) trivial
def h_spec_l8Without : List HT := [.one .frz (.sl (.cons (.int .i64) (.cons (.int .i64) (.cons (.int .i64) (.cons (.int .i64) (.one (.int .i64))))))), .one .frz (.int .i64)]
def q_spec_l8Without : QT := .one (.one .own (.sl (.cons (.int .i64) (.cons (.int .i64) (.cons (.int .i64) (.cons (.int .i64) (.one (.int .i64))))))))
@[irreducible] noncomputable def v_spec_l8Without (x : (List (Int × Int × Int × Int × Int)) × Int) : List (Int × Int × Int × Int × Int) := (shut fun x => fnV df_spec_l8Without h_spec_l8Without q_spec_l8Without x).1 x
@[irreducible] noncomputable def ok_spec_l8Without (x : (List (Int × Int × Int × Int × Int)) × Int) : Prop := (shut fun x => fnOk df_spec_l8Without h_spec_l8Without q_spec_l8Without x).1 x
theorem vu_spec_l8Without (x : (List (Int × Int × Int × Int × Int)) × Int) : v_spec_l8Without x = fnV df_spec_l8Without h_spec_l8Without q_spec_l8Without x := by unfold v_spec_l8Without; exact congrFun (shut _).2 x
theorem ou_spec_l8Without (x : (List (Int × Int × Int × Int × Int)) × Int) : ok_spec_l8Without x = fnOk df_spec_l8Without h_spec_l8Without q_spec_l8Without x := by unfold ok_spec_l8Without; exact congrFun (shut _).2 x
noncomputable def D_spec_l8Without : DSem := DSemOf h_spec_l8Without q_spec_l8Without ok_spec_l8Without v_spec_l8Without
theorem ck_spec_l8Without (x : (List (Int × Int × Int × Int × Int)) × Int) : fnChk df_spec_l8Without h_spec_l8Without q_spec_l8Without x = true := by kernel_rfl
theorem ob_spec_l8Without : AllD df_spec_l8Without.body.obs := trivial
theorem st_spec_l8Without : fnSt df_spec_l8Without h_spec_l8Without q_spec_l8Without = true := by kernel_rfl
theorem sd_spec_l8Without : SoundD p_spec_l8Without D_spec_l8Without := by unfold p_spec_l8Without; exact soundD_of (f := df_spec_l8Without) (hs := h_spec_l8Without) (q := q_spec_l8Without) ob_spec_l8Without st_spec_l8Without ck_spec_l8Without (fun x h => Eq.mp (ou_spec_l8Without x) h) (fun x => (vu_spec_l8Without x).symm)
noncomputable def dc_spec_IsMacro : DCode :=
  (.seq [0] (.region [oa 0 2 (.mv (.c (.bool false)))])
  (.seq [3, 0] (.region [⟨0, some 7, .a false (.litSlice 5 0 [] []) (some (.cons (.int .i64) (.cons (.int .i64) (.cons (.int .i64) (.cons (.int .i64) (.one (.int .i64))))))), none, []⟩,
 om 1 3 7])
  (.seq [3, 0] (.seq [4, 3, 0] (.region [oi 0 4 0])
  (.block 0 (.loop [0, 3, 4] 1 (.seq [4, 3, 0] (.seq [11, 4, 3, 0] (.region [om 0 8 4,
 on 1 9 0,
 oa 2 10 (.len (.t 9)),
 oa 3 11 (.bin .lss (.t 8) (.t 10))])
  (.cond (.t 11) .skip (.exit 0)))
  (.seq [4, 3, 0] (.block 1 (.seq [5, 4, 3, 0] (.region [on 0 14 0,
 om 1 15 4,
 oa 2 16 (.indexA 3 (.t 14) (.t 15)),
 ob 3 17 (.loadH (some 3) (.t 16)),
 oa 4 5 (.allocB 0 [(.int .i64 0), (.int .i64 0), (.int .i64 0)]),
 os 5 (.storeB 0 3 (.t 5) (.t 17))])
  (.seq [6, 5, 4, 3, 0] (.region [on 0 18 3,
 oa 1 19 (.loadB 0 (some 3) (.t 5)),
 oc 2 20 s_spec_l8Find p_spec_l8Find D_spec_l8Find [(.t 18), (.t 19)],
 om 3 6 20])
  (.seq [6, 5, 4, 3, 0] (.seq [38, 6, 5, 4, 3, 0] (.region [oa 0 21 (.fieldA 0 (.t 5)),
 oa 1 22 (.loadB 0 none (.t 21)),
 oc 2 23 s_spec_l1In p_spec_l1In D_spec_l1In [(.t 22), (.c (.int .i64 0)), (.c (.int .i64 2))],
 oa 3 24 (.un .not (.t 23)),
 om 4 25 24,
 og 5 26 (.loadB 0 (some 3) (.t 5)) 25 false,
 ⟨6, some 27, .call false s_spec_l8Action p_spec_l8Action D_spec_l8Action [(.t 26)], (some (25, false)), []⟩,
 ⟨7, some 28, .call false s_spec_IsAction p_spec_IsAction D_spec_IsAction [(.t 27)], (some (25, false)), []⟩,
 og 8 29 (.un .not (.t 28)) 25 false,
 oa 9 30 (.pick (.t 25) (.c (.bool true)) (.t 29)),
 om 10 31 30,
 og 11 32 (.fieldA 0 (.t 5)) 31 false,
 og 12 33 (.loadB 0 none (.t 32)) 31 false,
 og 13 34 (.bin .eql (.t 33) (.c (.int .i64 2))) 31 false,
 og 14 35 (.mv (.t 6)) 31 false,
 og 15 36 (.bin .geq (.t 35) (.c (.int .i64 0))) 31 false,
 og 16 37 (.eqB true (.t 34) (.t 36)) 31 false,
 oa 17 38 (.pick (.t 31) (.c (.bool true)) (.t 37))])
  (.cond (.t 38) (.seq [2] (.region [oa 0 2 (.mv (.c (.bool false)))])
  .ret) .skip))
  (.seq [40, 6, 5, 4, 3, 0] (.region [oa 0 39 (.fieldA 0 (.t 5)),
 oa 1 40 (.loadB 0 none (.t 39))])
  (.block 2 (.seq [41, 40, 6, 5, 4, 3, 0] (.region [oa 0 42 (.bin .eql (.t 40) (.c (.int .i64 1))),
 om 1 41 42])
  (.cond (.t 41) (.region [om 0 43 3,
 oa 1 44 (.loadB 0 (some 3) (.t 5)),
 oc 2 45 s_spec_l8Action p_spec_l8Action D_spec_l8Action [(.t 44)],
 oa 3 46 (.build [(.int .i64 0), (.int .i64 0), (.int .i64 0), (.int .i64 0), (.int .i64 0)] [(1, 4, (.t 45))]),
 ⟨4, some 47, .a false (.litSlice 5 1 [(.int .i64 0), (.int .i64 0), (.int .i64 0), (.int .i64 0), (.int .i64 0)] [(0, 5, (.t 46))]) (some (.cons (.int .i64) (.cons (.int .i64) (.cons (.int .i64) (.cons (.int .i64) (.one (.int .i64))))))), none, []⟩,
 oa 5 48 (.app 5 (.t 43) (.t 47)),
 om 6 3 48]) (.seq [49, 6, 4, 3, 0] (.region [oa 0 50 (.bin .eql (.t 40) (.c (.int .i64 2))),
 om 1 49 50])
  (.cond (.t 49) (.region [on 0 51 3,
 om 1 52 6,
 oc 2 53 s_spec_l8Without p_spec_l8Without D_spec_l8Without [(.t 51), (.t 52)],
 om 3 3 53]) .skip))))))))))
  (.region [om 0 12 4,
 oa 1 13 (.bin .add (.t 12) (.c (.int .i64 1))),
 om 2 4 13]))))))
  (.seq [2] (.region [on 0 54 0,
 oa 1 55 (.len (.t 54)),
 oa 2 56 (.bin .leq (.t 55) (.c (.int .i64 8))),
 om 3 57 56,
 ⟨4, some 58, .a true (.mv (.t 3)) none, (some (57, true)), []⟩,
 og 5 59 (.len (.t 58)) 57 true,
 og 6 60 (.bin .eql (.t 59) (.c (.int .i64 0))) 57 true,
 oa 7 61 (.pick (.t 57) (.t 60) (.c (.bool false))),
 om 8 2 61])
  .ret))))
noncomputable def df_spec_IsMacro : DFun := ⟨1, 62, 1, true, [.tmp 2], dc_spec_IsMacro⟩
noncomputable def pf_spec_IsMacro : PFun := df_spec_IsMacro.er
noncomputable def f_spec_IsMacro : AFun := pf_spec_IsMacro.er
@[irreducible] noncomputable def s_spec_IsMacro : CallSem := funSem f_spec_IsMacro
@[irreducible] noncomputable def p_spec_IsMacro : PSem := pfunSem pf_spec_IsMacro
theorem sp_spec_IsMacro : SoundP s_spec_IsMacro p_spec_IsMacro := by unfold s_spec_IsMacro p_spec_IsMacro; exact pfun_sound (f := pf_spec_IsMacro) ⟨sp_spec_l8Find, sp_spec_l1In, sp_spec_l8Action, sp_spec_IsAction, sp_spec_l8Action, sp_spec_l8Without, trivial⟩
def h_spec_IsMacro : List HT := [.one .frz (.sl (.cons (.int .i64) (.cons (.int .i64) (.one (.int .i64)))))]
def q_spec_IsMacro : QT := .one (.one .own (.bool))
@[irreducible] noncomputable def v_spec_IsMacro (x : List (Int × Int × Int)) : Bool := (shut fun x => fnV df_spec_IsMacro h_spec_IsMacro q_spec_IsMacro x).1 x
@[irreducible] noncomputable def ok_spec_IsMacro (x : List (Int × Int × Int)) : Prop := (shut fun x => fnOk df_spec_IsMacro h_spec_IsMacro q_spec_IsMacro x).1 x
theorem vu_spec_IsMacro (x : List (Int × Int × Int)) : v_spec_IsMacro x = fnV df_spec_IsMacro h_spec_IsMacro q_spec_IsMacro x := by unfold v_spec_IsMacro; exact congrFun (shut _).2 x
theorem ou_spec_IsMacro (x : List (Int × Int × Int)) : ok_spec_IsMacro x = fnOk df_spec_IsMacro h_spec_IsMacro q_spec_IsMacro x := by unfold ok_spec_IsMacro; exact congrFun (shut _).2 x
noncomputable def D_spec_IsMacro : DSem := DSemOf h_spec_IsMacro q_spec_IsMacro ok_spec_IsMacro v_spec_IsMacro
theorem ck_spec_IsMacro (x : List (Int × Int × Int)) : fnChk df_spec_IsMacro h_spec_IsMacro q_spec_IsMacro x = true := by kernel_rfl
theorem ob_spec_IsMacro : AllD df_spec_IsMacro.body.obs := ⟨sd_spec_l8Find, sd_spec_l1In, sd_spec_l8Action, sd_spec_IsAction, sd_spec_l8Action, sd_spec_l8Without, trivial⟩
theorem st_spec_IsMacro : fnSt df_spec_IsMacro h_spec_IsMacro q_spec_IsMacro = true := by kernel_rfl
theorem sd_spec_IsMacro : SoundD p_spec_IsMacro D_spec_IsMacro := by unfold p_spec_IsMacro; exact soundD_of (f := df_spec_IsMacro) (hs := h_spec_IsMacro) (q := q_spec_IsMacro) ob_spec_IsMacro st_spec_IsMacro ck_spec_IsMacro (fun x h => Eq.mp (ou_spec_IsMacro x) h) (fun x => (vu_spec_IsMacro x).symm)
noncomputable def dc_impl_pairAt : DCode :=
  (.seq [3, 0] (.region [oa 0 3 (.boxB 0 2 (.t 1)),
 oi 1 4 0])
  (.seq [] (.seq [9, 8, 7, 3] (.region [on 0 7 0,
 oa 1 8 (.len (.t 7)),
 oi 2 9 0])
  (.block 0 (.loop [3, 7, 8, 9] 1 (.seq [10, 9, 8, 7, 3] (.region [oa 0 10 (.bin .lss (.t 9) (.t 8))])
  (.seq [9, 8, 7, 3] (.cond (.t 10) .skip (.exit 0))
  (.seq [9, 8, 7, 3] (.block 1 (.seq [9, 8, 7, 6, 5, 3] (.region [om 0 11 9,
 oa 1 12 (.indexA 2 (.t 7) (.t 9)),
 ob 2 13 (.loadH (some 2) (.t 12)),
 oa 3 6 (.allocB 1 [(.int .i64 0), (.int .i64 0)]),
 om 4 5 11,
 os 5 (.storeB 1 2 (.t 6) (.t 13))])
  (.seq [16, 9, 8, 7, 5, 3] (.region [oa 0 14 (.loadB 1 (some 2) (.t 6)),
 oa 1 15 (.loadB 0 (some 2) (.t 3)),
 oa 2 16 (.eqA 2 false (.t 14) (.t 15))])
  (.cond (.t 16) (.seq [4] (.region [om 0 17 5,
 om 1 4 17])
  .ret) .skip))))
  (.region [oa 0 18 (.bin .add (.t 9) (.c (.int .i64 1))),
 om 1 9 18])))))))
  (.seq [4] (.region [oi 0 4 (-1)])
  .ret)))
noncomputable def df_impl_pairAt : DFun := ⟨2, 19, 2, true, [.tmp 4], dc_impl_pairAt⟩
noncomputable def pf_impl_pairAt : PFun := df_impl_pairAt.er
noncomputable def f_impl_pairAt : AFun := pf_impl_pairAt.er
@[irreducible] noncomputable def s_impl_pairAt : CallSem := funSem f_impl_pairAt
@[irreducible] noncomputable def p_impl_pairAt : PSem := pfunSem pf_impl_pairAt
theorem sp_impl_pairAt : SoundP s_impl_pairAt p_impl_pairAt := by unfold s_impl_pairAt p_impl_pairAt; exact pfun_sound (f := pf_impl_pairAt) trivial
def h_impl_pairAt : List HT := [.one .frz (.sl (.cons (.int .i64) (.one (.int .i64)))), .agg [(.frz, .int .i64), (.frz, .int .i64)]]
def q_impl_pairAt : QT := .one (.one .own (.int .i64))
@[irreducible] noncomputable def v_impl_pairAt (x : (List (Int × Int)) × (Int × Int)) : Int := (shut fun x => fnV df_impl_pairAt h_impl_pairAt q_impl_pairAt x).1 x
@[irreducible] noncomputable def ok_impl_pairAt (x : (List (Int × Int)) × (Int × Int)) : Prop := (shut fun x => fnOk df_impl_pairAt h_impl_pairAt q_impl_pairAt x).1 x
theorem vu_impl_pairAt (x : (List (Int × Int)) × (Int × Int)) : v_impl_pairAt x = fnV df_impl_pairAt h_impl_pairAt q_impl_pairAt x := by unfold v_impl_pairAt; exact congrFun (shut _).2 x
theorem ou_impl_pairAt (x : (List (Int × Int)) × (Int × Int)) : ok_impl_pairAt x = fnOk df_impl_pairAt h_impl_pairAt q_impl_pairAt x := by unfold ok_impl_pairAt; exact congrFun (shut _).2 x
noncomputable def D_impl_pairAt : DSem := DSemOf h_impl_pairAt q_impl_pairAt ok_impl_pairAt v_impl_pairAt
theorem ck_impl_pairAt (x : (List (Int × Int)) × (Int × Int)) : fnChk df_impl_pairAt h_impl_pairAt q_impl_pairAt x = true := by kernel_rfl
theorem ob_impl_pairAt : AllD df_impl_pairAt.body.obs := trivial
theorem st_impl_pairAt : fnSt df_impl_pairAt h_impl_pairAt q_impl_pairAt = true := by kernel_rfl
theorem sd_impl_pairAt : SoundD p_impl_pairAt D_impl_pairAt := by unfold p_impl_pairAt; exact soundD_of (f := df_impl_pairAt) (hs := h_impl_pairAt) (q := q_impl_pairAt) ob_impl_pairAt st_impl_pairAt ck_impl_pairAt (fun x h => Eq.mp (ou_impl_pairAt x) h) (fun x => (vu_impl_pairAt x).symm)
noncomputable def dc_impl_IsMacro : DCode :=
  (.seq [0] (.region [oa 0 2 (.mv (.c (.bool false)))])
  (.seq [0] (.seq [10, 0] (.region [on 0 8 0,
 oa 1 9 (.len (.t 8)),
 oa 2 10 (.bin .gtr (.t 9) (.c (.int .i64 8)))])
  (.cond (.t 10) (.seq [2] (.region [oa 0 2 (.mv (.c (.bool false)))])
  .ret) .skip))
  (.seq [3, 0] (.region [⟨0, some 3, .aw [(0, 2)] false (.mv (.c .nils)) none, none, []⟩])
  (.seq [3] (.seq [13, 12, 11, 3] (.region [on 0 11 0,
 oa 1 12 (.len (.t 11)),
 oi 2 13 0])
  (.block 0 (.loop [3, 11, 12, 13] 1 (.seq [14, 13, 12, 11, 3] (.region [oa 0 14 (.bin .lss (.t 13) (.t 12))])
  (.seq [13, 12, 11, 3] (.cond (.t 14) .skip (.exit 0))
  (.seq [13, 12, 11, 3] (.block 1 (.seq [13, 12, 11, 5, 3] (.region [oa 0 15 (.indexA 3 (.t 11) (.t 13)),
 ob 1 16 (.loadH (some 3) (.t 15)),
 oa 2 5 (.allocB 0 [(.int .i64 0), (.int .i64 0), (.int .i64 0)]),
 os 3 (.storeB 0 3 (.t 5) (.t 16))])
  (.seq [13, 12, 11, 6, 5, 3] (.region [oa 0 17 (.fieldA 1 (.t 5)),
 ob 1 18 (.loadB 0 none (.t 17)),
 oa 2 19 (.fieldA 2 (.t 5)),
 ob 3 20 (.loadB 0 none (.t 19)),
 oa 4 21 (.build [(.int .i64 0), (.int .i64 0)] [(0, 1, (.t 18)), (1, 1, (.t 20))]),
 oa 5 6 (.allocB 1 [(.int .i64 0), (.int .i64 0)]),
 os 6 (.storeB 1 2 (.t 6) (.t 21))])
  (.seq [13, 12, 11, 7, 6, 5, 3] (.region [on 0 22 3,
 oa 1 23 (.loadB 1 (some 2) (.t 6)),
 oc 2 24 s_impl_pairAt p_impl_pairAt D_impl_pairAt [(.t 22), (.t 23)],
 om 3 7 24])
  (.seq [13, 12, 11, 7, 6, 5, 3] (.seq [31, 13, 12, 11, 7, 6, 5, 3] (.region [oa 0 25 (.fieldA 1 (.t 5)),
 ob 1 26 (.loadB 0 none (.t 25)),
 oa 2 27 (.fieldA 2 (.t 5)),
 ob 3 28 (.loadB 0 none (.t 27)),
 oa 4 29 (.build [(.int .i64 0), (.int .i64 0), (.int .i64 0), (.int .i64 0)] [(0, 1, (.c (.int .i64 2))), (1, 1, (.t 26)), (2, 1, (.t 28))]),
 oc 5 30 s_impl_IsAction p_impl_IsAction D_impl_IsAction [(.t 29)],
 oa 6 31 (.un .not (.t 30))])
  (.cond (.t 31) (.seq [2] (.region [oa 0 2 (.mv (.c (.bool false)))])
  .ret) .skip))
  (.seq [33, 13, 12, 11, 7, 6, 5, 3] (.region [oa 0 32 (.fieldA 0 (.t 5)),
 oa 1 33 (.loadB 0 none (.t 32))])
  (.block 2 (.seq [34, 33, 13, 12, 11, 7, 6, 5, 3] (.seq [34, 33, 13, 12, 11, 7, 6, 5, 3] (.region [oa 0 35 (.bin .eql (.t 33) (.c (.int .i64 0))),
 om 1 34 35])
  (.cond (.t 34) .skip (.region [oa 0 36 (.bin .eql (.t 33) (.c (.int .i64 1))),
 om 1 34 36])))
  (.cond (.t 34) (.seq [13, 12, 11, 6, 5, 3] (.seq [38, 13, 12, 11, 6, 5, 3] (.region [om 0 37 7,
 oa 1 38 (.bin .geq (.t 37) (.c (.int .i64 0)))])
  (.cond (.t 38) (.seq [2] (.region [oa 0 2 (.mv (.c (.bool false)))])
  .ret) .skip))
  (.seq [41, 13, 12, 11, 6, 3] (.region [oa 0 39 (.fieldA 0 (.t 5)),
 oa 1 40 (.loadB 0 none (.t 39)),
 oa 2 41 (.bin .eql (.t 40) (.c (.int .i64 1)))])
  (.cond (.t 41) (.region [om 0 42 3,
 ob 1 43 (.loadB 1 (some 2) (.t 6)),
 ⟨2, some 44, .a false (.litSlice 2 1 [(.int .i64 0), (.int .i64 0)] [(0, 2, (.t 43))]) (some (.cons (.int .i64) (.one (.int .i64)))), none, []⟩,
 ⟨3, some 45, .aw [(0, 2)] false (.app 2 (.t 42) (.t 44)) none, none, []⟩,
 ⟨4, some 3, .aw [(0, 2)] false (.mv (.t 45)) none, none, []⟩]) .skip))) (.seq [46, 13, 12, 11, 7, 3] (.region [oa 0 47 (.bin .eql (.t 33) (.c (.int .i64 2))),
 om 1 46 47])
  (.cond (.t 46) (.seq [13, 12, 11, 7, 3] (.seq [49, 13, 12, 11, 7, 3] (.region [om 0 48 7,
 oa 1 49 (.bin .lss (.t 48) (.c (.int .i64 0)))])
  (.cond (.t 49) (.seq [2] (.region [oa 0 2 (.mv (.c (.bool false)))])
  .ret) .skip))
  (.region [on 0 50 3,
 om 1 51 7,
 xA 2 52 (.slice 2 (.t 50) none (some (.t 51))) (rg 2),
 on 3 53 3,
 om 4 54 7,
 xA 5 55 (.bin .add (.t 54) (.c (.int .i64 1))) [4],
 xA 6 56 (.slice 2 (.t 53) (some (.t 55)) none) [3, 4, 5],
 ⟨7, some 57, .aw [(0, 2)] false (.app 2 (.t 52) (.t 56)) none, none, [0, 1, 2, 3, 4, 5, 6]⟩,
 ⟨8, some 3, .aw [(0, 2)] false (.mv (.t 57)) none, none, [0, 1, 2, 3, 4, 5, 6, 7]⟩])) (.seq [2] (.region [oa 0 2 (.mv (.c (.bool false)))])
  .ret))))))))))))
  (.region [oa 0 58 (.bin .add (.t 13) (.c (.int .i64 1))),
 om 1 13 58])))))))
  (.seq [2] (.region [on 0 59 3,
 oa 1 60 (.len (.t 59)),
 oa 2 61 (.bin .eql (.t 60) (.c (.int .i64 0))),
 om 3 2 61])
  .ret)))))
noncomputable def df_impl_IsMacro : DFun := ⟨1, 62, 2, true, [.tmp 2], dc_impl_IsMacro⟩
noncomputable def pf_impl_IsMacro : PFun := df_impl_IsMacro.er
noncomputable def f_impl_IsMacro : AFun := pf_impl_IsMacro.er
@[irreducible] noncomputable def s_impl_IsMacro : CallSem := funSem f_impl_IsMacro
@[irreducible] noncomputable def p_impl_IsMacro : PSem := pfunSem pf_impl_IsMacro
theorem sp_impl_IsMacro : SoundP s_impl_IsMacro p_impl_IsMacro := by unfold s_impl_IsMacro p_impl_IsMacro; exact pfun_sound (f := pf_impl_IsMacro) ⟨sp_impl_pairAt, sp_impl_IsAction, trivial⟩
def h_impl_IsMacro : List HT := [.one .frz (.sl (.cons (.int .i64) (.cons (.int .i64) (.one (.int .i64)))))]
def q_impl_IsMacro : QT := .one (.one .own (.bool))
@[irreducible] noncomputable def v_impl_IsMacro (x : List (Int × Int × Int)) : Bool := (shut fun x => fnV df_impl_IsMacro h_impl_IsMacro q_impl_IsMacro x).1 x
@[irreducible] noncomputable def ok_impl_IsMacro (x : List (Int × Int × Int)) : Prop := (shut fun x => fnOk df_impl_IsMacro h_impl_IsMacro q_impl_IsMacro x).1 x
theorem vu_impl_IsMacro (x : List (Int × Int × Int)) : v_impl_IsMacro x = fnV df_impl_IsMacro h_impl_IsMacro q_impl_IsMacro x := by unfold v_impl_IsMacro; exact congrFun (shut _).2 x
theorem ou_impl_IsMacro (x : List (Int × Int × Int)) : ok_impl_IsMacro x = fnOk df_impl_IsMacro h_impl_IsMacro q_impl_IsMacro x := by unfold ok_impl_IsMacro; exact congrFun (shut _).2 x
noncomputable def D_impl_IsMacro : DSem := DSemOf h_impl_IsMacro q_impl_IsMacro ok_impl_IsMacro v_impl_IsMacro
theorem ck_impl_IsMacro (x : List (Int × Int × Int)) : fnChk df_impl_IsMacro h_impl_IsMacro q_impl_IsMacro x = true := by kernel_rfl
theorem ob_impl_IsMacro : AllD df_impl_IsMacro.body.obs := ⟨sd_impl_pairAt, sd_impl_IsAction, trivial⟩
theorem st_impl_IsMacro : fnSt df_impl_IsMacro h_impl_IsMacro q_impl_IsMacro = true := by kernel_rfl
theorem sd_impl_IsMacro : SoundD p_impl_IsMacro D_impl_IsMacro := by unfold p_impl_IsMacro; exact soundD_of (f := df_impl_IsMacro) (hs := h_impl_IsMacro) (q := q_impl_IsMacro) ob_impl_IsMacro st_impl_IsMacro ck_impl_IsMacro (fun x h => Eq.mp (ou_impl_IsMacro x) h) (fun x => (vu_impl_IsMacro x).symm)
end
section
set_option maxRecDepth 100000
theorem ve_spec_l8Find (x : (List (Int × Int × Int × Int × Int)) × (Int × Int × Int)) : v_spec_l8Find x = (bSel (iLt (loopV (fun (x0 : Int) => (bAnd (iLt x0 (lLen x.1)) (bNot (bAnd (iEq (lGet x.1 (iNat x0) (0, 0, 0, 0, 0)).2.2.1 x.2.2.1) (iEq (lGet x.1 (iNat x0) (0, 0, 0, 0, 0)).2.2.2.1 x.2.2.2))))) (fun (x0 : Int) => (iAdd Go.IntKind.i64 x0 1)) 0) (lLen x.1)) (loopV (fun (x0 : Int) => (bAnd (iLt x0 (lLen x.1)) (bNot (bAnd (iEq (lGet x.1 (iNat x0) (0, 0, 0, 0, 0)).2.2.1 x.2.2.1) (iEq (lGet x.1 (iNat x0) (0, 0, 0, 0, 0)).2.2.2.1 x.2.2.2))))) (fun (x0 : Int) => (iAdd Go.IntKind.i64 x0 1)) 0) (-1)) := (vu_spec_l8Find x).trans (by kernel_rfl)
theorem oe_spec_l8Find (x : (List (Int × Int × Int × Int × Int)) × (Int × Int × Int)) : ok_spec_l8Find x = (LoopOk (fun (x0 : Int) => (bAnd (iLt x0 (lLen x.1)) (bNot (bAnd (iEq (lGet x.1 (iNat x0) (0, 0, 0, 0, 0)).2.2.1 x.2.2.1) (iEq (lGet x.1 (iNat x0) (0, 0, 0, 0, 0)).2.2.2.1 x.2.2.2))))) (fun (x0 : Int) => (iAdd Go.IntKind.i64 x0 1)) (fun (x0 : Int) => (((iLt x0 (lLen x.1)) = true → ((((0 : Int) ≤ x0) ∧ (x0 < (((List.length x.1) : Int)))) ∧ (((iNat x0) < (List.length x.1)) ∧ (((iEq (lGet x.1 (iNat x0) (0, 0, 0, 0, 0)).2.2.1 x.2.2.1) = true → ((((0 : Int) ≤ x0) ∧ (x0 < (((List.length x.1) : Int)))) ∧ ((iNat x0) < (List.length x.1)))) ∧ ((iEq (lGet x.1 (iNat x0) (0, 0, 0, 0, 0)).2.2.1 x.2.2.1) = false → True))))) ∧ ((iLt x0 (lLen x.1)) = false → True))) 0) := (ou_spec_l8Find x).trans (by kernel_rfl)
theorem ve_spec_l8Action (x : Int × Int × Int) : v_spec_l8Action x = (2, x.2.1, x.2.2, 0) := (vu_spec_l8Action x).trans (by kernel_rfl)
theorem oe_spec_l8Action (x : Int × Int × Int) : ok_spec_l8Action x = True := (ou_spec_l8Action x).trans (by kernel_rfl)
theorem ve_spec_l8Without (x : (List (Int × Int × Int × Int × Int)) × Int) : v_spec_l8Without x = (lApp (lApp [] (lSub x.1 0 (iNat x.2))) (lSub x.1 (iNat (iAdd Go.IntKind.i64 x.2 1)) (lN x.1))) := (vu_spec_l8Without x).trans (by kernel_rfl)
theorem oe_spec_l8Without (x : (List (Int × Int × Int × Int × Int)) × Int) : ok_spec_l8Without x = ((((0 : Int) ≤ x.2) ∧ ((0 ≤ (iNat x.2)) ∧ (((iNat x.2) ≤ (List.length x.1)) ∧ (0 < (List.length x.1))))) ∧ ((((0 : Int) ≤ (iAdd Go.IntKind.i64 x.2 1)) ∧ (((iNat (iAdd Go.IntKind.i64 x.2 1)) ≤ (lN x.1)) ∧ (((lN x.1) ≤ (List.length x.1)) ∧ (0 < (List.length x.1))))) ∧ ((roomy (((List.length ([] : List (Int × (Int × (Int × (Int × Int)))))) + (List.length (lSub x.1 0 (iNat x.2)))) * 5)) ∧ (roomy (((List.length (lApp [] (lSub x.1 0 (iNat x.2)))) + (List.length (lSub x.1 (iNat (iAdd Go.IntKind.i64 x.2 1)) (lN x.1)))) * 5))))) := (ou_spec_l8Without x).trans (by kernel_rfl)
theorem ve_spec_IsMacro (x : List (Int × Int × Int)) : v_spec_IsMacro x = (bAnd (bNot (iLt (loopV (fun (x0 : ((List (Int × (Int × (Int × (Int × Int))))) × Int)) => (bAnd (iLt x0.2 (lLen x)) (bNot (bOr (bNot (v_spec_l1In ((lGet x (iNat x0.2) (0, 0, 0)).1, 0, 2))) (bOr (bNot (v_spec_IsAction ((v_spec_l8Action ((lGet x (iNat x0.2) (0, 0, 0)).1, (lGet x (iNat x0.2) (0, 0, 0)).2.1, (lGet x (iNat x0.2) (0, 0, 0)).2.2)).1, (v_spec_l8Action ((lGet x (iNat x0.2) (0, 0, 0)).1, (lGet x (iNat x0.2) (0, 0, 0)).2.1, (lGet x (iNat x0.2) (0, 0, 0)).2.2)).2.1, (v_spec_l8Action ((lGet x (iNat x0.2) (0, 0, 0)).1, (lGet x (iNat x0.2) (0, 0, 0)).2.1, (lGet x (iNat x0.2) (0, 0, 0)).2.2)).2.2.1, (v_spec_l8Action ((lGet x (iNat x0.2) (0, 0, 0)).1, (lGet x (iNat x0.2) (0, 0, 0)).2.1, (lGet x (iNat x0.2) (0, 0, 0)).2.2)).2.2.2))) (bNot (bIff (iEq (lGet x (iNat x0.2) (0, 0, 0)).1 2) (iGe (v_spec_l8Find (x0.1, (lGet x (iNat x0.2) (0, 0, 0)).1, (lGet x (iNat x0.2) (0, 0, 0)).2.1, (lGet x (iNat x0.2) (0, 0, 0)).2.2)) 0)))))))) (fun (x0 : ((List (Int × (Int × (Int × (Int × Int))))) × Int)) => ((bSel (iEq (lGet x (iNat x0.2) (0, 0, 0)).1 1) (lApp x0.1 [(0, (v_spec_l8Action ((lGet x (iNat x0.2) (0, 0, 0)).1, (lGet x (iNat x0.2) (0, 0, 0)).2.1, (lGet x (iNat x0.2) (0, 0, 0)).2.2)).1, (v_spec_l8Action ((lGet x (iNat x0.2) (0, 0, 0)).1, (lGet x (iNat x0.2) (0, 0, 0)).2.1, (lGet x (iNat x0.2) (0, 0, 0)).2.2)).2.1, (v_spec_l8Action ((lGet x (iNat x0.2) (0, 0, 0)).1, (lGet x (iNat x0.2) (0, 0, 0)).2.1, (lGet x (iNat x0.2) (0, 0, 0)).2.2)).2.2.1, (v_spec_l8Action ((lGet x (iNat x0.2) (0, 0, 0)).1, (lGet x (iNat x0.2) (0, 0, 0)).2.1, (lGet x (iNat x0.2) (0, 0, 0)).2.2)).2.2.2)]) (bSel (iEq (lGet x (iNat x0.2) (0, 0, 0)).1 2) (v_spec_l8Without (x0.1, (v_spec_l8Find (x0.1, (lGet x (iNat x0.2) (0, 0, 0)).1, (lGet x (iNat x0.2) (0, 0, 0)).2.1, (lGet x (iNat x0.2) (0, 0, 0)).2.2)))) x0.1)), (iAdd Go.IntKind.i64 x0.2 1))) ([], 0)).2 (lLen x))) (bAnd (iLe (lLen x) 8) (iEq (lLen (loopV (fun (x0 : ((List (Int × (Int × (Int × (Int × Int))))) × Int)) => (bAnd (iLt x0.2 (lLen x)) (bNot (bOr (bNot (v_spec_l1In ((lGet x (iNat x0.2) (0, 0, 0)).1, 0, 2))) (bOr (bNot (v_spec_IsAction ((v_spec_l8Action ((lGet x (iNat x0.2) (0, 0, 0)).1, (lGet x (iNat x0.2) (0, 0, 0)).2.1, (lGet x (iNat x0.2) (0, 0, 0)).2.2)).1, (v_spec_l8Action ((lGet x (iNat x0.2) (0, 0, 0)).1, (lGet x (iNat x0.2) (0, 0, 0)).2.1, (lGet x (iNat x0.2) (0, 0, 0)).2.2)).2.1, (v_spec_l8Action ((lGet x (iNat x0.2) (0, 0, 0)).1, (lGet x (iNat x0.2) (0, 0, 0)).2.1, (lGet x (iNat x0.2) (0, 0, 0)).2.2)).2.2.1, (v_spec_l8Action ((lGet x (iNat x0.2) (0, 0, 0)).1, (lGet x (iNat x0.2) (0, 0, 0)).2.1, (lGet x (iNat x0.2) (0, 0, 0)).2.2)).2.2.2))) (bNot (bIff (iEq (lGet x (iNat x0.2) (0, 0, 0)).1 2) (iGe (v_spec_l8Find (x0.1, (lGet x (iNat x0.2) (0, 0, 0)).1, (lGet x (iNat x0.2) (0, 0, 0)).2.1, (lGet x (iNat x0.2) (0, 0, 0)).2.2)) 0)))))))) (fun (x0 : ((List (Int × (Int × (Int × (Int × Int))))) × Int)) => ((bSel (iEq (lGet x (iNat x0.2) (0, 0, 0)).1 1) (lApp x0.1 [(0, (v_spec_l8Action ((lGet x (iNat x0.2) (0, 0, 0)).1, (lGet x (iNat x0.2) (0, 0, 0)).2.1, (lGet x (iNat x0.2) (0, 0, 0)).2.2)).1, (v_spec_l8Action ((lGet x (iNat x0.2) (0, 0, 0)).1, (lGet x (iNat x0.2) (0, 0, 0)).2.1, (lGet x (iNat x0.2) (0, 0, 0)).2.2)).2.1, (v_spec_l8Action ((lGet x (iNat x0.2) (0, 0, 0)).1, (lGet x (iNat x0.2) (0, 0, 0)).2.1, (lGet x (iNat x0.2) (0, 0, 0)).2.2)).2.2.1, (v_spec_l8Action ((lGet x (iNat x0.2) (0, 0, 0)).1, (lGet x (iNat x0.2) (0, 0, 0)).2.1, (lGet x (iNat x0.2) (0, 0, 0)).2.2)).2.2.2)]) (bSel (iEq (lGet x (iNat x0.2) (0, 0, 0)).1 2) (v_spec_l8Without (x0.1, (v_spec_l8Find (x0.1, (lGet x (iNat x0.2) (0, 0, 0)).1, (lGet x (iNat x0.2) (0, 0, 0)).2.1, (lGet x (iNat x0.2) (0, 0, 0)).2.2)))) x0.1)), (iAdd Go.IntKind.i64 x0.2 1))) ([], 0)).1) 0))) := (vu_spec_IsMacro x).trans (by kernel_rfl)
theorem oe_spec_IsMacro (x : List (Int × Int × Int)) : ok_spec_IsMacro x = (LoopOk (fun (x0 : ((List (Int × (Int × (Int × (Int × Int))))) × Int)) => (bAnd (iLt x0.2 (lLen x)) (bNot (bOr (bNot (v_spec_l1In ((lGet x (iNat x0.2) (0, 0, 0)).1, 0, 2))) (bOr (bNot (v_spec_IsAction ((v_spec_l8Action ((lGet x (iNat x0.2) (0, 0, 0)).1, (lGet x (iNat x0.2) (0, 0, 0)).2.1, (lGet x (iNat x0.2) (0, 0, 0)).2.2)).1, (v_spec_l8Action ((lGet x (iNat x0.2) (0, 0, 0)).1, (lGet x (iNat x0.2) (0, 0, 0)).2.1, (lGet x (iNat x0.2) (0, 0, 0)).2.2)).2.1, (v_spec_l8Action ((lGet x (iNat x0.2) (0, 0, 0)).1, (lGet x (iNat x0.2) (0, 0, 0)).2.1, (lGet x (iNat x0.2) (0, 0, 0)).2.2)).2.2.1, (v_spec_l8Action ((lGet x (iNat x0.2) (0, 0, 0)).1, (lGet x (iNat x0.2) (0, 0, 0)).2.1, (lGet x (iNat x0.2) (0, 0, 0)).2.2)).2.2.2))) (bNot (bIff (iEq (lGet x (iNat x0.2) (0, 0, 0)).1 2) (iGe (v_spec_l8Find (x0.1, (lGet x (iNat x0.2) (0, 0, 0)).1, (lGet x (iNat x0.2) (0, 0, 0)).2.1, (lGet x (iNat x0.2) (0, 0, 0)).2.2)) 0)))))))) (fun (x0 : ((List (Int × (Int × (Int × (Int × Int))))) × Int)) => ((bSel (iEq (lGet x (iNat x0.2) (0, 0, 0)).1 1) (lApp x0.1 [(0, (v_spec_l8Action ((lGet x (iNat x0.2) (0, 0, 0)).1, (lGet x (iNat x0.2) (0, 0, 0)).2.1, (lGet x (iNat x0.2) (0, 0, 0)).2.2)).1, (v_spec_l8Action ((lGet x (iNat x0.2) (0, 0, 0)).1, (lGet x (iNat x0.2) (0, 0, 0)).2.1, (lGet x (iNat x0.2) (0, 0, 0)).2.2)).2.1, (v_spec_l8Action ((lGet x (iNat x0.2) (0, 0, 0)).1, (lGet x (iNat x0.2) (0, 0, 0)).2.1, (lGet x (iNat x0.2) (0, 0, 0)).2.2)).2.2.1, (v_spec_l8Action ((lGet x (iNat x0.2) (0, 0, 0)).1, (lGet x (iNat x0.2) (0, 0, 0)).2.1, (lGet x (iNat x0.2) (0, 0, 0)).2.2)).2.2.2)]) (bSel (iEq (lGet x (iNat x0.2) (0, 0, 0)).1 2) (v_spec_l8Without (x0.1, (v_spec_l8Find (x0.1, (lGet x (iNat x0.2) (0, 0, 0)).1, (lGet x (iNat x0.2) (0, 0, 0)).2.1, (lGet x (iNat x0.2) (0, 0, 0)).2.2)))) x0.1)), (iAdd Go.IntKind.i64 x0.2 1))) (fun (x0 : ((List (Int × (Int × (Int × (Int × Int))))) × Int)) => (((iLt x0.2 (lLen x)) = true → ((((0 : Int) ≤ x0.2) ∧ (x0.2 < (((List.length x) : Int)))) ∧ (((iNat x0.2) < (List.length x)) ∧ ((ok_spec_l8Find (x0.1, (lGet x (iNat x0.2) (0, 0, 0)).1, (lGet x (iNat x0.2) (0, 0, 0)).2.1, (lGet x (iNat x0.2) (0, 0, 0)).2.2)) ∧ (((ok_spec_l1In ((lGet x (iNat x0.2) (0, 0, 0)).1, 0, 2)) ∧ (((bNot (v_spec_l1In ((lGet x (iNat x0.2) (0, 0, 0)).1, 0, 2))) = true → True) ∧ ((bNot (v_spec_l1In ((lGet x (iNat x0.2) (0, 0, 0)).1, 0, 2))) = false → ((ok_spec_l8Action ((lGet x (iNat x0.2) (0, 0, 0)).1, (lGet x (iNat x0.2) (0, 0, 0)).2.1, (lGet x (iNat x0.2) (0, 0, 0)).2.2)) ∧ (ok_spec_IsAction ((v_spec_l8Action ((lGet x (iNat x0.2) (0, 0, 0)).1, (lGet x (iNat x0.2) (0, 0, 0)).2.1, (lGet x (iNat x0.2) (0, 0, 0)).2.2)).1, (v_spec_l8Action ((lGet x (iNat x0.2) (0, 0, 0)).1, (lGet x (iNat x0.2) (0, 0, 0)).2.1, (lGet x (iNat x0.2) (0, 0, 0)).2.2)).2.1, (v_spec_l8Action ((lGet x (iNat x0.2) (0, 0, 0)).1, (lGet x (iNat x0.2) (0, 0, 0)).2.1, (lGet x (iNat x0.2) (0, 0, 0)).2.2)).2.2.1, (v_spec_l8Action ((lGet x (iNat x0.2) (0, 0, 0)).1, (lGet x (iNat x0.2) (0, 0, 0)).2.1, (lGet x (iNat x0.2) (0, 0, 0)).2.2)).2.2.2)))))) ∧ (((bOr (bNot (v_spec_l1In ((lGet x (iNat x0.2) (0, 0, 0)).1, 0, 2))) (bOr (bNot (v_spec_IsAction ((v_spec_l8Action ((lGet x (iNat x0.2) (0, 0, 0)).1, (lGet x (iNat x0.2) (0, 0, 0)).2.1, (lGet x (iNat x0.2) (0, 0, 0)).2.2)).1, (v_spec_l8Action ((lGet x (iNat x0.2) (0, 0, 0)).1, (lGet x (iNat x0.2) (0, 0, 0)).2.1, (lGet x (iNat x0.2) (0, 0, 0)).2.2)).2.1, (v_spec_l8Action ((lGet x (iNat x0.2) (0, 0, 0)).1, (lGet x (iNat x0.2) (0, 0, 0)).2.1, (lGet x (iNat x0.2) (0, 0, 0)).2.2)).2.2.1, (v_spec_l8Action ((lGet x (iNat x0.2) (0, 0, 0)).1, (lGet x (iNat x0.2) (0, 0, 0)).2.1, (lGet x (iNat x0.2) (0, 0, 0)).2.2)).2.2.2))) (bNot (bIff (iEq (lGet x (iNat x0.2) (0, 0, 0)).1 2) (iGe (v_spec_l8Find (x0.1, (lGet x (iNat x0.2) (0, 0, 0)).1, (lGet x (iNat x0.2) (0, 0, 0)).2.1, (lGet x (iNat x0.2) (0, 0, 0)).2.2)) 0))))) = true → True) ∧ ((bOr (bNot (v_spec_l1In ((lGet x (iNat x0.2) (0, 0, 0)).1, 0, 2))) (bOr (bNot (v_spec_IsAction ((v_spec_l8Action ((lGet x (iNat x0.2) (0, 0, 0)).1, (lGet x (iNat x0.2) (0, 0, 0)).2.1, (lGet x (iNat x0.2) (0, 0, 0)).2.2)).1, (v_spec_l8Action ((lGet x (iNat x0.2) (0, 0, 0)).1, (lGet x (iNat x0.2) (0, 0, 0)).2.1, (lGet x (iNat x0.2) (0, 0, 0)).2.2)).2.1, (v_spec_l8Action ((lGet x (iNat x0.2) (0, 0, 0)).1, (lGet x (iNat x0.2) (0, 0, 0)).2.1, (lGet x (iNat x0.2) (0, 0, 0)).2.2)).2.2.1, (v_spec_l8Action ((lGet x (iNat x0.2) (0, 0, 0)).1, (lGet x (iNat x0.2) (0, 0, 0)).2.1, (lGet x (iNat x0.2) (0, 0, 0)).2.2)).2.2.2))) (bNot (bIff (iEq (lGet x (iNat x0.2) (0, 0, 0)).1 2) (iGe (v_spec_l8Find (x0.1, (lGet x (iNat x0.2) (0, 0, 0)).1, (lGet x (iNat x0.2) (0, 0, 0)).2.1, (lGet x (iNat x0.2) (0, 0, 0)).2.2)) 0))))) = false → (((iEq (lGet x (iNat x0.2) (0, 0, 0)).1 1) = true → ((ok_spec_l8Action ((lGet x (iNat x0.2) (0, 0, 0)).1, (lGet x (iNat x0.2) (0, 0, 0)).2.1, (lGet x (iNat x0.2) (0, 0, 0)).2.2)) ∧ (roomy (((List.length x0.1) + (List.length [(0, (v_spec_l8Action ((lGet x (iNat x0.2) (0, 0, 0)).1, (lGet x (iNat x0.2) (0, 0, 0)).2.1, (lGet x (iNat x0.2) (0, 0, 0)).2.2)).1, (v_spec_l8Action ((lGet x (iNat x0.2) (0, 0, 0)).1, (lGet x (iNat x0.2) (0, 0, 0)).2.1, (lGet x (iNat x0.2) (0, 0, 0)).2.2)).2.1, (v_spec_l8Action ((lGet x (iNat x0.2) (0, 0, 0)).1, (lGet x (iNat x0.2) (0, 0, 0)).2.1, (lGet x (iNat x0.2) (0, 0, 0)).2.2)).2.2.1, (v_spec_l8Action ((lGet x (iNat x0.2) (0, 0, 0)).1, (lGet x (iNat x0.2) (0, 0, 0)).2.1, (lGet x (iNat x0.2) (0, 0, 0)).2.2)).2.2.2)])) * 5)))) ∧ ((iEq (lGet x (iNat x0.2) (0, 0, 0)).1 1) = false → (((iEq (lGet x (iNat x0.2) (0, 0, 0)).1 2) = true → (ok_spec_l8Without (x0.1, (v_spec_l8Find (x0.1, (lGet x (iNat x0.2) (0, 0, 0)).1, (lGet x (iNat x0.2) (0, 0, 0)).2.1, (lGet x (iNat x0.2) (0, 0, 0)).2.2))))) ∧ ((iEq (lGet x (iNat x0.2) (0, 0, 0)).1 2) = false → True))))))))))) ∧ ((iLt x0.2 (lLen x)) = false → True))) ([], 0)) := (ou_spec_IsMacro x).trans (by kernel_rfl)
theorem ve_impl_pairAt (x : (List (Int × Int)) × (Int × Int)) : v_impl_pairAt x = (bSel (iLt (loopV (fun (x0 : Int) => (bAnd (iLt x0 (lLen x.1)) (bNot (bAnd (iEq (lGet x.1 (iNat x0) (0, 0)).1 x.2.1) (iEq (lGet x.1 (iNat x0) (0, 0)).2 x.2.2))))) (fun (x0 : Int) => (iAdd Go.IntKind.i64 x0 1)) 0) (lLen x.1)) (loopV (fun (x0 : Int) => (bAnd (iLt x0 (lLen x.1)) (bNot (bAnd (iEq (lGet x.1 (iNat x0) (0, 0)).1 x.2.1) (iEq (lGet x.1 (iNat x0) (0, 0)).2 x.2.2))))) (fun (x0 : Int) => (iAdd Go.IntKind.i64 x0 1)) 0) (-1)) := (vu_impl_pairAt x).trans (by kernel_rfl)
theorem oe_impl_pairAt (x : (List (Int × Int)) × (Int × Int)) : ok_impl_pairAt x = (LoopOk (fun (x0 : Int) => (bAnd (iLt x0 (lLen x.1)) (bNot (bAnd (iEq (lGet x.1 (iNat x0) (0, 0)).1 x.2.1) (iEq (lGet x.1 (iNat x0) (0, 0)).2 x.2.2))))) (fun (x0 : Int) => (iAdd Go.IntKind.i64 x0 1)) (fun (x0 : Int) => (((iLt x0 (lLen x.1)) = true → ((((0 : Int) ≤ x0) ∧ (x0 < (((List.length x.1) : Int)))) ∧ ((iNat x0) < (List.length x.1)))) ∧ ((iLt x0 (lLen x.1)) = false → True))) 0) := (ou_impl_pairAt x).trans (by kernel_rfl)
theorem ve_impl_IsMacro (x : List (Int × Int × Int)) : v_impl_IsMacro x = (bAnd (bNot (iGt (lLen x) 8)) (bAnd (bNot (iLt (loopV (fun (x0 : ((List (Int × Int)) × Int)) => (bAnd (iLt x0.2 (lLen x)) (bAnd (bNot (bNot (v_impl_IsAction (2, (lGet x (iNat x0.2) (0, 0, 0)).2.1, (lGet x (iNat x0.2) (0, 0, 0)).2.2, 0)))) (bSel (bOr (iEq (lGet x (iNat x0.2) (0, 0, 0)).1 0) (iEq (lGet x (iNat x0.2) (0, 0, 0)).1 1)) (bNot (iGe (v_impl_pairAt (x0.1, (lGet x (iNat x0.2) (0, 0, 0)).2.1, (lGet x (iNat x0.2) (0, 0, 0)).2.2)) 0)) (bAnd (iEq (lGet x (iNat x0.2) (0, 0, 0)).1 2) (bNot (iLt (v_impl_pairAt (x0.1, (lGet x (iNat x0.2) (0, 0, 0)).2.1, (lGet x (iNat x0.2) (0, 0, 0)).2.2)) 0))))))) (fun (x0 : ((List (Int × Int)) × Int)) => ((bSel (bOr (iEq (lGet x (iNat x0.2) (0, 0, 0)).1 0) (iEq (lGet x (iNat x0.2) (0, 0, 0)).1 1)) (bSel (iEq (lGet x (iNat x0.2) (0, 0, 0)).1 1) (lApp x0.1 [((lGet x (iNat x0.2) (0, 0, 0)).2.1, (lGet x (iNat x0.2) (0, 0, 0)).2.2)]) x0.1) (lApp (lTake x0.1 (lN (lSub x0.1 0 (iNat (v_impl_pairAt (x0.1, (lGet x (iNat x0.2) (0, 0, 0)).2.1, (lGet x (iNat x0.2) (0, 0, 0)).2.2)))))) (lSub x0.1 (iNat (iAdd Go.IntKind.i64 (v_impl_pairAt (x0.1, (lGet x (iNat x0.2) (0, 0, 0)).2.1, (lGet x (iNat x0.2) (0, 0, 0)).2.2)) 1)) (lN x0.1)))), (iAdd Go.IntKind.i64 x0.2 1))) ([], 0)).2 (lLen x))) (iEq (lLen (loopV (fun (x0 : ((List (Int × Int)) × Int)) => (bAnd (iLt x0.2 (lLen x)) (bAnd (bNot (bNot (v_impl_IsAction (2, (lGet x (iNat x0.2) (0, 0, 0)).2.1, (lGet x (iNat x0.2) (0, 0, 0)).2.2, 0)))) (bSel (bOr (iEq (lGet x (iNat x0.2) (0, 0, 0)).1 0) (iEq (lGet x (iNat x0.2) (0, 0, 0)).1 1)) (bNot (iGe (v_impl_pairAt (x0.1, (lGet x (iNat x0.2) (0, 0, 0)).2.1, (lGet x (iNat x0.2) (0, 0, 0)).2.2)) 0)) (bAnd (iEq (lGet x (iNat x0.2) (0, 0, 0)).1 2) (bNot (iLt (v_impl_pairAt (x0.1, (lGet x (iNat x0.2) (0, 0, 0)).2.1, (lGet x (iNat x0.2) (0, 0, 0)).2.2)) 0))))))) (fun (x0 : ((List (Int × Int)) × Int)) => ((bSel (bOr (iEq (lGet x (iNat x0.2) (0, 0, 0)).1 0) (iEq (lGet x (iNat x0.2) (0, 0, 0)).1 1)) (bSel (iEq (lGet x (iNat x0.2) (0, 0, 0)).1 1) (lApp x0.1 [((lGet x (iNat x0.2) (0, 0, 0)).2.1, (lGet x (iNat x0.2) (0, 0, 0)).2.2)]) x0.1) (lApp (lTake x0.1 (lN (lSub x0.1 0 (iNat (v_impl_pairAt (x0.1, (lGet x (iNat x0.2) (0, 0, 0)).2.1, (lGet x (iNat x0.2) (0, 0, 0)).2.2)))))) (lSub x0.1 (iNat (iAdd Go.IntKind.i64 (v_impl_pairAt (x0.1, (lGet x (iNat x0.2) (0, 0, 0)).2.1, (lGet x (iNat x0.2) (0, 0, 0)).2.2)) 1)) (lN x0.1)))), (iAdd Go.IntKind.i64 x0.2 1))) ([], 0)).1) 0))) := (vu_impl_IsMacro x).trans (by kernel_rfl)
theorem oe_impl_IsMacro (x : List (Int × Int × Int)) : ok_impl_IsMacro x = (((iGt (lLen x) 8) = true → True) ∧ ((iGt (lLen x) 8) = false → (LoopOk (fun (x0 : ((List (Int × Int)) × Int)) => (bAnd (iLt x0.2 (lLen x)) (bAnd (bNot (bNot (v_impl_IsAction (2, (lGet x (iNat x0.2) (0, 0, 0)).2.1, (lGet x (iNat x0.2) (0, 0, 0)).2.2, 0)))) (bSel (bOr (iEq (lGet x (iNat x0.2) (0, 0, 0)).1 0) (iEq (lGet x (iNat x0.2) (0, 0, 0)).1 1)) (bNot (iGe (v_impl_pairAt (x0.1, (lGet x (iNat x0.2) (0, 0, 0)).2.1, (lGet x (iNat x0.2) (0, 0, 0)).2.2)) 0)) (bAnd (iEq (lGet x (iNat x0.2) (0, 0, 0)).1 2) (bNot (iLt (v_impl_pairAt (x0.1, (lGet x (iNat x0.2) (0, 0, 0)).2.1, (lGet x (iNat x0.2) (0, 0, 0)).2.2)) 0))))))) (fun (x0 : ((List (Int × Int)) × Int)) => ((bSel (bOr (iEq (lGet x (iNat x0.2) (0, 0, 0)).1 0) (iEq (lGet x (iNat x0.2) (0, 0, 0)).1 1)) (bSel (iEq (lGet x (iNat x0.2) (0, 0, 0)).1 1) (lApp x0.1 [((lGet x (iNat x0.2) (0, 0, 0)).2.1, (lGet x (iNat x0.2) (0, 0, 0)).2.2)]) x0.1) (lApp (lTake x0.1 (lN (lSub x0.1 0 (iNat (v_impl_pairAt (x0.1, (lGet x (iNat x0.2) (0, 0, 0)).2.1, (lGet x (iNat x0.2) (0, 0, 0)).2.2)))))) (lSub x0.1 (iNat (iAdd Go.IntKind.i64 (v_impl_pairAt (x0.1, (lGet x (iNat x0.2) (0, 0, 0)).2.1, (lGet x (iNat x0.2) (0, 0, 0)).2.2)) 1)) (lN x0.1)))), (iAdd Go.IntKind.i64 x0.2 1))) (fun (x0 : ((List (Int × Int)) × Int)) => (((iLt x0.2 (lLen x)) = true → ((((0 : Int) ≤ x0.2) ∧ (x0.2 < (((List.length x) : Int)))) ∧ (((iNat x0.2) < (List.length x)) ∧ ((ok_impl_pairAt (x0.1, (lGet x (iNat x0.2) (0, 0, 0)).2.1, (lGet x (iNat x0.2) (0, 0, 0)).2.2)) ∧ ((ok_impl_IsAction (2, (lGet x (iNat x0.2) (0, 0, 0)).2.1, (lGet x (iNat x0.2) (0, 0, 0)).2.2, 0)) ∧ (((bNot (v_impl_IsAction (2, (lGet x (iNat x0.2) (0, 0, 0)).2.1, (lGet x (iNat x0.2) (0, 0, 0)).2.2, 0))) = true → True) ∧ ((bNot (v_impl_IsAction (2, (lGet x (iNat x0.2) (0, 0, 0)).2.1, (lGet x (iNat x0.2) (0, 0, 0)).2.2, 0))) = false → (((bOr (iEq (lGet x (iNat x0.2) (0, 0, 0)).1 0) (iEq (lGet x (iNat x0.2) (0, 0, 0)).1 1)) = true → (((iGe (v_impl_pairAt (x0.1, (lGet x (iNat x0.2) (0, 0, 0)).2.1, (lGet x (iNat x0.2) (0, 0, 0)).2.2)) 0) = true → True) ∧ ((iGe (v_impl_pairAt (x0.1, (lGet x (iNat x0.2) (0, 0, 0)).2.1, (lGet x (iNat x0.2) (0, 0, 0)).2.2)) 0) = false → (((iEq (lGet x (iNat x0.2) (0, 0, 0)).1 1) = true → (roomy (((List.length x0.1) + (List.length [((lGet x (iNat x0.2) (0, 0, 0)).2.1, (lGet x (iNat x0.2) (0, 0, 0)).2.2)])) * 2))) ∧ ((iEq (lGet x (iNat x0.2) (0, 0, 0)).1 1) = false → True))))) ∧ ((bOr (iEq (lGet x (iNat x0.2) (0, 0, 0)).1 0) (iEq (lGet x (iNat x0.2) (0, 0, 0)).1 1)) = false → (((iEq (lGet x (iNat x0.2) (0, 0, 0)).1 2) = true → (((iLt (v_impl_pairAt (x0.1, (lGet x (iNat x0.2) (0, 0, 0)).2.1, (lGet x (iNat x0.2) (0, 0, 0)).2.2)) 0) = true → True) ∧ ((iLt (v_impl_pairAt (x0.1, (lGet x (iNat x0.2) (0, 0, 0)).2.1, (lGet x (iNat x0.2) (0, 0, 0)).2.2)) 0) = false → ((((0 : Int) ≤ (v_impl_pairAt (x0.1, (lGet x (iNat x0.2) (0, 0, 0)).2.1, (lGet x (iNat x0.2) (0, 0, 0)).2.2))) ∧ ((0 ≤ (iNat (v_impl_pairAt (x0.1, (lGet x (iNat x0.2) (0, 0, 0)).2.1, (lGet x (iNat x0.2) (0, 0, 0)).2.2)))) ∧ (((iNat (v_impl_pairAt (x0.1, (lGet x (iNat x0.2) (0, 0, 0)).2.1, (lGet x (iNat x0.2) (0, 0, 0)).2.2))) ≤ (List.length x0.1)) ∧ (0 < (List.length x0.1))))) ∧ ((((0 : Int) ≤ (iAdd Go.IntKind.i64 (v_impl_pairAt (x0.1, (lGet x (iNat x0.2) (0, 0, 0)).2.1, (lGet x (iNat x0.2) (0, 0, 0)).2.2)) 1)) ∧ (((iNat (iAdd Go.IntKind.i64 (v_impl_pairAt (x0.1, (lGet x (iNat x0.2) (0, 0, 0)).2.1, (lGet x (iNat x0.2) (0, 0, 0)).2.2)) 1)) ≤ (lN x0.1)) ∧ (((lN x0.1) ≤ (List.length x0.1)) ∧ (0 < (List.length x0.1))))) ∧ ((0 < (List.length x0.1)) ∧ (((List.length (lSub x0.1 0 (iNat (v_impl_pairAt (x0.1, (lGet x (iNat x0.2) (0, 0, 0)).2.1, (lGet x (iNat x0.2) (0, 0, 0)).2.2))))) ≤ (List.length x0.1)) ∧ (roomy (((List.length (lSub x0.1 0 (iNat (v_impl_pairAt (x0.1, (lGet x (iNat x0.2) (0, 0, 0)).2.1, (lGet x (iNat x0.2) (0, 0, 0)).2.2))))) + (List.length (lSub x0.1 (iNat (iAdd Go.IntKind.i64 (v_impl_pairAt (x0.1, (lGet x (iNat x0.2) (0, 0, 0)).2.1, (lGet x (iNat x0.2) (0, 0, 0)).2.2)) 1)) (lN x0.1)))) * 2))))))))) ∧ ((iEq (lGet x (iNat x0.2) (0, 0, 0)).1 2) = false → True))))))))))) ∧ ((iLt x0.2 (lLen x)) = false → True))) ([], 0)))) := (ou_impl_IsMacro x).trans (by kernel_rfl)
end
def pi5 (h : Int × Int × Int × Int × Int) : Int × Int := (h.2.2.1, h.2.2.2.1)
theorem getD_map5 (dn : List (Int × Int × Int × Int × Int)) (i : Nat) : (dn.map pi5).getD i (0, 0) = pi5 (dn.getD i (0, 0, 0, 0, 0)) := by
  rw [List.getD_eq_getElem?_getD, List.getD_eq_getElem?_getD, List.getElem?_map]; cases dn[i]? <;> rfl
theorem cnt_nn {c : Int → Bool} {f : Int → Int} (n : Int) (h0 : 0 ≤ n) (hn : n ≤ 9223372036854775806) (hc : ∀ st : Int, c st = true → st < n) (hf : ∀ st, f st = iAdd .i64 st 1) : 0 ≤ loopV c f 0 :=
  (loop_inv_v (fun st => 0 ≤ st ∧ st ≤ n) (fun st => (n - st).toNat) (fun st hI h => by
    have := hc st h
    rw [hf, iAdd_i64 (by constructor <;> omega)]
    exact ⟨by omega, by omega⟩) ⟨by omega, h0⟩).1.1
theorem find_eq (dn : List (Int × Int × Int × Int × Int)) (k c m : Int) : v_spec_l8Find (dn, k, c, m) = v_impl_pairAt (dn.map pi5, c, m) := by
  rw [ve_spec_l8Find, ve_impl_pairAt]
  simp only [lGet_eq, getD_map5, lLen_eq, List.length_map, pi5]
theorem pair_rng (dm : List (Int × Int)) (q : Int × Int) (h : dm.length ≤ 1048576) : v_impl_pairAt (dm, q) = -1 ∨ (0 ≤ v_impl_pairAt (dm, q) ∧ v_impl_pairAt (dm, q) < dm.length) := by
  rw [ve_impl_pairAt, bSel_eq, iLt_eq, lLen_eq]
  split
  · rename_i hlt
    rw [decide_eq_true_eq] at hlt
    refine .inr ⟨cnt_nn dm.length (by omega) (by omega) (fun st hc => ?_) (fun _ => rfl), hlt⟩
    rw [bAnd_eq, iLt_eq, Bool.and_eq_true, decide_eq_true_eq] at hc
    exact hc.1
  · exact .inl rfl
theorem ok_find (dn : List (Int × Int × Int × Int × Int)) (q : Int × Int × Int) (h : dn.length ≤ 1048576) : ok_spec_l8Find (dn, q) := by
  rw [oe_spec_l8Find]
  refine cnt_ok (fun st => st) dn.length (by omega) (fun st _ _ h => ?_) (fun _ => rfl) (fun st h0 h1 => ⟨fun hlt => ?_, fun _ => trivial⟩) (by simp) (by simp)
  · rw [bAnd_eq, iLt_eq, lLen_eq, Bool.and_eq_true, decide_eq_true_eq] at h; exact h.1
  · rw [iLt_eq, lLen_eq, decide_eq_true_eq] at hlt
    have a : (0 : Int) ≤ st ∧ st < (dn.length : Int) := ⟨h0, hlt⟩
    have b : iNat st < dn.length := by rw [iNat_eq]; omega
    exact ⟨a, b, fun _ => ⟨a, b⟩, fun _ => trivial⟩
theorem ok_pair (dm : List (Int × Int)) (q : Int × Int) (h : dm.length ≤ 1048576) : ok_impl_pairAt (dm, q) := by
  rw [oe_impl_pairAt]
  refine cnt_ok (fun st => st) dm.length (by omega) (fun st _ _ h => ?_) (fun _ => rfl) (fun st h0 h1 => ⟨fun hlt => ?_, fun _ => trivial⟩) (by simp) (by simp)
  · rw [bAnd_eq, iLt_eq, lLen_eq, Bool.and_eq_true, decide_eq_true_eq] at h; exact h.1
  · rw [iLt_eq, lLen_eq, decide_eq_true_eq] at hlt
    exact ⟨⟨h0, hlt⟩, by rw [iNat_eq]; omega⟩
theorem without_map (dn : List (Int × Int × Int × Int × Int)) (p : Int) (h0 : 0 ≤ p) (h1 : p < dn.length) :
    (v_spec_l8Without (dn, p)).map pi5 = lApp (lTake (dn.map pi5) (lN (lSub (dn.map pi5) 0 (iNat p)))) (lSub (dn.map pi5) (iNat (iAdd .i64 p 1)) (lN (dn.map pi5))) := by
  have hm : min p.toNat dn.length = p.toNat := by omega
  rw [ve_spec_l8Without]
  simp only [lApp_eq, lTake_eq, lN_eq, lSub_eq, iNat_eq, List.drop_zero, Nat.sub_zero, List.length_take, List.map_append, List.map_take, List.map_drop, List.length_map, List.nil_append, hm]
theorem without_len (dn : List (Int × Int × Int × Int × Int)) (p : Int) (h0 : 0 ≤ p) (h1 : p < dn.length) (h : dn.length ≤ 1048576) : (v_spec_l8Without (dn, p)).length ≤ dn.length := by
  rw [ve_spec_l8Without]
  simp only [lApp_eq, lN_eq, lSub_eq, iNat_eq, List.drop_zero, Nat.sub_zero, List.length_take, List.length_drop, List.length_append, List.nil_append]
  rw [iAdd_i64 (by constructor <;> omega)]
  omega
theorem mac_cond (K p : Int) (A : Bool) : bNot (bOr (bNot (v_spec_l1In (K, 0, 2))) (bOr (bNot A) (bNot (bIff (iEq K 2) (iGe p 0))))) =
    bAnd (bNot (bNot A)) (bSel (bOr (iEq K 0) (iEq K 1)) (bNot (iGe p 0)) (bAnd (iEq K 2) (bNot (iLt p 0)))) := by
  have hp : decide (p < 0) = !decide (0 ≤ p) := by simp only [← decide_not, Int.not_le]
  rw [ve_spec_l1In]
  simp only [bAnd_eq, bNot_eq, bOr_eq, bIff_eq, bSel_eq, iEq_eq, iGe_eq, iLe_eq, iLt_eq, hp]
  generalize decide (0 ≤ p) = P
  have h : K = 0 ∨ K = 1 ∨ K = 2 ∨ (¬ (0 ≤ K ∧ K ≤ 2)) := by omega
  rcases h with h | h | h | h
  · subst h; cases A <;> cases P <;> decide
  · subst h; cases A <;> cases P <;> decide
  · subst h; cases A <;> cases P <;> decide
  · have e0 : K ≠ 0 := by omega
    have e1 : K ≠ 1 := by omega
    have e2 : K ≠ 2 := by omega
    have e3 : (decide (0 ≤ K) && decide (K ≤ 2)) = false := by rw [← Bool.decide_and]; exact decide_eq_false h
    simp only [e3, e0, e1, e2, decide_false]
    cases A <;> rfl
theorem mac_join {l : List (Int × Int × Int)} {cs : List (Int × Int × Int × Int × Int) × Int → Bool} {fs} {ci : List (Int × Int) × Int → Bool} {fi}
    (h : ∀ (dn : List (Int × Int × Int × Int × Int)) (i : Int), 0 ≤ i → i ≤ l.length → dn.length ≤ i → cs (dn, i) = ci (dn.map pi5, i) ∧ (cs (dn, i) = true → i < l.length ∧ ∃ dn' : List (Int × Int × Int × Int × Int), fs (dn, i) = (dn', i + 1) ∧ fi (dn.map pi5, i) = (dn'.map pi5, i + 1) ∧ dn'.length ≤ i + 1)) :
    bAnd (bNot (iLt (loopV cs fs ([], 0)).2 (lLen l))) (bAnd (iLe (lLen l) 8) (iEq (lLen (loopV cs fs ([], 0)).1) 0)) =
    bAnd (bNot (iGt (lLen l) 8)) (bAnd (bNot (iLt (loopV ci fi ([], 0)).2 (lLen l))) (iEq (lLen (loopV ci fi ([], 0)).1) 0)) := by
  have go : ∀ (n : Nat) (dn : List (Int × Int × Int × Int × Int)) (i : Int), 0 ≤ i → i ≤ l.length → dn.length ≤ i → (l.length - i).toNat < n →
      ∃ (en : List (Int × Int × Int × Int × Int)) (j : Int), LoopTo cs fs (fun _ => True) (dn, i) (en, j) ∧ LoopTo ci fi (fun _ => True) (dn.map pi5, i) (en.map pi5, j) := by
    intro n
    induction n with
    | zero => intro _ _ _ _ _ hm; exact absurd hm (Nat.not_lt_zero _)
    | succ n ih =>
      intro dn i h0 h1 h2 hm
      obtain ⟨a, b⟩ := h dn i h0 h1 h2
      cases hc : cs (dn, i) with
      | false => exact ⟨dn, i, .stop trivial hc, .stop trivial (by rw [← a, hc])⟩
      | true =>
        obtain ⟨c1, dn', c2, c3, c4⟩ := b hc
        obtain ⟨en, j, d1, d2⟩ := ih dn' (i + 1) (by omega) (by omega) c4 (by omega)
        exact ⟨en, j, .go trivial hc (by rw [c2]; exact d1), .go trivial (by rw [← a, hc]) (by rw [c3]; exact d2)⟩
  obtain ⟨en, j, d1, d2⟩ := go _ [] 0 (by omega) (by omega) (by simp) (Nat.lt_succ_self _)
  have d2 : LoopTo ci fi (fun _ => True) ([], 0) (en.map pi5, j) := d2
  rw [d1.val, d2.val]
  simp only [bAnd_eq, bNot_eq, iLe_eq, iGt_eq, lLen_eq, List.length_map, ← decide_not, Int.not_lt]
  exact Bool.and_left_comm ..
theorem macroStep (dn : List (Int × Int × Int × Int × Int)) (K c m p i : Int) (t : Bool) (n : Int) (hp : p = -1 ∨ (0 ≤ p ∧ p < dn.length)) (hd : dn.length ≤ i) (hi : i < n) (hn : n ≤ 1048576)
    (hc : bSel (bOr (iEq K 0) (iEq K 1)) (bNot (iGe p 0)) (bAnd (iEq K 2) (bNot (iLt p 0))) = true) :
    bSel (bOr (iEq K 0) (iEq K 1)) (bSel (iEq K 1) (lApp (dn.map pi5) [(c, m)]) (dn.map pi5)) (lApp (lTake (dn.map pi5) (lN (lSub (dn.map pi5) 0 (iNat p)))) (lSub (dn.map pi5) (iNat (iAdd .i64 p 1)) (lN (dn.map pi5)))) =
      (bSel (iEq K 1) (lApp dn [(0, 2, c, m, 0)]) (bSel (iEq K 2) (v_spec_l8Without (dn, p)) dn)).map pi5 ∧
    ((bSel (iEq K 1) (lApp dn [(0, 2, c, m, 0)]) (bSel (iEq K 2) (v_spec_l8Without (dn, p)) dn)).length : Int) ≤ i + 1 := by
  simp only [bSel_eq, bOr_eq, bAnd_eq, bNot_eq, iEq_eq, iGe_eq, iLt_eq, Bool.or_eq_true, decide_eq_true_eq] at hc ⊢
  by_cases k1 : K = 1
  · subst k1
    simp [lApp_eq, pi5]; omega
  · by_cases k0 : K = 0
    · subst k0
      simp; omega
    · simp only [k0, k1, or_self, if_false, Bool.and_eq_true, decide_eq_true_eq, Bool.not_eq_true', decide_eq_false_iff_not] at hc ⊢
      have h0 : 0 ≤ p := by omega
      have h1 : p < dn.length := by omega
      rw [if_pos hc.1]
      refine ⟨(without_map dn p h0 h1).symm, ?_⟩
      have := without_len dn p h0 h1 (by omega)
      omega
theorem isMacro_eq (x : List (Int × Int × Int)) (h : x.length ≤ 1048576) : v_spec_IsMacro x = v_impl_IsMacro x := by
  rw [ve_spec_IsMacro, ve_impl_IsMacro]
  refine mac_join (fun dn i h0 h1 h2 => ?_)
  have hr := pair_rng (dn.map pi5) ((lGet x (iNat i) (0, 0, 0)).2.1, (lGet x (iNat i) (0, 0, 0)).2.2) (by rw [List.length_map]; omega)
  rw [List.length_map] at hr
  simp only [find_eq, isAction_eq, ve_spec_l8Action, mac_cond]
  generalize v_impl_pairAt (dn.map pi5, (lGet x (iNat i) (0, 0, 0)).2.1, (lGet x (iNat i) (0, 0, 0)).2.2) = p at hr ⊢
  refine ⟨trivial, fun hc => ?_⟩
  rw [bAnd_eq, bAnd_eq, iLt_eq, lLen_eq, Bool.and_eq_true, Bool.and_eq_true, decide_eq_true_eq] at hc
  obtain ⟨hc1, hc2, hc3⟩ := hc
  obtain ⟨s1, s2⟩ := macroStep dn (lGet x (iNat i) (0, 0, 0)).1 (lGet x (iNat i) (0, 0, 0)).2.1 (lGet x (iNat i) (0, 0, 0)).2.2 p i true x.length hr h2 hc1 (by omega) hc3
  rw [iAdd_i64 (a := i) (b := 1) (by constructor <;> omega)]
  exact ⟨hc1, _, rfl, by rw [s1], s2⟩
theorem roomy_nat {k w : Nat} (h : k ≤ 1048577) (hw : w ≤ 1000) : roomy (k * w) := by
  unfold roomy; exact Nat.le_trans (Nat.mul_le_mul h hw) (by decide)
theorem ok_without (dn : List (Int × Int × Int × Int × Int)) (p : Int) (h0 : 0 ≤ p) (h1 : p < dn.length) (h : dn.length ≤ 1048576) : ok_spec_l8Without (dn, p) := by
  rw [oe_spec_l8Without, iAdd_i64 (a := p) (b := 1) (by constructor <;> omega)]
  simp only [iNat_eq, lN_eq, lApp_eq, lSub_eq, List.drop_zero, Nat.sub_zero, List.length_take, List.length_drop, List.length_append, List.length_nil, List.nil_append]
  refine ⟨⟨h0, by omega, by omega, by omega⟩, ⟨by omega, by omega, by omega, by omega⟩, roomy_nat (by omega) (by omega), roomy_nat (by omega) (by omega)⟩
theorem ok_specIsMacro (x : List (Int × Int × Int)) (h : x.length ≤ 1048576) : ok_spec_IsMacro x := by
  rw [oe_spec_IsMacro]
  refine (loop_inv (fun st : List (Int × Int × Int × Int × Int) × Int => 0 ≤ st.2 ∧ st.2 ≤ (x.length : Int) ∧ (st.1.length : Int) ≤ st.2) (fun st => ((x.length : Int) - st.2).toNat) (fun st hI => ?_) ⟨by simp, by simp, by simp⟩).1
  obtain ⟨dn, i⟩ := st
  obtain ⟨i0, i1, i2⟩ := hI
  simp only at i0 i1 i2
  have hr := pair_rng (dn.map pi5) ((lGet x (iNat i) (0, 0, 0)).2.1, (lGet x (iNat i) (0, 0, 0)).2.2) (by rw [List.length_map]; omega)
  rw [List.length_map] at hr
  have hf := ok_find dn ((lGet x (iNat i) (0, 0, 0)).1, (lGet x (iNat i) (0, 0, 0)).2.1, (lGet x (iNat i) (0, 0, 0)).2.2) (by omega)
  simp only [find_eq, isAction_eq, ve_spec_l8Action, mac_cond, ok_spec_IsAction_t, oe_spec_l8Action, oe_spec_l1In]
  generalize v_impl_pairAt (dn.map pi5, (lGet x (iNat i) (0, 0, 0)).2.1, (lGet x (iNat i) (0, 0, 0)).2.2) = p at hr ⊢
  refine ⟨⟨fun hlt => ?_, fun _ => trivial⟩, fun hc => ?_⟩
  · rw [iLt_eq, lLen_eq, decide_eq_true_eq] at hlt
    refine ⟨⟨i0, hlt⟩, by rw [iNat_eq]; omega, hf, ⟨trivial, fun _ => trivial, fun _ => ⟨trivial, trivial⟩⟩, fun _ => trivial, fun hc => ⟨fun _ => ⟨trivial, roomy_nat (by simp only [List.length_cons, List.length_nil]; omega) (by omega)⟩, fun k1 => ⟨fun k2 => ?_, fun _ => trivial⟩⟩⟩
    have hc := congrArg bNot hc
    rw [mac_cond] at hc
    simp only [bSel_eq, bOr_eq, bAnd_eq, bNot_eq, iEq_eq, iGe_eq, iLt_eq, decide_eq_true_eq] at hc k1 k2
    simp [k2] at hc
    exact ok_without dn p (by omega) (by omega) (by omega)
  · rw [bAnd_eq, bAnd_eq, iLt_eq, lLen_eq, Bool.and_eq_true, Bool.and_eq_true, decide_eq_true_eq] at hc
    obtain ⟨hc1, hc2, hc3⟩ := hc
    obtain ⟨s1, s2⟩ := macroStep dn (lGet x (iNat i) (0, 0, 0)).1 (lGet x (iNat i) (0, 0, 0)).2.1 (lGet x (iNat i) (0, 0, 0)).2.2 p i true x.length hr i2 hc1 (by omega) hc3
    rw [iAdd_i64 (a := i) (b := 1) (by constructor <;> omega)]
    exact ⟨⟨by show 0 ≤ i + 1; omega, by show i + 1 ≤ _; omega, s2⟩, by show (_ - (i + 1)).toNat < _; omega⟩
theorem ok_implIsMacro (x : List (Int × Int × Int)) (h : x.length ≤ 1048576) : ok_impl_IsMacro x := by
  rw [oe_impl_IsMacro]
  refine ⟨fun _ => trivial, fun _ => ?_⟩
  refine (loop_inv (fun st : List (Int × Int) × Int => 0 ≤ st.2 ∧ st.2 ≤ (x.length : Int) ∧ ∃ dn : List (Int × Int × Int × Int × Int), st.1 = dn.map pi5 ∧ (dn.length : Int) ≤ st.2) (fun st => ((x.length : Int) - st.2).toNat) (fun st hI => ?_) ⟨by simp, by simp, [], rfl, by simp⟩).1
  obtain ⟨dm, i⟩ := st
  obtain ⟨i0, i1, dn, rfl, i2⟩ := hI
  simp only at i0 i1 i2
  have hr := pair_rng (dn.map pi5) ((lGet x (iNat i) (0, 0, 0)).2.1, (lGet x (iNat i) (0, 0, 0)).2.2) (by rw [List.length_map]; omega)
  have hf := ok_pair (dn.map pi5) ((lGet x (iNat i) (0, 0, 0)).2.1, (lGet x (iNat i) (0, 0, 0)).2.2) (by rw [List.length_map]; omega)
  rw [List.length_map] at hr
  simp only [ok_impl_IsAction_t]
  generalize v_impl_pairAt (dn.map pi5, (lGet x (iNat i) (0, 0, 0)).2.1, (lGet x (iNat i) (0, 0, 0)).2.2) = p at hr ⊢
  refine ⟨⟨fun hlt => ?_, fun _ => trivial⟩, fun hc => ?_⟩
  · rw [iLt_eq, lLen_eq, decide_eq_true_eq] at hlt
    refine ⟨⟨i0, hlt⟩, by rw [iNat_eq]; omega, hf, trivial, fun _ => trivial, fun _ => ⟨fun _ => ⟨fun _ => trivial, fun _ => ⟨fun _ => roomy_nat (by simp only [List.length_map, List.length_cons, List.length_nil]; omega) (by omega), fun _ => trivial⟩⟩, fun _ => ⟨fun _ => ⟨fun _ => trivial, fun hp => ?_⟩, fun _ => trivial⟩⟩⟩
    rw [iLt_eq, decide_eq_false_iff_not] at hp
    have h0 : 0 ≤ p := by omega
    have h1 : p < dn.length := by omega
    rw [iAdd_i64 (a := p) (b := 1) (by constructor <;> omega)]
    simp only [iNat_eq, lN_eq, lSub_eq, List.drop_zero, Nat.sub_zero, List.length_take, List.length_drop, List.length_map]
    exact ⟨⟨h0, by omega, by omega, by omega⟩, ⟨by omega, by omega, by omega, by omega⟩, by omega, by omega, roomy_nat (by omega) (by omega)⟩
  · rw [bAnd_eq, bAnd_eq, iLt_eq, lLen_eq, Bool.and_eq_true, Bool.and_eq_true, decide_eq_true_eq] at hc
    obtain ⟨hc1, hc2, hc3⟩ := hc
    obtain ⟨s1, s2⟩ := macroStep dn (lGet x (iNat i) (0, 0, 0)).1 (lGet x (iNat i) (0, 0, 0)).2.1 (lGet x (iNat i) (0, 0, 0)).2.2 p i true x.length hr i2 hc1 (by omega) hc3
    rw [iAdd_i64 (a := i) (b := 1) (by constructor <;> omega)]
    exact ⟨⟨by show 0 ≤ i + 1; omega, by show i + 1 ≤ _; omega, _, s1, s2⟩, by show (_ - (i + 1)).toNat < _; omega⟩
end Go.Ag
