/- Part 6 of what FnHeldReports needs. No conditions. -/
import Derived.KernelRfl
import Derived.Test.YtkjnachjeoeihaaLibE
namespace Go.Ag
set_option linter.unusedSimpArgs false
set_option linter.unusedVariables false
section
set_option maxRecDepth 8000
noncomputable def dc_spec_l1In : DCode :=
  (.seq [2, 1, 0] (.region [oa 0 6 (.mv (.c (.bool false)))])
  (.seq [6] (.region [om 0 7 0,
 om 1 8 1,
 oa 2 9 (.bin .geq (.t 7) (.t 8)),
 om 3 10 9,
 og 4 11 (.mv (.t 0)) 10 true,
 og 5 12 (.mv (.t 2)) 10 true,
 og 6 13 (.bin .leq (.t 11) (.t 12)) 10 true,
 oa 7 14 (.pick (.t 10) (.t 13) (.c (.bool false))),
 om 8 6 14])
  .ret))
noncomputable def df_spec_l1In : DFun := ⟨3, 15, 0, true, [.tmp 6], dc_spec_l1In⟩
noncomputable def pf_spec_l1In : PFun := df_spec_l1In.er
noncomputable def f_spec_l1In : AFun := pf_spec_l1In.er
@[irreducible] noncomputable def s_spec_l1In : CallSem := funSem f_spec_l1In
@[irreducible] noncomputable def p_spec_l1In : PSem := pfunSem pf_spec_l1In
theorem sp_spec_l1In : SoundP s_spec_l1In p_spec_l1In := by unfold s_spec_l1In p_spec_l1In; exact pfun_sound (f := pf_spec_l1In) trivial
def h_spec_l1In : List HT := [.one .frz (.int .i64), .one .frz (.int .i64), .one .frz (.int .i64)]
def q_spec_l1In : QT := .one (.one .own (.bool))
@[irreducible] noncomputable def v_spec_l1In (x : Int × Int × Int) : Bool := (shut fun x => fnV df_spec_l1In h_spec_l1In q_spec_l1In x).1 x
@[irreducible] noncomputable def ok_spec_l1In (x : Int × Int × Int) : Prop := (shut fun x => fnOk df_spec_l1In h_spec_l1In q_spec_l1In x).1 x
theorem vu_spec_l1In (x : Int × Int × Int) : v_spec_l1In x = fnV df_spec_l1In h_spec_l1In q_spec_l1In x := by unfold v_spec_l1In; exact congrFun (shut _).2 x
theorem ou_spec_l1In (x : Int × Int × Int) : ok_spec_l1In x = fnOk df_spec_l1In h_spec_l1In q_spec_l1In x := by unfold ok_spec_l1In; exact congrFun (shut _).2 x
noncomputable def D_spec_l1In : DSem := DSemOf h_spec_l1In q_spec_l1In ok_spec_l1In v_spec_l1In
theorem ck_spec_l1In (x : Int × Int × Int) : fnChk df_spec_l1In h_spec_l1In q_spec_l1In x = true := by kernel_rfl
theorem ob_spec_l1In : AllD df_spec_l1In.body.obs := trivial
theorem st_spec_l1In : fnSt df_spec_l1In h_spec_l1In q_spec_l1In = true := by kernel_rfl
theorem sd_spec_l1In : SoundD p_spec_l1In D_spec_l1In := by unfold p_spec_l1In; exact soundD_of (f := df_spec_l1In) (hs := h_spec_l1In) (q := q_spec_l1In) ob_spec_l1In st_spec_l1In ck_spec_l1In (fun x h => Eq.mp (ou_spec_l1In x) h) (fun x => (vu_spec_l1In x).symm)
noncomputable def dc_spec_IsAction : DCode :=
  (.seq [1] (.region [oa 0 1 (.boxB 0 4 (.t 0)),
 oa 1 2 (.mv (.c (.bool false)))])
  (.seq [3, 1] (.region [oa 0 6 (.fieldA 1 (.t 1)),
 oa 1 7 (.loadB 0 none (.t 6)),
 oc 2 8 s_spec_l1In p_spec_l1In D_spec_l1In [(.t 7), (.c (.int .i64 1)), (.c (.int .i64 56))],
 om 3 3 8])
  (.seq [4, 3, 1] (.region [oa 0 9 (.fieldA 2 (.t 1)),
 oa 1 10 (.loadB 0 none (.t 9)),
 oc 2 11 s_spec_l1In p_spec_l1In D_spec_l1In [(.t 10), (.c (.int .i64 1)), (.c (.int .i64 15))],
 om 3 4 11])
  (.seq [5, 4, 3, 1] (.region [oa 0 12 (.fieldA 3 (.t 1)),
 oa 1 13 (.loadB 0 none (.t 12)),
 oc 2 14 s_spec_l1In p_spec_l1In D_spec_l1In [(.t 13), (.c (.int .i64 1)), (.c (.int .i64 3))],
 om 3 5 14])
  (.seq [] (.seq [16, 5, 4, 3, 1] (.region [oa 0 15 (.fieldA 0 (.t 1)),
 oa 1 16 (.loadB 0 none (.t 15))])
  (.block 0 (.seq [17, 16, 5, 4, 3, 1] (.seq [17, 16, 5, 4, 3, 1] (.region [oa 0 18 (.bin .eql (.t 16) (.c (.int .i64 0))),
 om 1 17 18])
  (.cond (.t 17) .skip (.seq [17, 16, 5, 4, 3, 1] (.region [oa 0 19 (.bin .eql (.t 16) (.c (.int .i64 1))),
 om 1 17 19])
  (.cond (.t 17) .skip (.region [oa 0 20 (.bin .eql (.t 16) (.c (.int .i64 10))),
 om 1 17 20])))))
  (.cond (.t 17) (.seq [2] (.region [oa 0 21 (.fieldA 1 (.t 1)),
 oa 1 22 (.loadB 0 none (.t 21)),
 oa 2 23 (.bin .eql (.t 22) (.c (.int .i64 0))),
 om 3 24 23,
 og 4 25 (.fieldA 2 (.t 1)) 24 true,
 og 5 26 (.loadB 0 none (.t 25)) 24 true,
 og 6 27 (.bin .eql (.t 26) (.c (.int .i64 0))) 24 true,
 oa 7 28 (.pick (.t 24) (.t 27) (.c (.bool false))),
 om 8 29 28,
 og 9 30 (.fieldA 3 (.t 1)) 29 true,
 og 10 31 (.loadB 0 none (.t 30)) 29 true,
 og 11 32 (.bin .eql (.t 31) (.c (.int .i64 0))) 29 true,
 oa 12 33 (.pick (.t 29) (.t 32) (.c (.bool false))),
 om 13 2 33])
  .ret) (.seq [34, 16, 5, 4, 3, 1] (.region [oa 0 35 (.bin .eql (.t 16) (.c (.int .i64 2))),
 om 1 34 35])
  (.cond (.t 34) (.seq [2] (.region [oa 0 36 (.fieldA 3 (.t 1)),
 oa 1 37 (.loadB 0 none (.t 36)),
 oa 2 38 (.bin .eql (.t 37) (.c (.int .i64 0))),
 om 3 39 38,
 og 4 40 (.mv (.t 3)) 39 true,
 og 5 41 (.mv (.t 40)) 39 true,
 og 6 42 (.fieldA 1 (.t 1)) 41 false,
 og 7 43 (.loadB 0 none (.t 42)) 41 false,
 og 8 44 (.bin .eql (.t 43) (.c (.int .i64 0))) 41 false,
 og 9 45 (.mv (.t 44)) 41 false,
 og 10 46 (.mv (.t 4)) 45 true,
 og 11 47 (.pick (.t 45) (.t 46) (.c (.bool false))) 41 false,
 og 12 48 (.pick (.t 41) (.c (.bool true)) (.t 47)) 39 true,
 oa 13 49 (.pick (.t 39) (.t 48) (.c (.bool false))),
 om 14 50 49,
 og 15 51 (.mv (.t 4)) 50 true,
 og 16 52 (.mv (.t 51)) 50 true,
 og 17 53 (.fieldA 2 (.t 1)) 52 false,
 og 18 54 (.loadB 0 none (.t 53)) 52 false,
 og 19 55 (.bin .eql (.t 54) (.c (.int .i64 0))) 52 false,
 og 20 56 (.pick (.t 52) (.c (.bool true)) (.t 55)) 50 true,
 oa 21 57 (.pick (.t 50) (.t 56) (.c (.bool false))),
 om 22 2 57])
  .ret) (.seq [58, 16, 5, 4, 3, 1] (.seq [58, 16, 5, 4, 3, 1] (.region [oa 0 59 (.bin .eql (.t 16) (.c (.int .i64 3))),
 om 1 58 59])
  (.cond (.t 58) .skip (.region [oa 0 60 (.bin .eql (.t 16) (.c (.int .i64 4))),
 om 1 58 60])))
  (.cond (.t 58) (.seq [2] (.region [om 0 61 5,
 om 1 62 61,
 og 2 63 (.fieldA 1 (.t 1)) 62 true,
 og 3 64 (.loadB 0 none (.t 63)) 62 true,
 og 4 65 (.bin .eql (.t 64) (.c (.int .i64 0))) 62 true,
 oa 5 66 (.pick (.t 62) (.t 65) (.c (.bool false))),
 om 6 67 66,
 og 7 68 (.fieldA 2 (.t 1)) 67 true,
 og 8 69 (.loadB 0 none (.t 68)) 67 true,
 og 9 70 (.bin .eql (.t 69) (.c (.int .i64 0))) 67 true,
 oa 10 71 (.pick (.t 67) (.t 70) (.c (.bool false))),
 om 11 2 71])
  .ret) (.seq [72, 16, 5, 4, 3, 1] (.seq [72, 16, 5, 4, 3, 1] (.region [oa 0 73 (.bin .eql (.t 16) (.c (.int .i64 5))),
 om 1 72 73])
  (.cond (.t 72) .skip (.region [oa 0 74 (.bin .eql (.t 16) (.c (.int .i64 9))),
 om 1 72 74])))
  (.cond (.t 72) (.seq [2] (.region [oa 0 75 (.fieldA 3 (.t 1)),
 oa 1 76 (.loadB 0 none (.t 75)),
 oc 2 77 s_spec_l1In p_spec_l1In D_spec_l1In [(.t 76), (.c (.int .i64 0)), (.c (.int .i64 3))],
 om 3 78 77,
 og 4 79 (.fieldA 1 (.t 1)) 78 true,
 og 5 80 (.loadB 0 none (.t 79)) 78 true,
 og 6 81 (.bin .eql (.t 80) (.c (.int .i64 0))) 78 true,
 oa 7 82 (.pick (.t 78) (.t 81) (.c (.bool false))),
 om 8 83 82,
 og 9 84 (.fieldA 2 (.t 1)) 83 true,
 og 10 85 (.loadB 0 none (.t 84)) 83 true,
 og 11 86 (.bin .eql (.t 85) (.c (.int .i64 0))) 83 true,
 oa 12 87 (.pick (.t 83) (.t 86) (.c (.bool false))),
 om 13 2 87])
  .ret) (.seq [88, 16, 5, 4, 3, 1] (.region [oa 0 89 (.bin .eql (.t 16) (.c (.int .i64 6))),
 om 1 88 89])
  (.cond (.t 88) (.seq [2] (.region [om 0 90 3,
 om 1 91 90,
 og 2 92 (.mv (.t 4)) 91 true,
 oa 3 93 (.pick (.t 91) (.t 92) (.c (.bool false))),
 om 4 94 93,
 og 5 95 (.fieldA 3 (.t 1)) 94 true,
 og 6 96 (.loadB 0 none (.t 95)) 94 true,
 og 7 97 (.bin .eql (.t 96) (.c (.int .i64 0))) 94 true,
 oa 8 98 (.pick (.t 94) (.t 97) (.c (.bool false))),
 om 9 2 98])
  .ret) (.seq [99, 16, 5, 4, 3, 1] (.region [oa 0 100 (.bin .eql (.t 16) (.c (.int .i64 7))),
 om 1 99 100])
  (.cond (.t 99) (.seq [2] (.region [om 0 101 3,
 om 1 102 101,
 og 2 103 (.mv (.t 5)) 102 true,
 oa 3 104 (.pick (.t 102) (.t 103) (.c (.bool false))),
 om 4 105 104,
 og 5 106 (.fieldA 2 (.t 1)) 105 true,
 og 6 107 (.loadB 0 none (.t 106)) 105 true,
 og 7 108 (.bin .eql (.t 107) (.c (.int .i64 0))) 105 true,
 oa 8 109 (.pick (.t 105) (.t 108) (.c (.bool false))),
 om 9 2 109])
  .ret) (.seq [110, 4, 1] (.region [oa 0 111 (.bin .eql (.t 16) (.c (.int .i64 8))),
 om 1 110 111])
  (.cond (.t 110) (.seq [2] (.region [om 0 112 4,
 om 1 113 112,
 og 2 114 (.fieldA 1 (.t 1)) 113 true,
 og 3 115 (.loadB 0 none (.t 114)) 113 true,
 og 4 116 (.bin .eql (.t 115) (.c (.int .i64 0))) 113 true,
 oa 5 117 (.pick (.t 113) (.t 116) (.c (.bool false))),
 om 6 118 117,
 og 7 119 (.fieldA 3 (.t 1)) 118 true,
 og 8 120 (.loadB 0 none (.t 119)) 118 true,
 og 9 121 (.bin .eql (.t 120) (.c (.int .i64 0))) 118 true,
 oa 10 122 (.pick (.t 118) (.t 121) (.c (.bool false))),
 om 11 2 122])
  .ret) .skip))))))))))))))))
  (.seq [2] (.region [oa 0 2 (.mv (.c (.bool false)))])
  .ret))))))
noncomputable def df_spec_IsAction : DFun := ⟨1, 123, 1, true, [.tmp 2], dc_spec_IsAction⟩
noncomputable def pf_spec_IsAction : PFun := df_spec_IsAction.er
noncomputable def f_spec_IsAction : AFun := pf_spec_IsAction.er
@[irreducible] noncomputable def s_spec_IsAction : CallSem := funSem f_spec_IsAction
@[irreducible] noncomputable def p_spec_IsAction : PSem := pfunSem pf_spec_IsAction
theorem sp_spec_IsAction : SoundP s_spec_IsAction p_spec_IsAction := by unfold s_spec_IsAction p_spec_IsAction; exact pfun_sound (f := pf_spec_IsAction) ⟨sp_spec_l1In, sp_spec_l1In, sp_spec_l1In, sp_spec_l1In, trivial⟩
def h_spec_IsAction : List HT := [.agg [(.frz, .int .i64), (.frz, .int .i64), (.frz, .int .i64), (.frz, .int .i64)]]
def q_spec_IsAction : QT := .one (.one .own (.bool))
@[irreducible] noncomputable def v_spec_IsAction (x : Int × Int × Int × Int) : Bool := (shut fun x => fnV df_spec_IsAction h_spec_IsAction q_spec_IsAction x).1 x
@[irreducible] noncomputable def ok_spec_IsAction (x : Int × Int × Int × Int) : Prop := (shut fun x => fnOk df_spec_IsAction h_spec_IsAction q_spec_IsAction x).1 x
theorem vu_spec_IsAction (x : Int × Int × Int × Int) : v_spec_IsAction x = fnV df_spec_IsAction h_spec_IsAction q_spec_IsAction x := by unfold v_spec_IsAction; exact congrFun (shut _).2 x
theorem ou_spec_IsAction (x : Int × Int × Int × Int) : ok_spec_IsAction x = fnOk df_spec_IsAction h_spec_IsAction q_spec_IsAction x := by unfold ok_spec_IsAction; exact congrFun (shut _).2 x
noncomputable def D_spec_IsAction : DSem := DSemOf h_spec_IsAction q_spec_IsAction ok_spec_IsAction v_spec_IsAction
theorem ck_spec_IsAction (x : Int × Int × Int × Int) : fnChk df_spec_IsAction h_spec_IsAction q_spec_IsAction x = true := by kernel_rfl
theorem ob_spec_IsAction : AllD df_spec_IsAction.body.obs := ⟨sd_spec_l1In, sd_spec_l1In, sd_spec_l1In, sd_spec_l1In, trivial⟩
theorem st_spec_IsAction : fnSt df_spec_IsAction h_spec_IsAction q_spec_IsAction = true := by kernel_rfl
theorem sd_spec_IsAction : SoundD p_spec_IsAction D_spec_IsAction := by unfold p_spec_IsAction; exact soundD_of (f := df_spec_IsAction) (hs := h_spec_IsAction) (q := q_spec_IsAction) ob_spec_IsAction st_spec_IsAction ck_spec_IsAction (fun x h => Eq.mp (ou_spec_IsAction x) h) (fun x => (vu_spec_IsAction x).symm)
noncomputable def dc_impl_isCode : DCode :=
  (.seq [0] (.region [oa 0 2 (.mv (.c (.bool false)))])
  (.seq [2] (.region [om 0 3 0,
 oa 1 4 (.bin .geq (.t 3) (.c (.int .i64 1))),
 om 2 5 4,
 og 3 6 (.mv (.t 0)) 5 true,
 og 4 7 (.bin .leq (.t 6) (.c (.int .i64 56))) 5 true,
 oa 5 8 (.pick (.t 5) (.t 7) (.c (.bool false))),
 om 6 2 8])
  .ret))
noncomputable def df_impl_isCode : DFun := ⟨1, 9, 0, true, [.tmp 2], dc_impl_isCode⟩
noncomputable def pf_impl_isCode : PFun := df_impl_isCode.er
noncomputable def f_impl_isCode : AFun := pf_impl_isCode.er
@[irreducible] noncomputable def s_impl_isCode : CallSem := funSem f_impl_isCode
@[irreducible] noncomputable def p_impl_isCode : PSem := pfunSem pf_impl_isCode
theorem sp_impl_isCode : SoundP s_impl_isCode p_impl_isCode := by unfold s_impl_isCode p_impl_isCode; exact pfun_sound (f := pf_impl_isCode) trivial
def h_impl_isCode : List HT := [.one .frz (.int .i64)]
def q_impl_isCode : QT := .one (.one .own (.bool))
@[irreducible] noncomputable def v_impl_isCode (x : Int) : Bool := (shut fun x => fnV df_impl_isCode h_impl_isCode q_impl_isCode x).1 x
@[irreducible] noncomputable def ok_impl_isCode (x : Int) : Prop := (shut fun x => fnOk df_impl_isCode h_impl_isCode q_impl_isCode x).1 x
theorem vu_impl_isCode (x : Int) : v_impl_isCode x = fnV df_impl_isCode h_impl_isCode q_impl_isCode x := by unfold v_impl_isCode; exact congrFun (shut _).2 x
theorem ou_impl_isCode (x : Int) : ok_impl_isCode x = fnOk df_impl_isCode h_impl_isCode q_impl_isCode x := by unfold ok_impl_isCode; exact congrFun (shut _).2 x
noncomputable def D_impl_isCode : DSem := DSemOf h_impl_isCode q_impl_isCode ok_impl_isCode v_impl_isCode
theorem ck_impl_isCode (x : Int) : fnChk df_impl_isCode h_impl_isCode q_impl_isCode x = true := by kernel_rfl
theorem ob_impl_isCode : AllD df_impl_isCode.body.obs := trivial
theorem st_impl_isCode : fnSt df_impl_isCode h_impl_isCode q_impl_isCode = true := by kernel_rfl
theorem sd_impl_isCode : SoundD p_impl_isCode D_impl_isCode := by unfold p_impl_isCode; exact soundD_of (f := df_impl_isCode) (hs := h_impl_isCode) (q := q_impl_isCode) ob_impl_isCode st_impl_isCode ck_impl_isCode (fun x h => Eq.mp (ou_impl_isCode x) h) (fun x => (vu_impl_isCode x).symm)
noncomputable def dc_impl_isMods : DCode :=
  (.seq [0] (.region [oa 0 2 (.mv (.c (.bool false)))])
  (.seq [2] (.region [om 0 3 0,
 oa 1 4 (.bin .geq (.t 3) (.c (.int .i64 1))),
 om 2 5 4,
 og 3 6 (.mv (.t 0)) 5 true,
 og 4 7 (.bin .leq (.t 6) (.c (.int .i64 15))) 5 true,
 oa 5 8 (.pick (.t 5) (.t 7) (.c (.bool false))),
 om 6 2 8])
  .ret))
noncomputable def df_impl_isMods : DFun := ⟨1, 9, 0, true, [.tmp 2], dc_impl_isMods⟩
noncomputable def pf_impl_isMods : PFun := df_impl_isMods.er
noncomputable def f_impl_isMods : AFun := pf_impl_isMods.er
@[irreducible] noncomputable def s_impl_isMods : CallSem := funSem f_impl_isMods
@[irreducible] noncomputable def p_impl_isMods : PSem := pfunSem pf_impl_isMods
theorem sp_impl_isMods : SoundP s_impl_isMods p_impl_isMods := by unfold s_impl_isMods p_impl_isMods; exact pfun_sound (f := pf_impl_isMods) trivial
def h_impl_isMods : List HT := [.one .frz (.int .i64)]
def q_impl_isMods : QT := .one (.one .own (.bool))
@[irreducible] noncomputable def v_impl_isMods (x : Int) : Bool := (shut fun x => fnV df_impl_isMods h_impl_isMods q_impl_isMods x).1 x
@[irreducible] noncomputable def ok_impl_isMods (x : Int) : Prop := (shut fun x => fnOk df_impl_isMods h_impl_isMods q_impl_isMods x).1 x
theorem vu_impl_isMods (x : Int) : v_impl_isMods x = fnV df_impl_isMods h_impl_isMods q_impl_isMods x := by unfold v_impl_isMods; exact congrFun (shut _).2 x
theorem ou_impl_isMods (x : Int) : ok_impl_isMods x = fnOk df_impl_isMods h_impl_isMods q_impl_isMods x := by unfold ok_impl_isMods; exact congrFun (shut _).2 x
noncomputable def D_impl_isMods : DSem := DSemOf h_impl_isMods q_impl_isMods ok_impl_isMods v_impl_isMods
theorem ck_impl_isMods (x : Int) : fnChk df_impl_isMods h_impl_isMods q_impl_isMods x = true := by kernel_rfl
theorem ob_impl_isMods : AllD df_impl_isMods.body.obs := trivial
theorem st_impl_isMods : fnSt df_impl_isMods h_impl_isMods q_impl_isMods = true := by kernel_rfl
theorem sd_impl_isMods : SoundD p_impl_isMods D_impl_isMods := by unfold p_impl_isMods; exact soundD_of (f := df_impl_isMods) (hs := h_impl_isMods) (q := q_impl_isMods) ob_impl_isMods st_impl_isMods ck_impl_isMods (fun x h => Eq.mp (ou_impl_isMods x) h) (fun x => (vu_impl_isMods x).symm)
noncomputable def dc_impl_isUpper : DCode :=
  (.seq [0] (.region [oa 0 2 (.mv (.c (.bool false)))])
  (.seq [2] (.region [om 0 3 0,
 oa 1 4 (.bin .geq (.t 3) (.c (.int .i64 1))),
 om 2 5 4,
 og 3 6 (.mv (.t 0)) 5 true,
 og 4 7 (.bin .leq (.t 6) (.c (.int .i64 3))) 5 true,
 oa 5 8 (.pick (.t 5) (.t 7) (.c (.bool false))),
 om 6 2 8])
  .ret))
noncomputable def df_impl_isUpper : DFun := ⟨1, 9, 0, true, [.tmp 2], dc_impl_isUpper⟩
noncomputable def pf_impl_isUpper : PFun := df_impl_isUpper.er
noncomputable def f_impl_isUpper : AFun := pf_impl_isUpper.er
@[irreducible] noncomputable def s_impl_isUpper : CallSem := funSem f_impl_isUpper
@[irreducible] noncomputable def p_impl_isUpper : PSem := pfunSem pf_impl_isUpper
theorem sp_impl_isUpper : SoundP s_impl_isUpper p_impl_isUpper := by unfold s_impl_isUpper p_impl_isUpper; exact pfun_sound (f := pf_impl_isUpper) trivial
def h_impl_isUpper : List HT := [.one .frz (.int .i64)]
def q_impl_isUpper : QT := .one (.one .own (.bool))
@[irreducible] noncomputable def v_impl_isUpper (x : Int) : Bool := (shut fun x => fnV df_impl_isUpper h_impl_isUpper q_impl_isUpper x).1 x
@[irreducible] noncomputable def ok_impl_isUpper (x : Int) : Prop := (shut fun x => fnOk df_impl_isUpper h_impl_isUpper q_impl_isUpper x).1 x
theorem vu_impl_isUpper (x : Int) : v_impl_isUpper x = fnV df_impl_isUpper h_impl_isUpper q_impl_isUpper x := by unfold v_impl_isUpper; exact congrFun (shut _).2 x
theorem ou_impl_isUpper (x : Int) : ok_impl_isUpper x = fnOk df_impl_isUpper h_impl_isUpper q_impl_isUpper x := by unfold ok_impl_isUpper; exact congrFun (shut _).2 x
noncomputable def D_impl_isUpper : DSem := DSemOf h_impl_isUpper q_impl_isUpper ok_impl_isUpper v_impl_isUpper
theorem ck_impl_isUpper (x : Int) : fnChk df_impl_isUpper h_impl_isUpper q_impl_isUpper x = true := by kernel_rfl
theorem ob_impl_isUpper : AllD df_impl_isUpper.body.obs := trivial
theorem st_impl_isUpper : fnSt df_impl_isUpper h_impl_isUpper q_impl_isUpper = true := by kernel_rfl
theorem sd_impl_isUpper : SoundD p_impl_isUpper D_impl_isUpper := by unfold p_impl_isUpper; exact soundD_of (f := df_impl_isUpper) (hs := h_impl_isUpper) (q := q_impl_isUpper) ob_impl_isUpper st_impl_isUpper ck_impl_isUpper (fun x h => Eq.mp (ou_impl_isUpper x) h) (fun x => (vu_impl_isUpper x).symm)
noncomputable def dc_impl_IsAction : DCode :=
  (.seq [1] (.region [oa 0 1 (.boxB 0 4 (.t 0)),
 oa 1 2 (.mv (.c (.bool false)))])
  (.seq [] (.seq [4, 1] (.region [oa 0 3 (.fieldA 0 (.t 1)),
 oa 1 4 (.loadB 0 none (.t 3))])
  (.block 0 (.seq [5, 4, 1] (.seq [5, 4, 1] (.region [oa 0 6 (.bin .eql (.t 4) (.c (.int .i64 0))),
 om 1 5 6])
  (.cond (.t 5) .skip (.seq [5, 4, 1] (.region [oa 0 7 (.bin .eql (.t 4) (.c (.int .i64 1))),
 om 1 5 7])
  (.cond (.t 5) .skip (.region [oa 0 8 (.bin .eql (.t 4) (.c (.int .i64 10))),
 om 1 5 8])))))
  (.cond (.t 5) (.seq [2] (.region [oa 0 9 (.fieldA 1 (.t 1)),
 oa 1 10 (.loadB 0 none (.t 9)),
 oa 2 11 (.bin .eql (.t 10) (.c (.int .i64 0))),
 om 3 12 11,
 og 4 13 (.fieldA 2 (.t 1)) 12 true,
 og 5 14 (.loadB 0 none (.t 13)) 12 true,
 og 6 15 (.bin .eql (.t 14) (.c (.int .i64 0))) 12 true,
 oa 7 16 (.pick (.t 12) (.t 15) (.c (.bool false))),
 om 8 17 16,
 og 9 18 (.fieldA 3 (.t 1)) 17 true,
 og 10 19 (.loadB 0 none (.t 18)) 17 true,
 og 11 20 (.bin .eql (.t 19) (.c (.int .i64 0))) 17 true,
 oa 12 21 (.pick (.t 17) (.t 20) (.c (.bool false))),
 om 13 2 21])
  .ret) (.seq [22, 4, 1] (.region [oa 0 23 (.bin .eql (.t 4) (.c (.int .i64 2))),
 om 1 22 23])
  (.cond (.t 22) (.seq [2] (.region [oa 0 24 (.fieldA 3 (.t 1)),
 oa 1 25 (.loadB 0 none (.t 24)),
 oa 2 26 (.bin .eql (.t 25) (.c (.int .i64 0))),
 om 3 27 26,
 og 4 28 (.fieldA 1 (.t 1)) 27 true,
 og 5 29 (.loadB 0 none (.t 28)) 27 true,
 og 6 30 (.bin .eql (.t 29) (.c (.int .i64 0))) 27 true,
 og 7 31 (.mv (.t 30)) 27 true,
 og 8 32 (.fieldA 1 (.t 1)) 31 false,
 og 9 33 (.loadB 0 none (.t 32)) 31 false,
 ⟨10, some 34, .call false s_impl_isCode p_impl_isCode D_impl_isCode [(.t 33)], (some (31, false)), []⟩,
 og 11 35 (.pick (.t 31) (.c (.bool true)) (.t 34)) 27 true,
 oa 12 36 (.pick (.t 27) (.t 35) (.c (.bool false))),
 om 13 37 36,
 og 14 38 (.fieldA 2 (.t 1)) 37 true,
 og 15 39 (.loadB 0 none (.t 38)) 37 true,
 og 16 40 (.bin .eql (.t 39) (.c (.int .i64 0))) 37 true,
 og 17 41 (.mv (.t 40)) 37 true,
 og 18 42 (.fieldA 2 (.t 1)) 41 false,
 og 19 43 (.loadB 0 none (.t 42)) 41 false,
 ⟨20, some 44, .call false s_impl_isMods p_impl_isMods D_impl_isMods [(.t 43)], (some (41, false)), []⟩,
 og 21 45 (.pick (.t 41) (.c (.bool true)) (.t 44)) 37 true,
 oa 22 46 (.pick (.t 37) (.t 45) (.c (.bool false))),
 om 23 47 46,
 og 24 48 (.fieldA 1 (.t 1)) 47 true,
 og 25 49 (.loadB 0 none (.t 48)) 47 true,
 og 26 50 (.bin .neq (.t 49) (.c (.int .i64 0))) 47 true,
 og 27 51 (.mv (.t 50)) 47 true,
 og 28 52 (.fieldA 2 (.t 1)) 51 false,
 og 29 53 (.loadB 0 none (.t 52)) 51 false,
 og 30 54 (.bin .neq (.t 53) (.c (.int .i64 0))) 51 false,
 og 31 55 (.pick (.t 51) (.c (.bool true)) (.t 54)) 47 true,
 oa 32 56 (.pick (.t 47) (.t 55) (.c (.bool false))),
 om 33 2 56])
  .ret) (.seq [57, 4, 1] (.seq [57, 4, 1] (.region [oa 0 58 (.bin .eql (.t 4) (.c (.int .i64 3))),
 om 1 57 58])
  (.cond (.t 57) .skip (.region [oa 0 59 (.bin .eql (.t 4) (.c (.int .i64 4))),
 om 1 57 59])))
  (.cond (.t 57) (.seq [2] (.region [oa 0 60 (.fieldA 1 (.t 1)),
 oa 1 61 (.loadB 0 none (.t 60)),
 oa 2 62 (.bin .eql (.t 61) (.c (.int .i64 0))),
 om 3 63 62,
 og 4 64 (.fieldA 2 (.t 1)) 63 true,
 og 5 65 (.loadB 0 none (.t 64)) 63 true,
 og 6 66 (.bin .eql (.t 65) (.c (.int .i64 0))) 63 true,
 oa 7 67 (.pick (.t 63) (.t 66) (.c (.bool false))),
 om 8 68 67,
 og 9 69 (.fieldA 3 (.t 1)) 68 true,
 og 10 70 (.loadB 0 none (.t 69)) 68 true,
 ⟨11, some 71, .call false s_impl_isUpper p_impl_isUpper D_impl_isUpper [(.t 70)], (some (68, true)), []⟩,
 oa 12 72 (.pick (.t 68) (.t 71) (.c (.bool false))),
 om 13 2 72])
  .ret) (.seq [73, 4, 1] (.region [oa 0 74 (.bin .eql (.t 4) (.c (.int .i64 5))),
 om 1 73 74])
  (.cond (.t 73) (.seq [2] (.region [oa 0 75 (.fieldA 1 (.t 1)),
 oa 1 76 (.loadB 0 none (.t 75)),
 oa 2 77 (.bin .eql (.t 76) (.c (.int .i64 0))),
 om 3 78 77,
 og 4 79 (.fieldA 2 (.t 1)) 78 true,
 og 5 80 (.loadB 0 none (.t 79)) 78 true,
 og 6 81 (.bin .eql (.t 80) (.c (.int .i64 0))) 78 true,
 oa 7 82 (.pick (.t 78) (.t 81) (.c (.bool false))),
 om 8 83 82,
 og 9 84 (.fieldA 3 (.t 1)) 83 true,
 og 10 85 (.loadB 0 none (.t 84)) 83 true,
 og 11 86 (.bin .geq (.t 85) (.c (.int .i64 0))) 83 true,
 oa 12 87 (.pick (.t 83) (.t 86) (.c (.bool false))),
 om 13 88 87,
 og 14 89 (.fieldA 3 (.t 1)) 88 true,
 og 15 90 (.loadB 0 none (.t 89)) 88 true,
 og 16 91 (.bin .leq (.t 90) (.c (.int .i64 3))) 88 true,
 oa 17 92 (.pick (.t 88) (.t 91) (.c (.bool false))),
 om 18 2 92])
  .ret) (.seq [93, 4, 1] (.region [oa 0 94 (.bin .eql (.t 4) (.c (.int .i64 9))),
 om 1 93 94])
  (.cond (.t 93) (.seq [2] (.region [oa 0 95 (.fieldA 1 (.t 1)),
 oa 1 96 (.loadB 0 none (.t 95)),
 oa 2 97 (.bin .eql (.t 96) (.c (.int .i64 0))),
 om 3 98 97,
 og 4 99 (.fieldA 2 (.t 1)) 98 true,
 og 5 100 (.loadB 0 none (.t 99)) 98 true,
 og 6 101 (.bin .eql (.t 100) (.c (.int .i64 0))) 98 true,
 oa 7 102 (.pick (.t 98) (.t 101) (.c (.bool false))),
 om 8 103 102,
 og 9 104 (.fieldA 3 (.t 1)) 103 true,
 og 10 105 (.loadB 0 none (.t 104)) 103 true,
 og 11 106 (.bin .geq (.t 105) (.c (.int .i64 0))) 103 true,
 oa 12 107 (.pick (.t 103) (.t 106) (.c (.bool false))),
 om 13 108 107,
 og 14 109 (.fieldA 3 (.t 1)) 108 true,
 og 15 110 (.loadB 0 none (.t 109)) 108 true,
 og 16 111 (.bin .leq (.t 110) (.c (.int .i64 3))) 108 true,
 oa 17 112 (.pick (.t 108) (.t 111) (.c (.bool false))),
 om 18 2 112])
  .ret) (.seq [113, 4, 1] (.region [oa 0 114 (.bin .eql (.t 4) (.c (.int .i64 6))),
 om 1 113 114])
  (.cond (.t 113) (.seq [2] (.region [oa 0 115 (.fieldA 1 (.t 1)),
 oa 1 116 (.loadB 0 none (.t 115)),
 oc 2 117 s_impl_isCode p_impl_isCode D_impl_isCode [(.t 116)],
 om 3 118 117,
 og 4 119 (.fieldA 2 (.t 1)) 118 true,
 og 5 120 (.loadB 0 none (.t 119)) 118 true,
 ⟨6, some 121, .call false s_impl_isMods p_impl_isMods D_impl_isMods [(.t 120)], (some (118, true)), []⟩,
 oa 7 122 (.pick (.t 118) (.t 121) (.c (.bool false))),
 om 8 123 122,
 og 9 124 (.fieldA 3 (.t 1)) 123 true,
 og 10 125 (.loadB 0 none (.t 124)) 123 true,
 og 11 126 (.bin .eql (.t 125) (.c (.int .i64 0))) 123 true,
 oa 12 127 (.pick (.t 123) (.t 126) (.c (.bool false))),
 om 13 2 127])
  .ret) (.seq [128, 4, 1] (.region [oa 0 129 (.bin .eql (.t 4) (.c (.int .i64 7))),
 om 1 128 129])
  (.cond (.t 128) (.seq [2] (.region [oa 0 130 (.fieldA 1 (.t 1)),
 oa 1 131 (.loadB 0 none (.t 130)),
 oc 2 132 s_impl_isCode p_impl_isCode D_impl_isCode [(.t 131)],
 om 3 133 132,
 og 4 134 (.fieldA 2 (.t 1)) 133 true,
 og 5 135 (.loadB 0 none (.t 134)) 133 true,
 og 6 136 (.bin .eql (.t 135) (.c (.int .i64 0))) 133 true,
 oa 7 137 (.pick (.t 133) (.t 136) (.c (.bool false))),
 om 8 138 137,
 og 9 139 (.fieldA 3 (.t 1)) 138 true,
 og 10 140 (.loadB 0 none (.t 139)) 138 true,
 ⟨11, some 141, .call false s_impl_isUpper p_impl_isUpper D_impl_isUpper [(.t 140)], (some (138, true)), []⟩,
 oa 12 142 (.pick (.t 138) (.t 141) (.c (.bool false))),
 om 13 2 142])
  .ret) (.seq [143, 1] (.region [oa 0 144 (.bin .eql (.t 4) (.c (.int .i64 8))),
 om 1 143 144])
  (.cond (.t 143) (.seq [2] (.region [oa 0 145 (.fieldA 1 (.t 1)),
 oa 1 146 (.loadB 0 none (.t 145)),
 oa 2 147 (.bin .eql (.t 146) (.c (.int .i64 0))),
 om 3 148 147,
 og 4 149 (.fieldA 2 (.t 1)) 148 true,
 og 5 150 (.loadB 0 none (.t 149)) 148 true,
 ⟨6, some 151, .call false s_impl_isMods p_impl_isMods D_impl_isMods [(.t 150)], (some (148, true)), []⟩,
 oa 7 152 (.pick (.t 148) (.t 151) (.c (.bool false))),
 om 8 153 152,
 og 9 154 (.fieldA 3 (.t 1)) 153 true,
 og 10 155 (.loadB 0 none (.t 154)) 153 true,
 og 11 156 (.bin .eql (.t 155) (.c (.int .i64 0))) 153 true,
 oa 12 157 (.pick (.t 153) (.t 156) (.c (.bool false))),
 om 13 2 157])
  .ret) .skip))))))))))))))))))
  (.seq [2] (.region [oa 0 2 (.mv (.c (.bool false)))])
  .ret)))
noncomputable def df_impl_IsAction : DFun := ⟨1, 158, 1, true, [.tmp 2], dc_impl_IsAction⟩
noncomputable def pf_impl_IsAction : PFun := df_impl_IsAction.er
noncomputable def f_impl_IsAction : AFun := pf_impl_IsAction.er
@[irreducible] noncomputable def s_impl_IsAction : CallSem := funSem f_impl_IsAction
@[irreducible] noncomputable def p_impl_IsAction : PSem := pfunSem pf_impl_IsAction
theorem sp_impl_IsAction : SoundP s_impl_IsAction p_impl_IsAction := by unfold s_impl_IsAction p_impl_IsAction; exact pfun_sound (f := pf_impl_IsAction) ⟨sp_impl_isCode, sp_impl_isMods, sp_impl_isUpper, sp_impl_isCode, sp_impl_isMods, sp_impl_isCode, sp_impl_isUpper, sp_impl_isMods, trivial⟩
def h_impl_IsAction : List HT := [.agg [(.frz, .int .i64), (.frz, .int .i64), (.frz, .int .i64), (.frz, .int .i64)]]
def q_impl_IsAction : QT := .one (.one .own (.bool))
@[irreducible] noncomputable def v_impl_IsAction (x : Int × Int × Int × Int) : Bool := (shut fun x => fnV df_impl_IsAction h_impl_IsAction q_impl_IsAction x).1 x
@[irreducible] noncomputable def ok_impl_IsAction (x : Int × Int × Int × Int) : Prop := (shut fun x => fnOk df_impl_IsAction h_impl_IsAction q_impl_IsAction x).1 x
theorem vu_impl_IsAction (x : Int × Int × Int × Int) : v_impl_IsAction x = fnV df_impl_IsAction h_impl_IsAction q_impl_IsAction x := by unfold v_impl_IsAction; exact congrFun (shut _).2 x
theorem ou_impl_IsAction (x : Int × Int × Int × Int) : ok_impl_IsAction x = fnOk df_impl_IsAction h_impl_IsAction q_impl_IsAction x := by unfold ok_impl_IsAction; exact congrFun (shut _).2 x
noncomputable def D_impl_IsAction : DSem := DSemOf h_impl_IsAction q_impl_IsAction ok_impl_IsAction v_impl_IsAction
theorem ck_impl_IsAction (x : Int × Int × Int × Int) : fnChk df_impl_IsAction h_impl_IsAction q_impl_IsAction x = true := by kernel_rfl
theorem ob_impl_IsAction : AllD df_impl_IsAction.body.obs := ⟨sd_impl_isCode, sd_impl_isMods, sd_impl_isUpper, sd_impl_isCode, sd_impl_isMods, sd_impl_isCode, sd_impl_isUpper, sd_impl_isMods, trivial⟩
theorem st_impl_IsAction : fnSt df_impl_IsAction h_impl_IsAction q_impl_IsAction = true := by kernel_rfl
theorem sd_impl_IsAction : SoundD p_impl_IsAction D_impl_IsAction := by unfold p_impl_IsAction; exact soundD_of (f := df_impl_IsAction) (hs := h_impl_IsAction) (q := q_impl_IsAction) ob_impl_IsAction st_impl_IsAction ck_impl_IsAction (fun x h => Eq.mp (ou_impl_IsAction x) h) (fun x => (vu_impl_IsAction x).symm)
end
section
set_option maxRecDepth 100000
theorem ve_spec_l1In (x : Int × Int × Int) : v_spec_l1In x = (bAnd (iGe x.1 x.2.1) (iLe x.1 x.2.2)) := (vu_spec_l1In x).trans (by kernel_rfl)
theorem oe_spec_l1In (x : Int × Int × Int) : ok_spec_l1In x = True := (ou_spec_l1In x).trans (by kernel_rfl)
theorem ve_spec_IsAction (x : Int × Int × Int × Int) : v_spec_IsAction x = (bSel (bOr (iEq x.1 0) (bOr (iEq x.1 1) (iEq x.1 10))) (bAnd (iEq x.2.1 0) (bAnd (iEq x.2.2.1 0) (iEq x.2.2.2 0))) (bSel (iEq x.1 2) (bAnd (iEq x.2.2.2 0) (bSel (v_spec_l1In (x.2.1, 1, 56)) (bOr (v_spec_l1In (x.2.2.1, 1, 15)) (iEq x.2.2.1 0)) (bAnd (iEq x.2.1 0) (bAnd (v_spec_l1In (x.2.2.1, 1, 15)) (bOr (v_spec_l1In (x.2.2.1, 1, 15)) (iEq x.2.2.1 0)))))) (bSel (bOr (iEq x.1 3) (iEq x.1 4)) (bAnd (v_spec_l1In (x.2.2.2, 1, 3)) (bAnd (iEq x.2.1 0) (iEq x.2.2.1 0))) (bSel (bOr (iEq x.1 5) (iEq x.1 9)) (bAnd (v_spec_l1In (x.2.2.2, 0, 3)) (bAnd (iEq x.2.1 0) (iEq x.2.2.1 0))) (bSel (iEq x.1 6) (bAnd (v_spec_l1In (x.2.1, 1, 56)) (bAnd (v_spec_l1In (x.2.2.1, 1, 15)) (iEq x.2.2.2 0))) (bSel (iEq x.1 7) (bAnd (v_spec_l1In (x.2.1, 1, 56)) (bAnd (v_spec_l1In (x.2.2.2, 1, 3)) (iEq x.2.2.1 0))) (bAnd (iEq x.1 8) (bAnd (v_spec_l1In (x.2.2.1, 1, 15)) (bAnd (iEq x.2.1 0) (iEq x.2.2.2 0)))))))))) := (vu_spec_IsAction x).trans (by kernel_rfl)
theorem oe_spec_IsAction (x : Int × Int × Int × Int) : ok_spec_IsAction x = ((ok_spec_l1In (x.2.1, 1, 56)) ∧ ((ok_spec_l1In (x.2.2.1, 1, 15)) ∧ ((ok_spec_l1In (x.2.2.2, 1, 3)) ∧ (((bOr (iEq x.1 0) (bOr (iEq x.1 1) (iEq x.1 10))) = true → True) ∧ ((bOr (iEq x.1 0) (bOr (iEq x.1 1) (iEq x.1 10))) = false → (((iEq x.1 2) = true → True) ∧ ((iEq x.1 2) = false → (((bOr (iEq x.1 3) (iEq x.1 4)) = true → True) ∧ ((bOr (iEq x.1 3) (iEq x.1 4)) = false → (((bOr (iEq x.1 5) (iEq x.1 9)) = true → (ok_spec_l1In (x.2.2.2, 0, 3))) ∧ ((bOr (iEq x.1 5) (iEq x.1 9)) = false → True))))))))))) := (ou_spec_IsAction x).trans (by kernel_rfl)
theorem ve_impl_isCode (x : Int) : v_impl_isCode x = (bAnd (iGe x 1) (iLe x 56)) := (vu_impl_isCode x).trans (by kernel_rfl)
theorem oe_impl_isCode (x : Int) : ok_impl_isCode x = True := (ou_impl_isCode x).trans (by kernel_rfl)
theorem ve_impl_isMods (x : Int) : v_impl_isMods x = (bAnd (iGe x 1) (iLe x 15)) := (vu_impl_isMods x).trans (by kernel_rfl)
theorem oe_impl_isMods (x : Int) : ok_impl_isMods x = True := (ou_impl_isMods x).trans (by kernel_rfl)
theorem ve_impl_isUpper (x : Int) : v_impl_isUpper x = (bAnd (iGe x 1) (iLe x 3)) := (vu_impl_isUpper x).trans (by kernel_rfl)
theorem oe_impl_isUpper (x : Int) : ok_impl_isUpper x = True := (ou_impl_isUpper x).trans (by kernel_rfl)
theorem ve_impl_IsAction (x : Int × Int × Int × Int) : v_impl_IsAction x = (bSel (bOr (iEq x.1 0) (bOr (iEq x.1 1) (iEq x.1 10))) (bAnd (iEq x.2.1 0) (bAnd (iEq x.2.2.1 0) (iEq x.2.2.2 0))) (bSel (iEq x.1 2) (bAnd (iEq x.2.2.2 0) (bSel (iEq x.2.1 0) (bSel (iEq x.2.2.1 0) (bOr (iNe x.2.1 0) (iNe x.2.2.1 0)) (bAnd (v_impl_isMods x.2.2.1) (bOr (iNe x.2.1 0) (iNe x.2.2.1 0)))) (bAnd (v_impl_isCode x.2.1) (bSel (iEq x.2.2.1 0) (bOr (iNe x.2.1 0) (iNe x.2.2.1 0)) (bAnd (v_impl_isMods x.2.2.1) (bOr (iNe x.2.1 0) (iNe x.2.2.1 0))))))) (bSel (bOr (iEq x.1 3) (iEq x.1 4)) (bAnd (iEq x.2.1 0) (bAnd (iEq x.2.2.1 0) (v_impl_isUpper x.2.2.2))) (bSel (iEq x.1 5) (bAnd (iEq x.2.1 0) (bAnd (iEq x.2.2.1 0) (bAnd (iGe x.2.2.2 0) (iLe x.2.2.2 3)))) (bSel (iEq x.1 9) (bAnd (iEq x.2.1 0) (bAnd (iEq x.2.2.1 0) (bAnd (iGe x.2.2.2 0) (iLe x.2.2.2 3)))) (bSel (iEq x.1 6) (bAnd (v_impl_isCode x.2.1) (bAnd (v_impl_isMods x.2.2.1) (iEq x.2.2.2 0))) (bSel (iEq x.1 7) (bAnd (v_impl_isCode x.2.1) (bAnd (iEq x.2.2.1 0) (v_impl_isUpper x.2.2.2))) (bAnd (iEq x.1 8) (bAnd (iEq x.2.1 0) (bAnd (v_impl_isMods x.2.2.1) (iEq x.2.2.2 0))))))))))) := (vu_impl_IsAction x).trans (by kernel_rfl)
theorem oe_impl_IsAction (x : Int × Int × Int × Int) : ok_impl_IsAction x = (((bOr (iEq x.1 0) (bOr (iEq x.1 1) (iEq x.1 10))) = true → True) ∧ ((bOr (iEq x.1 0) (bOr (iEq x.1 1) (iEq x.1 10))) = false → (((iEq x.1 2) = true → (((iEq x.2.2.2 0) = true → (((iEq x.2.1 0) = true → (((iEq x.2.2.1 0) = true → True) ∧ ((iEq x.2.2.1 0) = false → (ok_impl_isMods x.2.2.1)))) ∧ ((iEq x.2.1 0) = false → ((ok_impl_isCode x.2.1) ∧ (((v_impl_isCode x.2.1) = true → (((iEq x.2.2.1 0) = true → True) ∧ ((iEq x.2.2.1 0) = false → (ok_impl_isMods x.2.2.1)))) ∧ ((v_impl_isCode x.2.1) = false → True)))))) ∧ ((iEq x.2.2.2 0) = false → True))) ∧ ((iEq x.1 2) = false → (((bOr (iEq x.1 3) (iEq x.1 4)) = true → (((iEq x.2.1 0) = true → (((iEq x.2.2.1 0) = true → (ok_impl_isUpper x.2.2.2)) ∧ ((iEq x.2.2.1 0) = false → True))) ∧ ((iEq x.2.1 0) = false → True))) ∧ ((bOr (iEq x.1 3) (iEq x.1 4)) = false → (((iEq x.1 5) = true → True) ∧ ((iEq x.1 5) = false → (((iEq x.1 9) = true → True) ∧ ((iEq x.1 9) = false → (((iEq x.1 6) = true → ((ok_impl_isCode x.2.1) ∧ (((v_impl_isCode x.2.1) = true → (ok_impl_isMods x.2.2.1)) ∧ ((v_impl_isCode x.2.1) = false → True)))) ∧ ((iEq x.1 6) = false → (((iEq x.1 7) = true → ((ok_impl_isCode x.2.1) ∧ (((v_impl_isCode x.2.1) = true → (((iEq x.2.2.1 0) = true → (ok_impl_isUpper x.2.2.2)) ∧ ((iEq x.2.2.1 0) = false → True))) ∧ ((v_impl_isCode x.2.1) = false → True)))) ∧ ((iEq x.1 7) = false → (((iEq x.1 8) = true → (((iEq x.2.1 0) = true → (ok_impl_isMods x.2.2.1)) ∧ ((iEq x.2.1 0) = false → True))) ∧ ((iEq x.1 8) = false → True)))))))))))))))) := (ou_impl_IsAction x).trans (by kernel_rfl)
end
theorem isAction_eq (x : Int × Int × Int × Int) : v_spec_IsAction x = v_impl_IsAction x := by
  simp only [ve_spec_IsAction, ve_impl_IsAction, ve_spec_l1In, ve_impl_isCode, ve_impl_isMods, ve_impl_isUpper, bNot_eq, bAnd_eq, bOr_eq, bIff_eq, bSel_eq, iEq_eq, iNe_eq, iLt_eq, iLe_eq, iGt_eq, iGe_eq, sEq_eq, sNe_eq, lLen_eq, lN_eq, lGet_eq, lSet_eq, lSub_eq, lTake_eq, lApp_eq, lRep_eq, iNat_eq, sAdd_eq]
  rw [Bool.eq_iff_iff]
  repeat' split
  all_goals simp only [Bool.and_eq_true, Bool.or_eq_true, Bool.not_eq_true', Bool.not_eq_false', Bool.and_eq_false_iff, Bool.or_eq_false_iff, decide_eq_true_eq, decide_eq_false_iff_not, Bool.not_eq_true, Bool.not_eq_false, beq_iff_eq, beq_eq_false_iff_ne] at *
  all_goals omega
theorem ok_spec_IsAction_t (x : Int × Int × Int × Int) : ok_spec_IsAction x := by
  have h : ∀ y, ok_spec_l1In y := fun y => by rw [oe_spec_l1In]; trivial
  rw [oe_spec_IsAction]
  simp [h]
theorem ok_impl_IsAction_t (x : Int × Int × Int × Int) : ok_impl_IsAction x := by
  have h1 : ∀ y, ok_impl_isCode y := fun y => by rw [oe_impl_isCode]; trivial
  have h2 : ∀ y, ok_impl_isMods y := fun y => by rw [oe_impl_isMods]; trivial
  have h3 : ∀ y, ok_impl_isUpper y := fun y => by rw [oe_impl_isUpper]; trivial
  rw [oe_impl_IsAction]
  simp [h1, h2, h3]
theorem l1In_eq (a b c : Int) : v_spec_l1In (a, b, c) = (decide (b ≤ a) && decide (a ≤ c)) := by rw [ve_spec_l1In]; simp only [bAnd_eq, iGe_eq, iLe_eq]
theorem ok_l1In (x) : ok_spec_l1In x := by rw [oe_spec_l1In]; trivial
section
set_option maxRecDepth 8000
noncomputable def dc_spec_IsTapHold : DCode :=
  (.seq [1] (.region [oa 0 1 (.boxB 0 4 (.t 0)),
 oa 1 2 (.mv (.c (.bool false)))])
  (.seq [2] (.region [oa 0 3 (.loadB 0 (some 4) (.t 1)),
 oc 1 4 s_spec_IsAction p_spec_IsAction D_spec_IsAction [(.t 3)],
 om 2 5 4,
 og 3 6 (.fieldA 0 (.t 1)) 5 true,
 og 4 7 (.loadB 0 none (.t 6)) 5 true,
 og 5 8 (.bin .eql (.t 7) (.c (.int .i64 6))) 5 true,
 og 6 9 (.mv (.t 8)) 5 true,
 og 7 10 (.fieldA 0 (.t 1)) 9 false,
 og 8 11 (.loadB 0 none (.t 10)) 9 false,
 og 9 12 (.bin .eql (.t 11) (.c (.int .i64 7))) 9 false,
 og 10 13 (.pick (.t 9) (.c (.bool true)) (.t 12)) 5 true,
 oa 11 14 (.pick (.t 5) (.t 13) (.c (.bool false))),
 om 12 2 14])
  .ret))
noncomputable def df_spec_IsTapHold : DFun := ⟨1, 15, 1, true, [.tmp 2], dc_spec_IsTapHold⟩
noncomputable def pf_spec_IsTapHold : PFun := df_spec_IsTapHold.er
noncomputable def f_spec_IsTapHold : AFun := pf_spec_IsTapHold.er
@[irreducible] noncomputable def s_spec_IsTapHold : CallSem := funSem f_spec_IsTapHold
@[irreducible] noncomputable def p_spec_IsTapHold : PSem := pfunSem pf_spec_IsTapHold
theorem sp_spec_IsTapHold : SoundP s_spec_IsTapHold p_spec_IsTapHold := by unfold s_spec_IsTapHold p_spec_IsTapHold; exact pfun_sound (f := pf_spec_IsTapHold) ⟨sp_spec_IsAction, trivial⟩
def h_spec_IsTapHold : List HT := [.agg [(.frz, .int .i64), (.frz, .int .i64), (.frz, .int .i64), (.frz, .int .i64)]]
def q_spec_IsTapHold : QT := .one (.one .own (.bool))
@[irreducible] noncomputable def v_spec_IsTapHold (x : Int × Int × Int × Int) : Bool := (shut fun x => fnV df_spec_IsTapHold h_spec_IsTapHold q_spec_IsTapHold x).1 x
@[irreducible] noncomputable def ok_spec_IsTapHold (x : Int × Int × Int × Int) : Prop := (shut fun x => fnOk df_spec_IsTapHold h_spec_IsTapHold q_spec_IsTapHold x).1 x
theorem vu_spec_IsTapHold (x : Int × Int × Int × Int) : v_spec_IsTapHold x = fnV df_spec_IsTapHold h_spec_IsTapHold q_spec_IsTapHold x := by unfold v_spec_IsTapHold; exact congrFun (shut _).2 x
theorem ou_spec_IsTapHold (x : Int × Int × Int × Int) : ok_spec_IsTapHold x = fnOk df_spec_IsTapHold h_spec_IsTapHold q_spec_IsTapHold x := by unfold ok_spec_IsTapHold; exact congrFun (shut _).2 x
noncomputable def D_spec_IsTapHold : DSem := DSemOf h_spec_IsTapHold q_spec_IsTapHold ok_spec_IsTapHold v_spec_IsTapHold
theorem ck_spec_IsTapHold (x : Int × Int × Int × Int) : fnChk df_spec_IsTapHold h_spec_IsTapHold q_spec_IsTapHold x = true := by kernel_rfl
theorem ob_spec_IsTapHold : AllD df_spec_IsTapHold.body.obs := ⟨sd_spec_IsAction, trivial⟩
theorem st_spec_IsTapHold : fnSt df_spec_IsTapHold h_spec_IsTapHold q_spec_IsTapHold = true := by kernel_rfl
theorem sd_spec_IsTapHold : SoundD p_spec_IsTapHold D_spec_IsTapHold := by unfold p_spec_IsTapHold; exact soundD_of (f := df_spec_IsTapHold) (hs := h_spec_IsTapHold) (q := q_spec_IsTapHold) ob_spec_IsTapHold st_spec_IsTapHold ck_spec_IsTapHold (fun x h => Eq.mp (ou_spec_IsTapHold x) h) (fun x => (vu_spec_IsTapHold x).symm)
noncomputable def dc_spec_IsHeld : DCode :=
  (.seq [0] (.region [oa 0 2 (.mv (.c (.bool false)))])
  (.seq [3, 0] (.region [oi 0 3 0])
  (.seq [] (.seq [4, 3, 0] (.region [oi 0 4 0])
  (.block 0 (.loop [0, 3, 4] 1 (.seq [4, 3, 0] (.seq [9, 4, 3, 0] (.region [om 0 6 4,
 on 1 7 0,
 oa 2 8 (.len (.t 7)),
 oa 3 9 (.bin .lss (.t 6) (.t 8))])
  (.cond (.t 9) .skip (.exit 0)))
  (.seq [4, 3, 0] (.block 1 (.seq [5, 4, 3, 0] (.region [on 0 12 0,
 om 1 13 4,
 oa 2 14 (.indexA 5 (.t 12) (.t 13)),
 oa 3 15 (.fieldA 1 (.t 14)),
 ob 4 16 (.loadH (some 4) (.t 15)),
 oa 5 5 (.allocB 0 [(.int .i64 0), (.int .i64 0), (.int .i64 0), (.int .i64 0)]),
 os 6 (.storeB 0 4 (.t 5) (.t 16))])
  (.seq [4, 3, 0] (.seq [48, 4, 3, 0] (.region [on 0 17 0,
 om 1 18 4,
 oa 2 19 (.indexA 5 (.t 17) (.t 18)),
 oa 3 20 (.fieldA 0 (.t 19)),
 oa 4 21 (.loadH none (.t 20)),
 oc 5 22 s_spec_l1In p_spec_l1In D_spec_l1In [(.t 21), (.c (.int .i64 0)), (.c (.int .i64 31))],
 oa 6 23 (.un .not (.t 22)),
 om 7 24 23,
 og 8 25 (.mv (.t 3)) 24 false,
 ⟨9, some 26, .a true (.mv (.t 0)) none, (some (24, false)), []⟩,
 og 10 27 (.mv (.t 4)) 24 false,
 og 11 28 (.indexA 5 (.t 26) (.t 27)) 24 false,
 og 12 29 (.fieldA 0 (.t 28)) 24 false,
 og 13 30 (.loadH none (.t 29)) 24 false,
 og 14 31 (.bin .shr (.t 25) (.t 30)) 24 false,
 og 15 32 (.bin .and (.t 31) (.c (.int .i64 1))) 24 false,
 og 16 33 (.bin .eql (.t 32) (.c (.int .i64 1))) 24 false,
 oa 17 34 (.pick (.t 24) (.c (.bool true)) (.t 33)),
 om 18 35 34,
 og 19 36 (.loadB 0 (some 4) (.t 5)) 35 false,
 ⟨20, some 37, .call false s_spec_IsAction p_spec_IsAction D_spec_IsAction [(.t 36)], (some (35, false)), []⟩,
 og 21 38 (.un .not (.t 37)) 35 false,
 oa 22 39 (.pick (.t 35) (.c (.bool true)) (.t 38)),
 om 23 40 39,
 og 24 41 (.fieldA 0 (.t 5)) 40 false,
 og 25 42 (.loadB 0 none (.t 41)) 40 false,
 og 26 43 (.bin .eql (.t 42) (.c (.int .i64 1))) 40 false,
 oa 27 44 (.pick (.t 40) (.c (.bool true)) (.t 43)),
 om 28 45 44,
 og 29 46 (.loadB 0 (some 4) (.t 5)) 45 false,
 ⟨30, some 47, .call false s_spec_IsTapHold p_spec_IsTapHold D_spec_IsTapHold [(.t 46)], (some (45, false)), []⟩,
 oa 31 48 (.pick (.t 45) (.c (.bool true)) (.t 47))])
  (.cond (.t 48) (.seq [2] (.region [oa 0 2 (.mv (.c (.bool false)))])
  .ret) .skip))
  (.region [om 0 49 3,
 on 1 50 0,
 om 2 51 4,
 oa 3 52 (.indexA 5 (.t 50) (.t 51)),
 oa 4 53 (.fieldA 0 (.t 52)),
 oa 5 54 (.loadH none (.t 53)),
 oa 6 55 (.bin .shl (.c (.int .i64 1)) (.t 54)),
 oa 7 56 (.bin .or (.t 49) (.t 55)),
 om 8 3 56]))))
  (.region [om 0 10 4,
 oa 1 11 (.bin .add (.t 10) (.c (.int .i64 1))),
 om 2 4 11]))))))
  (.seq [2] (.region [oa 0 2 (.mv (.c (.bool true)))])
  .ret))))
noncomputable def df_spec_IsHeld : DFun := ⟨1, 57, 1, true, [.tmp 2], dc_spec_IsHeld⟩
noncomputable def pf_spec_IsHeld : PFun := df_spec_IsHeld.er
noncomputable def f_spec_IsHeld : AFun := pf_spec_IsHeld.er
@[irreducible] noncomputable def s_spec_IsHeld : CallSem := funSem f_spec_IsHeld
@[irreducible] noncomputable def p_spec_IsHeld : PSem := pfunSem pf_spec_IsHeld
def h_spec_IsHeld : List HT := [.one .frz (.sl (.cons (.int .i64) (.cons (.int .i64) (.cons (.int .i64) (.cons (.int .i64) (.one (.int .i64)))))))]
def q_spec_IsHeld : QT := .one (.one .own (.bool))
@[irreducible] noncomputable def v_spec_IsHeld (x : List (Int × Int × Int × Int × Int)) : Bool := (shut fun x => fnV df_spec_IsHeld h_spec_IsHeld q_spec_IsHeld x).1 x
@[irreducible] noncomputable def ok_spec_IsHeld (x : List (Int × Int × Int × Int × Int)) : Prop := (shut fun x => fnOk df_spec_IsHeld h_spec_IsHeld q_spec_IsHeld x).1 x
theorem vu_spec_IsHeld (x : List (Int × Int × Int × Int × Int)) : v_spec_IsHeld x = fnV df_spec_IsHeld h_spec_IsHeld q_spec_IsHeld x := by unfold v_spec_IsHeld; exact congrFun (shut _).2 x
theorem ou_spec_IsHeld (x : List (Int × Int × Int × Int × Int)) : ok_spec_IsHeld x = fnOk df_spec_IsHeld h_spec_IsHeld q_spec_IsHeld x := by unfold ok_spec_IsHeld; exact congrFun (shut _).2 x
noncomputable def D_spec_IsHeld : DSem := DSemOf h_spec_IsHeld q_spec_IsHeld ok_spec_IsHeld v_spec_IsHeld
noncomputable def dc_impl_bit : DCode :=
  (.seq [1, 0] (.region [oi 0 4 0])
  (.seq [4] (.region [om 0 5 0,
 om 1 6 1,
 oa 2 7 (.bin .shr (.t 5) (.t 6)),
 oa 3 8 (.bin .and (.t 7) (.c (.int .i64 1))),
 om 4 4 8])
  .ret))
noncomputable def df_impl_bit : DFun := ⟨2, 9, 0, true, [.tmp 4], dc_impl_bit⟩
noncomputable def pf_impl_bit : PFun := df_impl_bit.er
noncomputable def f_impl_bit : AFun := pf_impl_bit.er
@[irreducible] noncomputable def s_impl_bit : CallSem := funSem f_impl_bit
@[irreducible] noncomputable def p_impl_bit : PSem := pfunSem pf_impl_bit
theorem sp_impl_bit : SoundP s_impl_bit p_impl_bit := by unfold s_impl_bit p_impl_bit; exact pfun_sound (f := pf_impl_bit) trivial
def h_impl_bit : List HT := [.one .frz (.int .i64), .one .frz (.int .i64)]
def q_impl_bit : QT := .one (.one .own (.int .i64))
@[irreducible] noncomputable def v_impl_bit (x : Int × Int) : Int := (shut fun x => fnV df_impl_bit h_impl_bit q_impl_bit x).1 x
@[irreducible] noncomputable def ok_impl_bit (x : Int × Int) : Prop := (shut fun x => fnOk df_impl_bit h_impl_bit q_impl_bit x).1 x
theorem vu_impl_bit (x : Int × Int) : v_impl_bit x = fnV df_impl_bit h_impl_bit q_impl_bit x := by unfold v_impl_bit; exact congrFun (shut _).2 x
theorem ou_impl_bit (x : Int × Int) : ok_impl_bit x = fnOk df_impl_bit h_impl_bit q_impl_bit x := by unfold ok_impl_bit; exact congrFun (shut _).2 x
noncomputable def D_impl_bit : DSem := DSemOf h_impl_bit q_impl_bit ok_impl_bit v_impl_bit
theorem ck_impl_bit (x : Int × Int) : fnChk df_impl_bit h_impl_bit q_impl_bit x = true := by kernel_rfl
theorem ob_impl_bit : AllD df_impl_bit.body.obs := trivial
theorem st_impl_bit : fnSt df_impl_bit h_impl_bit q_impl_bit = true := by kernel_rfl
theorem sd_impl_bit : SoundD p_impl_bit D_impl_bit := by unfold p_impl_bit; exact soundD_of (f := df_impl_bit) (hs := h_impl_bit) (q := q_impl_bit) ob_impl_bit st_impl_bit ck_impl_bit (fun x h => Eq.mp (ou_impl_bit x) h) (fun x => (vu_impl_bit x).symm)
noncomputable def dc_impl_IsHeld : DCode :=
  (.seq [0] (.region [oa 0 2 (.mv (.c (.bool false)))])
  (.seq [3, 0] (.region [oi 0 3 0])
  (.seq [] (.seq [8, 7, 6, 3] (.region [on 0 6 0,
 oa 1 7 (.len (.t 6)),
 oi 2 8 0])
  (.block 0 (.loop [3, 6, 7, 8] 1 (.seq [9, 8, 7, 6, 3] (.region [oa 0 9 (.bin .lss (.t 8) (.t 7))])
  (.seq [8, 7, 6, 3] (.cond (.t 9) .skip (.exit 0))
  (.seq [8, 7, 6, 3] (.block 1 (.seq [8, 7, 6, 5, 3] (.region [oa 0 10 (.indexA 5 (.t 6) (.t 8)),
 ob 1 11 (.loadH (some 5) (.t 10)),
 oa 2 5 (.allocB 0 [(.int .i64 0), (.int .i64 0), (.int .i64 0), (.int .i64 0), (.int .i64 0)]),
 os 3 (.storeB 0 5 (.t 5) (.t 11))])
  (.seq [8, 7, 6, 5, 3] (.seq [32, 8, 7, 6, 5, 3] (.region [oa 0 12 (.fieldA 0 (.t 5)),
 oa 1 13 (.loadB 0 none (.t 12)),
 oa 2 14 (.bin .lss (.t 13) (.c (.int .i64 0))),
 om 3 15 14,
 og 4 16 (.fieldA 0 (.t 5)) 15 false,
 og 5 17 (.loadB 0 none (.t 16)) 15 false,
 og 6 18 (.bin .gtr (.t 17) (.c (.int .i64 31))) 15 false,
 oa 7 19 (.pick (.t 15) (.c (.bool true)) (.t 18)),
 om 8 20 19,
 og 9 21 (.mv (.t 3)) 20 false,
 og 10 22 (.fieldA 0 (.t 5)) 20 false,
 og 11 23 (.loadB 0 none (.t 22)) 20 false,
 ⟨12, some 24, .call false s_impl_bit p_impl_bit D_impl_bit [(.t 21), (.t 23)], (some (20, false)), []⟩,
 og 13 25 (.bin .eql (.t 24) (.c (.int .i64 1))) 20 false,
 oa 14 26 (.pick (.t 20) (.c (.bool true)) (.t 25)),
 om 15 27 26,
 og 16 28 (.fieldA 1 (.t 5)) 27 false,
 og 17 29 (.loadB 0 (some 4) (.t 28)) 27 false,
 ⟨18, some 30, .call false s_impl_IsAction p_impl_IsAction D_impl_IsAction [(.t 29)], (some (27, false)), []⟩,
 og 19 31 (.un .not (.t 30)) 27 false,
 oa 20 32 (.pick (.t 27) (.c (.bool true)) (.t 31))])
  (.cond (.t 32) (.seq [2] (.region [oa 0 2 (.mv (.c (.bool false)))])
  .ret) .skip))
  (.seq [8, 7, 6, 5, 3] (.seq [35, 8, 7, 6, 5, 3] (.region [oa 0 33 (.fieldA 1 (.t 5)),
 oa 1 34 (.fieldA 0 (.t 33)),
 oa 2 35 (.loadB 0 none (.t 34))])
  (.block 2 (.seq [36, 8, 7, 6, 5, 3] (.seq [36, 35, 8, 7, 6, 5, 3] (.region [oa 0 37 (.bin .eql (.t 35) (.c (.int .i64 1))),
 om 1 36 37])
  (.cond (.t 36) .skip (.seq [36, 35, 8, 7, 6, 5, 3] (.region [oa 0 38 (.bin .eql (.t 35) (.c (.int .i64 6))),
 om 1 36 38])
  (.cond (.t 36) .skip (.region [oa 0 39 (.bin .eql (.t 35) (.c (.int .i64 7))),
 om 1 36 39])))))
  (.cond (.t 36) (.seq [2] (.region [oa 0 2 (.mv (.c (.bool false)))])
  .ret) .skip))))
  (.region [om 0 40 3,
 oa 1 41 (.fieldA 0 (.t 5)),
 oa 2 42 (.loadB 0 none (.t 41)),
 oa 3 43 (.bin .shl (.c (.int .i64 1)) (.t 42)),
 oa 4 44 (.bin .or (.t 40) (.t 43)),
 om 5 3 44])))))
  (.region [oa 0 45 (.bin .add (.t 8) (.c (.int .i64 1))),
 om 1 8 45])))))))
  (.seq [2] (.region [oa 0 2 (.mv (.c (.bool true)))])
  .ret))))
noncomputable def df_impl_IsHeld : DFun := ⟨1, 46, 1, true, [.tmp 2], dc_impl_IsHeld⟩
noncomputable def pf_impl_IsHeld : PFun := df_impl_IsHeld.er
noncomputable def f_impl_IsHeld : AFun := pf_impl_IsHeld.er
@[irreducible] noncomputable def s_impl_IsHeld : CallSem := funSem f_impl_IsHeld
@[irreducible] noncomputable def p_impl_IsHeld : PSem := pfunSem pf_impl_IsHeld
theorem sp_impl_IsHeld : SoundP s_impl_IsHeld p_impl_IsHeld := by unfold s_impl_IsHeld p_impl_IsHeld; exact pfun_sound (f := pf_impl_IsHeld) ⟨sp_impl_bit, sp_impl_IsAction, trivial⟩
def h_impl_IsHeld : List HT := [.one .frz (.sl (.cons (.int .i64) (.cons (.int .i64) (.cons (.int .i64) (.cons (.int .i64) (.one (.int .i64)))))))]
def q_impl_IsHeld : QT := .one (.one .own (.bool))
@[irreducible] noncomputable def v_impl_IsHeld (x : List (Int × Int × Int × Int × Int)) : Bool := (shut fun x => fnV df_impl_IsHeld h_impl_IsHeld q_impl_IsHeld x).1 x
@[irreducible] noncomputable def ok_impl_IsHeld (x : List (Int × Int × Int × Int × Int)) : Prop := (shut fun x => fnOk df_impl_IsHeld h_impl_IsHeld q_impl_IsHeld x).1 x
theorem vu_impl_IsHeld (x : List (Int × Int × Int × Int × Int)) : v_impl_IsHeld x = fnV df_impl_IsHeld h_impl_IsHeld q_impl_IsHeld x := by unfold v_impl_IsHeld; exact congrFun (shut _).2 x
theorem ou_impl_IsHeld (x : List (Int × Int × Int × Int × Int)) : ok_impl_IsHeld x = fnOk df_impl_IsHeld h_impl_IsHeld q_impl_IsHeld x := by unfold ok_impl_IsHeld; exact congrFun (shut _).2 x
noncomputable def D_impl_IsHeld : DSem := DSemOf h_impl_IsHeld q_impl_IsHeld ok_impl_IsHeld v_impl_IsHeld
theorem ck_impl_IsHeld (x : List (Int × Int × Int × Int × Int)) : fnChk df_impl_IsHeld h_impl_IsHeld q_impl_IsHeld x = true := by kernel_rfl
theorem ob_impl_IsHeld : AllD df_impl_IsHeld.body.obs := ⟨sd_impl_bit, sd_impl_IsAction, trivial⟩
theorem st_impl_IsHeld : fnSt df_impl_IsHeld h_impl_IsHeld q_impl_IsHeld = true := by kernel_rfl
theorem sd_impl_IsHeld : SoundD p_impl_IsHeld D_impl_IsHeld := by unfold p_impl_IsHeld; exact soundD_of (f := df_impl_IsHeld) (hs := h_impl_IsHeld) (q := q_impl_IsHeld) ob_impl_IsHeld st_impl_IsHeld ck_impl_IsHeld (fun x h => Eq.mp (ou_impl_IsHeld x) h) (fun x => (vu_impl_IsHeld x).symm)
noncomputable def dc_impl_LayersOn : DCode :=
  (.seq [1, 0] (.region [oi 0 4 0])
  (.seq [5, 1, 0] (.region [oi 0 5 1])
  (.seq [5, 1] (.seq [13, 5, 1, 0] (.region [om 0 8 0,
 oa 1 9 (.bin .geq (.t 8) (.c (.int .i64 0))),
 om 2 10 9,
 og 3 11 (.mv (.t 0)) 10 true,
 og 4 12 (.bin .leq (.t 11) (.c (.int .i64 15))) 10 true,
 oa 5 13 (.pick (.t 10) (.t 12) (.c (.bool false)))])
  (.cond (.t 13) (.region [om 0 14 5,
 om 1 15 0,
 oa 2 16 (.bin .or (.t 14) (.t 15)),
 om 3 5 16]) .skip))
  (.seq [5, 1] (.seq [19, 5, 1] (.region [on 0 17 1,
 oc 1 18 s_impl_IsHeld p_impl_IsHeld D_impl_IsHeld [(.t 17)],
 oa 2 19 (.un .not (.t 18))])
  (.cond (.t 19) (.seq [4] (.region [om 0 20 5,
 om 1 4 20])
  .ret) .skip))
  (.seq [5] (.seq [23, 22, 21, 5] (.region [on 0 21 1,
 oa 1 22 (.len (.t 21)),
 oi 2 23 0])
  (.block 0 (.loop [5, 21, 22, 23] 1 (.seq [24, 23, 22, 21, 5] (.region [oa 0 24 (.bin .lss (.t 23) (.t 22))])
  (.seq [23, 22, 21, 5] (.cond (.t 24) .skip (.exit 0))
  (.seq [23, 22, 21, 5] (.block 1 (.seq [23, 22, 21, 7, 5] (.region [oa 0 25 (.indexA 5 (.t 21) (.t 23)),
 ob 1 26 (.loadH (some 5) (.t 25)),
 oa 2 7 (.allocB 0 [(.int .i64 0), (.int .i64 0), (.int .i64 0), (.int .i64 0), (.int .i64 0)]),
 os 3 (.storeB 0 5 (.t 7) (.t 26))])
  (.seq [30, 23, 22, 21, 7, 5] (.region [oa 0 27 (.fieldA 1 (.t 7)),
 oa 1 28 (.fieldA 0 (.t 27)),
 oa 2 29 (.loadB 0 none (.t 28)),
 oa 3 30 (.bin .eql (.t 29) (.c (.int .i64 3)))])
  (.cond (.t 30) (.region [om 0 31 5,
 oa 1 32 (.fieldA 1 (.t 7)),
 oa 2 33 (.fieldA 3 (.t 32)),
 oa 3 34 (.loadB 0 none (.t 33)),
 oa 4 35 (.bin .shl (.c (.int .i64 1)) (.t 34)),
 oa 5 36 (.bin .or (.t 31) (.t 35)),
 om 6 5 36]) .skip))))
  (.region [oa 0 37 (.bin .add (.t 23) (.c (.int .i64 1))),
 om 1 23 37])))))))
  (.seq [4] (.region [om 0 38 5,
 om 1 4 38])
  .ret))))))
noncomputable def df_impl_LayersOn : DFun := ⟨2, 39, 1, true, [.tmp 4], dc_impl_LayersOn⟩
noncomputable def pf_impl_LayersOn : PFun := df_impl_LayersOn.er
noncomputable def f_impl_LayersOn : AFun := pf_impl_LayersOn.er
@[irreducible] noncomputable def s_impl_LayersOn : CallSem := funSem f_impl_LayersOn
@[irreducible] noncomputable def p_impl_LayersOn : PSem := pfunSem pf_impl_LayersOn
theorem sp_impl_LayersOn : SoundP s_impl_LayersOn p_impl_LayersOn := by unfold s_impl_LayersOn p_impl_LayersOn; exact pfun_sound (f := pf_impl_LayersOn) ⟨sp_impl_IsHeld, trivial⟩
def h_impl_LayersOn : List HT := [.one .frz (.int .i64), .one .frz (.sl (.cons (.int .i64) (.cons (.int .i64) (.cons (.int .i64) (.cons (.int .i64) (.one (.int .i64)))))))]
def q_impl_LayersOn : QT := .one (.one .own (.int .i64))
@[irreducible] noncomputable def v_impl_LayersOn (x : Int × (List (Int × Int × Int × Int × Int))) : Int := (shut fun x => fnV df_impl_LayersOn h_impl_LayersOn q_impl_LayersOn x).1 x
@[irreducible] noncomputable def ok_impl_LayersOn (x : Int × (List (Int × Int × Int × Int × Int))) : Prop := (shut fun x => fnOk df_impl_LayersOn h_impl_LayersOn q_impl_LayersOn x).1 x
theorem vu_impl_LayersOn (x : Int × (List (Int × Int × Int × Int × Int))) : v_impl_LayersOn x = fnV df_impl_LayersOn h_impl_LayersOn q_impl_LayersOn x := by unfold v_impl_LayersOn; exact congrFun (shut _).2 x
theorem ou_impl_LayersOn (x : Int × (List (Int × Int × Int × Int × Int))) : ok_impl_LayersOn x = fnOk df_impl_LayersOn h_impl_LayersOn q_impl_LayersOn x := by unfold ok_impl_LayersOn; exact congrFun (shut _).2 x
noncomputable def D_impl_LayersOn : DSem := DSemOf h_impl_LayersOn q_impl_LayersOn ok_impl_LayersOn v_impl_LayersOn
theorem ck_impl_LayersOn (x : Int × (List (Int × Int × Int × Int × Int))) : fnChk df_impl_LayersOn h_impl_LayersOn q_impl_LayersOn x = true := by kernel_rfl
theorem ob_impl_LayersOn : AllD df_impl_LayersOn.body.obs := ⟨sd_impl_IsHeld, trivial⟩
theorem st_impl_LayersOn : fnSt df_impl_LayersOn h_impl_LayersOn q_impl_LayersOn = true := by kernel_rfl
theorem sd_impl_LayersOn : SoundD p_impl_LayersOn D_impl_LayersOn := by unfold p_impl_LayersOn; exact soundD_of (f := df_impl_LayersOn) (hs := h_impl_LayersOn) (q := q_impl_LayersOn) ob_impl_LayersOn st_impl_LayersOn ck_impl_LayersOn (fun x h => Eq.mp (ou_impl_LayersOn x) h) (fun x => (vu_impl_LayersOn x).symm)
end
section
set_option maxRecDepth 100000
theorem ve_spec_IsTapHold (x : Int × Int × Int × Int) : v_spec_IsTapHold x = (bAnd (v_spec_IsAction (x.1, x.2.1, x.2.2.1, x.2.2.2)) (bOr (iEq x.1 6) (iEq x.1 7))) := (vu_spec_IsTapHold x).trans (by kernel_rfl)
theorem oe_spec_IsTapHold (x : Int × Int × Int × Int) : ok_spec_IsTapHold x = (ok_spec_IsAction (x.1, x.2.1, x.2.2.1, x.2.2.2)) := (ou_spec_IsTapHold x).trans (by kernel_rfl)
theorem ve_spec_IsHeld (x : List (Int × Int × Int × Int × Int)) : v_spec_IsHeld x = (bNot (iLt (loopV (fun (x0 : (Int × Int)) => (bAnd (iLt x0.2 (lLen x)) (bNot (bOr (bNot (v_spec_l1In ((lGet x (iNat x0.2) (0, 0, 0, 0, 0)).1, 0, 31))) (bOr (iEq (iAnd Go.IntKind.i64 (iShr Go.IntKind.i64 x0.1 (lGet x (iNat x0.2) (0, 0, 0, 0, 0)).1) 1) 1) (bOr (bNot (v_spec_IsAction ((lGet x (iNat x0.2) (0, 0, 0, 0, 0)).2.1, (lGet x (iNat x0.2) (0, 0, 0, 0, 0)).2.2.1, (lGet x (iNat x0.2) (0, 0, 0, 0, 0)).2.2.2.1, (lGet x (iNat x0.2) (0, 0, 0, 0, 0)).2.2.2.2))) (bOr (iEq (lGet x (iNat x0.2) (0, 0, 0, 0, 0)).2.1 1) (v_spec_IsTapHold ((lGet x (iNat x0.2) (0, 0, 0, 0, 0)).2.1, (lGet x (iNat x0.2) (0, 0, 0, 0, 0)).2.2.1, (lGet x (iNat x0.2) (0, 0, 0, 0, 0)).2.2.2.1, (lGet x (iNat x0.2) (0, 0, 0, 0, 0)).2.2.2.2))))))))) (fun (x0 : (Int × Int)) => ((iOr Go.IntKind.i64 x0.1 (iShl Go.IntKind.i64 1 (lGet x (iNat x0.2) (0, 0, 0, 0, 0)).1)), (iAdd Go.IntKind.i64 x0.2 1))) (0, 0)).2 (lLen x))) := (vu_spec_IsHeld x).trans (by kernel_rfl)
theorem oe_spec_IsHeld (x : List (Int × Int × Int × Int × Int)) : ok_spec_IsHeld x = (LoopOk (fun (x0 : (Int × Int)) => (bAnd (iLt x0.2 (lLen x)) (bNot (bOr (bNot (v_spec_l1In ((lGet x (iNat x0.2) (0, 0, 0, 0, 0)).1, 0, 31))) (bOr (iEq (iAnd Go.IntKind.i64 (iShr Go.IntKind.i64 x0.1 (lGet x (iNat x0.2) (0, 0, 0, 0, 0)).1) 1) 1) (bOr (bNot (v_spec_IsAction ((lGet x (iNat x0.2) (0, 0, 0, 0, 0)).2.1, (lGet x (iNat x0.2) (0, 0, 0, 0, 0)).2.2.1, (lGet x (iNat x0.2) (0, 0, 0, 0, 0)).2.2.2.1, (lGet x (iNat x0.2) (0, 0, 0, 0, 0)).2.2.2.2))) (bOr (iEq (lGet x (iNat x0.2) (0, 0, 0, 0, 0)).2.1 1) (v_spec_IsTapHold ((lGet x (iNat x0.2) (0, 0, 0, 0, 0)).2.1, (lGet x (iNat x0.2) (0, 0, 0, 0, 0)).2.2.1, (lGet x (iNat x0.2) (0, 0, 0, 0, 0)).2.2.2.1, (lGet x (iNat x0.2) (0, 0, 0, 0, 0)).2.2.2.2))))))))) (fun (x0 : (Int × Int)) => ((iOr Go.IntKind.i64 x0.1 (iShl Go.IntKind.i64 1 (lGet x (iNat x0.2) (0, 0, 0, 0, 0)).1)), (iAdd Go.IntKind.i64 x0.2 1))) (fun (x0 : (Int × Int)) => (((iLt x0.2 (lLen x)) = true → ((((0 : Int) ≤ x0.2) ∧ (x0.2 < (((List.length x) : Int)))) ∧ (((iNat x0.2) < (List.length x)) ∧ (((((0 : Int) ≤ x0.2) ∧ (x0.2 < (((List.length x) : Int)))) ∧ (((iNat x0.2) < (List.length x)) ∧ ((ok_spec_l1In ((lGet x (iNat x0.2) (0, 0, 0, 0, 0)).1, 0, 31)) ∧ (((bNot (v_spec_l1In ((lGet x (iNat x0.2) (0, 0, 0, 0, 0)).1, 0, 31))) = true → True) ∧ ((bNot (v_spec_l1In ((lGet x (iNat x0.2) (0, 0, 0, 0, 0)).1, 0, 31))) = false → ((((0 : Int) ≤ x0.2) ∧ (x0.2 < (((List.length x) : Int)))) ∧ (((iNat x0.2) < (List.length x)) ∧ (((0 : Int) ≤ (lGet x (iNat x0.2) (0, 0, 0, 0, 0)).1) ∧ (((iEq (iAnd Go.IntKind.i64 (iShr Go.IntKind.i64 x0.1 (lGet x (iNat x0.2) (0, 0, 0, 0, 0)).1) 1) 1) = true → True) ∧ ((iEq (iAnd Go.IntKind.i64 (iShr Go.IntKind.i64 x0.1 (lGet x (iNat x0.2) (0, 0, 0, 0, 0)).1) 1) 1) = false → ((ok_spec_IsAction ((lGet x (iNat x0.2) (0, 0, 0, 0, 0)).2.1, (lGet x (iNat x0.2) (0, 0, 0, 0, 0)).2.2.1, (lGet x (iNat x0.2) (0, 0, 0, 0, 0)).2.2.2.1, (lGet x (iNat x0.2) (0, 0, 0, 0, 0)).2.2.2.2)) ∧ (((bNot (v_spec_IsAction ((lGet x (iNat x0.2) (0, 0, 0, 0, 0)).2.1, (lGet x (iNat x0.2) (0, 0, 0, 0, 0)).2.2.1, (lGet x (iNat x0.2) (0, 0, 0, 0, 0)).2.2.2.1, (lGet x (iNat x0.2) (0, 0, 0, 0, 0)).2.2.2.2))) = true → True) ∧ ((bNot (v_spec_IsAction ((lGet x (iNat x0.2) (0, 0, 0, 0, 0)).2.1, (lGet x (iNat x0.2) (0, 0, 0, 0, 0)).2.2.1, (lGet x (iNat x0.2) (0, 0, 0, 0, 0)).2.2.2.1, (lGet x (iNat x0.2) (0, 0, 0, 0, 0)).2.2.2.2))) = false → (((iEq (lGet x (iNat x0.2) (0, 0, 0, 0, 0)).2.1 1) = true → True) ∧ ((iEq (lGet x (iNat x0.2) (0, 0, 0, 0, 0)).2.1 1) = false → (ok_spec_IsTapHold ((lGet x (iNat x0.2) (0, 0, 0, 0, 0)).2.1, (lGet x (iNat x0.2) (0, 0, 0, 0, 0)).2.2.1, (lGet x (iNat x0.2) (0, 0, 0, 0, 0)).2.2.2.1, (lGet x (iNat x0.2) (0, 0, 0, 0, 0)).2.2.2.2))))))))))))))))) ∧ (((bOr (bNot (v_spec_l1In ((lGet x (iNat x0.2) (0, 0, 0, 0, 0)).1, 0, 31))) (bOr (iEq (iAnd Go.IntKind.i64 (iShr Go.IntKind.i64 x0.1 (lGet x (iNat x0.2) (0, 0, 0, 0, 0)).1) 1) 1) (bOr (bNot (v_spec_IsAction ((lGet x (iNat x0.2) (0, 0, 0, 0, 0)).2.1, (lGet x (iNat x0.2) (0, 0, 0, 0, 0)).2.2.1, (lGet x (iNat x0.2) (0, 0, 0, 0, 0)).2.2.2.1, (lGet x (iNat x0.2) (0, 0, 0, 0, 0)).2.2.2.2))) (bOr (iEq (lGet x (iNat x0.2) (0, 0, 0, 0, 0)).2.1 1) (v_spec_IsTapHold ((lGet x (iNat x0.2) (0, 0, 0, 0, 0)).2.1, (lGet x (iNat x0.2) (0, 0, 0, 0, 0)).2.2.1, (lGet x (iNat x0.2) (0, 0, 0, 0, 0)).2.2.2.1, (lGet x (iNat x0.2) (0, 0, 0, 0, 0)).2.2.2.2)))))) = true → True) ∧ ((bOr (bNot (v_spec_l1In ((lGet x (iNat x0.2) (0, 0, 0, 0, 0)).1, 0, 31))) (bOr (iEq (iAnd Go.IntKind.i64 (iShr Go.IntKind.i64 x0.1 (lGet x (iNat x0.2) (0, 0, 0, 0, 0)).1) 1) 1) (bOr (bNot (v_spec_IsAction ((lGet x (iNat x0.2) (0, 0, 0, 0, 0)).2.1, (lGet x (iNat x0.2) (0, 0, 0, 0, 0)).2.2.1, (lGet x (iNat x0.2) (0, 0, 0, 0, 0)).2.2.2.1, (lGet x (iNat x0.2) (0, 0, 0, 0, 0)).2.2.2.2))) (bOr (iEq (lGet x (iNat x0.2) (0, 0, 0, 0, 0)).2.1 1) (v_spec_IsTapHold ((lGet x (iNat x0.2) (0, 0, 0, 0, 0)).2.1, (lGet x (iNat x0.2) (0, 0, 0, 0, 0)).2.2.1, (lGet x (iNat x0.2) (0, 0, 0, 0, 0)).2.2.2.1, (lGet x (iNat x0.2) (0, 0, 0, 0, 0)).2.2.2.2)))))) = false → ((((0 : Int) ≤ x0.2) ∧ (x0.2 < (((List.length x) : Int)))) ∧ (((iNat x0.2) < (List.length x)) ∧ ((0 : Int) ≤ (lGet x (iNat x0.2) (0, 0, 0, 0, 0)).1))))))))) ∧ ((iLt x0.2 (lLen x)) = false → True))) (0, 0)) := (ou_spec_IsHeld x).trans (by kernel_rfl)
theorem ve_impl_bit (x : Int × Int) : v_impl_bit x = (iAnd Go.IntKind.i64 (iShr Go.IntKind.i64 x.1 x.2) 1) := (vu_impl_bit x).trans (by kernel_rfl)
theorem oe_impl_bit (x : Int × Int) : ok_impl_bit x = ((0 : Int) ≤ x.2) := (ou_impl_bit x).trans (by kernel_rfl)
theorem ve_impl_IsHeld (x : List (Int × Int × Int × Int × Int)) : v_impl_IsHeld x = (bNot (iLt (loopV (fun (x0 : (Int × Int)) => (bAnd (iLt x0.2 (lLen x)) (bAnd (bNot (bOr (iLt (lGet x (iNat x0.2) (0, 0, 0, 0, 0)).1 0) (bOr (iGt (lGet x (iNat x0.2) (0, 0, 0, 0, 0)).1 31) (bOr (iEq (v_impl_bit (x0.1, (lGet x (iNat x0.2) (0, 0, 0, 0, 0)).1)) 1) (bNot (v_impl_IsAction ((lGet x (iNat x0.2) (0, 0, 0, 0, 0)).2.1, (lGet x (iNat x0.2) (0, 0, 0, 0, 0)).2.2.1, (lGet x (iNat x0.2) (0, 0, 0, 0, 0)).2.2.2.1, (lGet x (iNat x0.2) (0, 0, 0, 0, 0)).2.2.2.2))))))) (bNot (bOr (iEq (lGet x (iNat x0.2) (0, 0, 0, 0, 0)).2.1 1) (bOr (iEq (lGet x (iNat x0.2) (0, 0, 0, 0, 0)).2.1 6) (iEq (lGet x (iNat x0.2) (0, 0, 0, 0, 0)).2.1 7))))))) (fun (x0 : (Int × Int)) => ((iOr Go.IntKind.i64 x0.1 (iShl Go.IntKind.i64 1 (lGet x (iNat x0.2) (0, 0, 0, 0, 0)).1)), (iAdd Go.IntKind.i64 x0.2 1))) (0, 0)).2 (lLen x))) := (vu_impl_IsHeld x).trans (by kernel_rfl)
theorem oe_impl_IsHeld (x : List (Int × Int × Int × Int × Int)) : ok_impl_IsHeld x = (LoopOk (fun (x0 : (Int × Int)) => (bAnd (iLt x0.2 (lLen x)) (bAnd (bNot (bOr (iLt (lGet x (iNat x0.2) (0, 0, 0, 0, 0)).1 0) (bOr (iGt (lGet x (iNat x0.2) (0, 0, 0, 0, 0)).1 31) (bOr (iEq (v_impl_bit (x0.1, (lGet x (iNat x0.2) (0, 0, 0, 0, 0)).1)) 1) (bNot (v_impl_IsAction ((lGet x (iNat x0.2) (0, 0, 0, 0, 0)).2.1, (lGet x (iNat x0.2) (0, 0, 0, 0, 0)).2.2.1, (lGet x (iNat x0.2) (0, 0, 0, 0, 0)).2.2.2.1, (lGet x (iNat x0.2) (0, 0, 0, 0, 0)).2.2.2.2))))))) (bNot (bOr (iEq (lGet x (iNat x0.2) (0, 0, 0, 0, 0)).2.1 1) (bOr (iEq (lGet x (iNat x0.2) (0, 0, 0, 0, 0)).2.1 6) (iEq (lGet x (iNat x0.2) (0, 0, 0, 0, 0)).2.1 7))))))) (fun (x0 : (Int × Int)) => ((iOr Go.IntKind.i64 x0.1 (iShl Go.IntKind.i64 1 (lGet x (iNat x0.2) (0, 0, 0, 0, 0)).1)), (iAdd Go.IntKind.i64 x0.2 1))) (fun (x0 : (Int × Int)) => (((iLt x0.2 (lLen x)) = true → ((((0 : Int) ≤ x0.2) ∧ (x0.2 < (((List.length x) : Int)))) ∧ (((iNat x0.2) < (List.length x)) ∧ ((((iLt (lGet x (iNat x0.2) (0, 0, 0, 0, 0)).1 0) = true → True) ∧ ((iLt (lGet x (iNat x0.2) (0, 0, 0, 0, 0)).1 0) = false → (((iGt (lGet x (iNat x0.2) (0, 0, 0, 0, 0)).1 31) = true → True) ∧ ((iGt (lGet x (iNat x0.2) (0, 0, 0, 0, 0)).1 31) = false → ((ok_impl_bit (x0.1, (lGet x (iNat x0.2) (0, 0, 0, 0, 0)).1)) ∧ (((iEq (v_impl_bit (x0.1, (lGet x (iNat x0.2) (0, 0, 0, 0, 0)).1)) 1) = true → True) ∧ ((iEq (v_impl_bit (x0.1, (lGet x (iNat x0.2) (0, 0, 0, 0, 0)).1)) 1) = false → (ok_impl_IsAction ((lGet x (iNat x0.2) (0, 0, 0, 0, 0)).2.1, (lGet x (iNat x0.2) (0, 0, 0, 0, 0)).2.2.1, (lGet x (iNat x0.2) (0, 0, 0, 0, 0)).2.2.2.1, (lGet x (iNat x0.2) (0, 0, 0, 0, 0)).2.2.2.2))))))))) ∧ (((bOr (iLt (lGet x (iNat x0.2) (0, 0, 0, 0, 0)).1 0) (bOr (iGt (lGet x (iNat x0.2) (0, 0, 0, 0, 0)).1 31) (bOr (iEq (v_impl_bit (x0.1, (lGet x (iNat x0.2) (0, 0, 0, 0, 0)).1)) 1) (bNot (v_impl_IsAction ((lGet x (iNat x0.2) (0, 0, 0, 0, 0)).2.1, (lGet x (iNat x0.2) (0, 0, 0, 0, 0)).2.2.1, (lGet x (iNat x0.2) (0, 0, 0, 0, 0)).2.2.2.1, (lGet x (iNat x0.2) (0, 0, 0, 0, 0)).2.2.2.2)))))) = true → True) ∧ ((bOr (iLt (lGet x (iNat x0.2) (0, 0, 0, 0, 0)).1 0) (bOr (iGt (lGet x (iNat x0.2) (0, 0, 0, 0, 0)).1 31) (bOr (iEq (v_impl_bit (x0.1, (lGet x (iNat x0.2) (0, 0, 0, 0, 0)).1)) 1) (bNot (v_impl_IsAction ((lGet x (iNat x0.2) (0, 0, 0, 0, 0)).2.1, (lGet x (iNat x0.2) (0, 0, 0, 0, 0)).2.2.1, (lGet x (iNat x0.2) (0, 0, 0, 0, 0)).2.2.2.1, (lGet x (iNat x0.2) (0, 0, 0, 0, 0)).2.2.2.2)))))) = false → (((bOr (iEq (lGet x (iNat x0.2) (0, 0, 0, 0, 0)).2.1 1) (bOr (iEq (lGet x (iNat x0.2) (0, 0, 0, 0, 0)).2.1 6) (iEq (lGet x (iNat x0.2) (0, 0, 0, 0, 0)).2.1 7))) = true → True) ∧ ((bOr (iEq (lGet x (iNat x0.2) (0, 0, 0, 0, 0)).2.1 1) (bOr (iEq (lGet x (iNat x0.2) (0, 0, 0, 0, 0)).2.1 6) (iEq (lGet x (iNat x0.2) (0, 0, 0, 0, 0)).2.1 7))) = false → ((0 : Int) ≤ (lGet x (iNat x0.2) (0, 0, 0, 0, 0)).1))))))))) ∧ ((iLt x0.2 (lLen x)) = false → True))) (0, 0)) := (ou_impl_IsHeld x).trans (by kernel_rfl)
theorem ve_impl_LayersOn (x : Int × (List (Int × Int × Int × Int × Int))) : v_impl_LayersOn x = (bSel (bNot (v_impl_IsHeld x.2)) (bSel (bAnd (iGe x.1 0) (iLe x.1 15)) (iOr Go.IntKind.i64 1 x.1) 1) (loopV (fun (x0 : (Int × Int)) => (iLt x0.2 (lLen x.2))) (fun (x0 : (Int × Int)) => ((bSel (iEq (lGet x.2 (iNat x0.2) (0, 0, 0, 0, 0)).2.1 3) (iOr Go.IntKind.i64 x0.1 (iShl Go.IntKind.i64 1 (lGet x.2 (iNat x0.2) (0, 0, 0, 0, 0)).2.2.2.2)) x0.1), (iAdd Go.IntKind.i64 x0.2 1))) ((bSel (bAnd (iGe x.1 0) (iLe x.1 15)) (iOr Go.IntKind.i64 1 x.1) 1), 0)).1) := (vu_impl_LayersOn x).trans (by kernel_rfl)
theorem oe_impl_LayersOn (x : Int × (List (Int × Int × Int × Int × Int))) : ok_impl_LayersOn x = ((ok_impl_IsHeld x.2) ∧ (((bNot (v_impl_IsHeld x.2)) = true → True) ∧ ((bNot (v_impl_IsHeld x.2)) = false → (LoopOk (fun (x0 : (Int × Int)) => (iLt x0.2 (lLen x.2))) (fun (x0 : (Int × Int)) => ((bSel (iEq (lGet x.2 (iNat x0.2) (0, 0, 0, 0, 0)).2.1 3) (iOr Go.IntKind.i64 x0.1 (iShl Go.IntKind.i64 1 (lGet x.2 (iNat x0.2) (0, 0, 0, 0, 0)).2.2.2.2)) x0.1), (iAdd Go.IntKind.i64 x0.2 1))) (fun (x0 : (Int × Int)) => (((iLt x0.2 (lLen x.2)) = true → ((((0 : Int) ≤ x0.2) ∧ (x0.2 < (((List.length x.2) : Int)))) ∧ (((iNat x0.2) < (List.length x.2)) ∧ (((iEq (lGet x.2 (iNat x0.2) (0, 0, 0, 0, 0)).2.1 3) = true → ((0 : Int) ≤ (lGet x.2 (iNat x0.2) (0, 0, 0, 0, 0)).2.2.2.2)) ∧ ((iEq (lGet x.2 (iNat x0.2) (0, 0, 0, 0, 0)).2.1 3) = false → True))))) ∧ ((iLt x0.2 (lLen x.2)) = false → True))) ((bSel (bAnd (iGe x.1 0) (iLe x.1 15)) (iOr Go.IntKind.i64 1 x.1) 1), 0))))) := (ou_impl_LayersOn x).trans (by kernel_rfl)
end
theorem ok_TapHold (x) : ok_spec_IsTapHold x := by rw [oe_spec_IsTapHold]; exact ok_spec_IsAction_t _
theorem isHeld_eq (x : List (Int × Int × Int × Int × Int)) : v_spec_IsHeld x = v_impl_IsHeld x := by
  rw [ve_spec_IsHeld, ve_impl_IsHeld]
  have : ∀ {c c' : Int × Int → Bool} {f : Int × Int → Int × Int} {a : Int × Int} {n : Int}, (∀ x, c x = c' x) → bNot (iLt (loopV c f a).2 n) = bNot (iLt (loopV c' f a).2 n) := by
    intro c c' f a n h; rw [funext h]
  apply this
  intro st
  rw [Bool.eq_iff_iff]
  simp only [ve_spec_IsTapHold, isAction_eq, l1In_eq, ve_impl_bit, bNot_eq, bAnd_eq, bOr_eq, iEq_eq, iLt_eq, iGt_eq, Bool.and_eq_true, Bool.or_eq_true, Bool.not_eq_true', Bool.not_eq_false', Bool.and_eq_false_iff, Bool.or_eq_false_iff, decide_eq_true_eq, decide_eq_false_iff_not, Bool.not_eq_true, Bool.not_eq_false, beq_iff_eq, beq_eq_false_iff_ne]
  generalize v_impl_IsAction _ = A
  cases A <;> simp <;> omega
theorem ok_spec_IsHeld_t (x : List (Int × Int × Int × Int × Int)) (h : x.length ≤ 1048576) : ok_spec_IsHeld x := by
  rw [oe_spec_IsHeld]
  refine cnt_ok (fun st => st.2) x.length (by omega) (fun st _ _ hc => ?_) (fun st => rfl) (fun st h0 h1 => ?_) (by simp) (by simp)
  · simp only [bAnd_eq, iLt_eq, lLen_eq, Bool.and_eq_true, decide_eq_true_eq] at hc
    exact hc.1
  · refine ⟨fun hlt => ?_, fun _ => trivial⟩
    simp only [iLt_eq, lLen_eq, decide_eq_true_eq] at hlt
    have h3 : st.2.toNat < x.length := by omega
    simp only [l1In_eq, iNat_eq, h3, h0, hlt, ok_l1In, ok_TapHold, ok_spec_IsAction_t, true_and, implies_true, and_true, bNot_eq, bOr_eq, Bool.and_eq_true, Bool.or_eq_true, Bool.not_eq_true', Bool.not_eq_false', Bool.and_eq_false_iff, Bool.or_eq_false_iff, decide_eq_true_eq, decide_eq_false_iff_not, Bool.not_eq_true, Bool.not_eq_false, beq_iff_eq, beq_eq_false_iff_ne, Bool.not_eq_false', Bool.or_eq_false_iff]
    exact ⟨fun hh => hh.1, fun hh => hh.1.1⟩
theorem ok_impl_IsHeld_t (x : List (Int × Int × Int × Int × Int)) (h : x.length ≤ 1048576) : ok_impl_IsHeld x := by
  rw [oe_impl_IsHeld]
  refine cnt_ok (fun st => st.2) x.length (by omega) (fun st _ _ hc => ?_) (fun st => rfl) (fun st h0 h1 => ?_) (by simp) (by simp)
  · simp only [bAnd_eq, iLt_eq, lLen_eq, Bool.and_eq_true, decide_eq_true_eq] at hc
    exact hc.1
  · refine ⟨fun hlt => ?_, fun _ => trivial⟩
    simp only [iLt_eq, lLen_eq, decide_eq_true_eq] at hlt
    have h3 : st.2.toNat < x.length := by omega
    simp only [oe_impl_bit, iNat_eq, h3, h0, hlt, ok_impl_IsAction_t, true_and, implies_true, and_true, iLt_eq, iGt_eq, bNot_eq, bOr_eq, Bool.and_eq_true, Bool.or_eq_true, Bool.not_eq_true', Bool.not_eq_false', Bool.and_eq_false_iff, Bool.or_eq_false_iff, decide_eq_true_eq, decide_eq_false_iff_not, Bool.not_eq_true, Bool.not_eq_false, beq_iff_eq, beq_eq_false_iff_ne, Bool.not_eq_false', Bool.or_eq_false_iff]
    refine ⟨fun h4 h5 => by omega, fun h4 h5 => by omega⟩
def HeldOk (h : Int × Int × Int × Int × Int) : Prop := 0 ≤ h.1 ∧ h.1 ≤ 31 ∧ v_impl_IsAction h.2 = true ∧ h.2.1 ≠ 1 ∧ h.2.1 ≠ 6 ∧ h.2.1 ≠ 7
theorem isHeld_all {x : List (Int × Int × Int × Int × Int)} (hl : x.length ≤ 1048576) (h : v_impl_IsHeld x = true) : ∀ a ∈ x, HeldOk a := by
  rw [ve_impl_IsHeld, bNot_eq, Bool.not_eq_true', iLt_eq _ (lLen x), decide_eq_false_iff_not] at h
  have key := loop_inv_v (c := fun x0 : Int × Int => (bAnd (iLt x0.2 (lLen x)) (bAnd (bNot (bOr (iLt (lGet x (iNat x0.2) (0, 0, 0, 0, 0)).1 0) (bOr (iGt (lGet x (iNat x0.2) (0, 0, 0, 0, 0)).1 31) (bOr (iEq (v_impl_bit (x0.1, (lGet x (iNat x0.2) (0, 0, 0, 0, 0)).1)) 1) (bNot (v_impl_IsAction ((lGet x (iNat x0.2) (0, 0, 0, 0, 0)).2.1, (lGet x (iNat x0.2) (0, 0, 0, 0, 0)).2.2.1, (lGet x (iNat x0.2) (0, 0, 0, 0, 0)).2.2.2.1, (lGet x (iNat x0.2) (0, 0, 0, 0, 0)).2.2.2.2))))))) (bNot (bOr (iEq (lGet x (iNat x0.2) (0, 0, 0, 0, 0)).2.1 1) (bOr (iEq (lGet x (iNat x0.2) (0, 0, 0, 0, 0)).2.1 6) (iEq (lGet x (iNat x0.2) (0, 0, 0, 0, 0)).2.1 7)))))))
    (f := fun x0 => ((iOr Go.IntKind.i64 x0.1 (iShl Go.IntKind.i64 1 (lGet x (iNat x0.2) (0, 0, 0, 0, 0)).1)), (iAdd Go.IntKind.i64 x0.2 1)))
    (fun st => ∃ i : Nat, st.2 = i ∧ i ≤ x.length ∧ ∀ j, j < i → HeldOk (x.getD j (0, 0, 0, 0, 0))) (fun st => x.length - st.2.toNat) (fun st hI hc => ?_) (x0 := (0, 0)) ⟨0, rfl, Nat.zero_le _, fun j hj => by omega⟩
  · obtain ⟨⟨i, k1, k2, k3⟩, _⟩ := key
    rw [k1, lLen_eq] at h
    have : i = x.length := by omega
    subst this
    intro a ha
    obtain ⟨j, hj, rfl⟩ := List.getElem_of_mem ha
    have := k3 j hj
    rw [List.getD_eq_getElem?_getD, List.getElem?_eq_getElem hj] at this
    exact this
  · obtain ⟨i, k1, k2, k3⟩ := hI
    obtain ⟨s, j⟩ := st
    simp only at k1
    subst k1
    simp only [bAnd_eq, bNot_eq, bOr_eq, iLt_eq, iGt_eq, iEq_eq, lLen_eq, lGet_eq, iNat_eq, Int.toNat_natCast, Bool.and_eq_true, Bool.not_eq_true', Bool.or_eq_false_iff, decide_eq_true_eq, decide_eq_false_iff_not, Bool.not_eq_false'] at hc
    obtain ⟨c1, ⟨c2, c3, _, c5⟩, c6, c7, c8⟩ := hc
    refine ⟨⟨i + 1, ?_, by omega, fun j hj => ?_⟩, ?_⟩
    · simp only; rw [iAdd_i64 (by unfold In64; omega)]; omega
    · by_cases hji : j = i
      · subst hji; exact ⟨by omega, by omega, c5, c6, c7, c8⟩
      · exact k3 j (by omega)
    · simp only; rw [iAdd_i64 (by unfold In64; omega)]; omega
theorem isAction_mo {a : Int × Int × Int × Int} (h : v_impl_IsAction a = true) (hk : a.1 = 3) : a.2.1 = 0 ∧ a.2.2.1 = 0 ∧ 1 ≤ a.2.2.2 ∧ a.2.2.2 ≤ 3 := by
  rw [ve_impl_IsAction] at h
  simp only [ve_impl_isUpper, ve_impl_isCode, ve_impl_isMods, hk, bNot_eq, bAnd_eq, bOr_eq, bIff_eq, bSel_eq, iEq_eq, iNe_eq, iLt_eq, iLe_eq, iGt_eq, iGe_eq, sEq_eq, sNe_eq, lLen_eq, lN_eq, lGet_eq, lSet_eq, lSub_eq, lTake_eq, lApp_eq, lRep_eq, iNat_eq, sAdd_eq] at h
  simp at h
  omega
theorem ok_impl_LayersOn_t (f : Int) (x : List (Int × Int × Int × Int × Int)) (h : x.length ≤ 1048576) : ok_impl_LayersOn (f, x) := by
  rw [oe_impl_LayersOn]
  refine ⟨ok_impl_IsHeld_t x h, fun _ => trivial, fun hh => ?_⟩
  have hh : v_impl_IsHeld x = true := by simpa [bNot_eq] using hh
  refine cnt_ok (fun st => st.2) x.length (by omega) (fun st _ _ hc => ?_) (fun st => rfl) (fun st h0 h1 => ?_) (by simp) (by simp)
  · simp only [iLt_eq, lLen_eq, decide_eq_true_eq] at hc
    exact hc
  · refine ⟨fun hlt => ?_, fun _ => trivial⟩
    simp only [iLt_eq, lLen_eq, decide_eq_true_eq] at hlt
    have h3 : st.2.toNat < x.length := by omega
    simp only [iNat_eq, lGet_eq, h3, h0, hlt, true_and, implies_true, and_true, iEq_eq, decide_eq_true_eq]
    intro hk
    have := isHeld_all h hh _ (getD_mem x st.2.toNat (0, 0, 0, 0, 0) h3)
    have := isAction_mo this.2.2.1 hk
    omega
section
set_option maxRecDepth 8000
noncomputable def dc_spec_SameReport : DCode :=
  (.seq [3, 2] (.region [oa 0 2 (.boxB 0 2 (.t 0)),
 oa 1 3 (.boxB 1 2 (.t 1)),
 oa 2 4 (.mv (.c (.bool false)))])
  (.seq [3, 2] (.seq [19, 3, 2] (.region [oa 0 6 (.fieldA 0 (.t 2)),
 oa 1 7 (.loadB 0 none (.t 6)),
 oa 2 8 (.fieldA 0 (.t 3)),
 oa 3 9 (.loadB 1 none (.t 8)),
 oa 4 10 (.bin .neq (.t 7) (.t 9)),
 om 5 11 10,
 og 6 12 (.fieldA 1 (.t 2)) 11 false,
 og 7 13 (.loadB 0 none (.t 12)) 11 false,
 og 8 14 (.len (.t 13)) 11 false,
 og 9 15 (.fieldA 1 (.t 3)) 11 false,
 og 10 16 (.loadB 1 none (.t 15)) 11 false,
 og 11 17 (.len (.t 16)) 11 false,
 og 12 18 (.bin .neq (.t 14) (.t 17)) 11 false,
 oa 13 19 (.pick (.t 11) (.c (.bool true)) (.t 18))])
  (.cond (.t 19) (.seq [4] (.region [oa 0 4 (.mv (.c (.bool false)))])
  .ret) .skip))
  (.seq [] (.seq [5, 3, 2] (.region [oi 0 5 0])
  (.block 0 (.loop [2, 3, 5] 1 (.seq [5, 3, 2] (.seq [24, 5, 3, 2] (.region [om 0 20 5,
 oa 1 21 (.fieldA 1 (.t 2)),
 oa 2 22 (.loadB 0 none (.t 21)),
 oa 3 23 (.len (.t 22)),
 oa 4 24 (.bin .lss (.t 20) (.t 23))])
  (.cond (.t 24) .skip (.exit 0)))
  (.seq [5, 3, 2] (.block 1 (.seq [37, 5, 3, 2] (.region [oa 0 27 (.fieldA 1 (.t 2)),
 xA 1 28 (.loadB 0 none (.t 27)) (rg 1),
 om 2 29 5,
 xA 3 30 (.indexA 1 (.t 28) (.t 29)) (rg 3),
 xA 4 31 (.loadH none (.t 30)) (rg 4),
 oa 5 32 (.fieldA 1 (.t 3)),
 xA 6 33 (.loadB 1 none (.t 32)) [5],
 om 7 34 5,
 xA 8 35 (.indexA 1 (.t 33) (.t 34)) [5, 6, 7],
 xA 9 36 (.loadH none (.t 35)) [5, 6, 7, 8],
 xA 10 37 (.bin .neq (.t 31) (.t 36)) (rg 10)])
  (.cond (.t 37) (.seq [4] (.region [oa 0 4 (.mv (.c (.bool false)))])
  .ret) .skip)))
  (.region [om 0 25 5,
 oa 1 26 (.bin .add (.t 25) (.c (.int .i64 1))),
 om 2 5 26]))))))
  (.seq [4] (.region [oa 0 4 (.mv (.c (.bool true)))])
  .ret))))
noncomputable def df_spec_SameReport : DFun := ⟨2, 38, 2, true, [.tmp 4], dc_spec_SameReport⟩
def h_spec_SameReport : List HT := [.agg [(.frz, .int .i64), (.frz, .sl (.one (.int .i64)))], .agg [(.frz, .int .i64), (.frz, .sl (.one (.int .i64)))]]
def q_spec_SameReport : QT := .one (.one .own (.bool))
@[irreducible] noncomputable def ok_spec_SameReport (x : (Int × List (Int)) × (Int × List (Int))) : Prop := (shut fun x => fnOk df_spec_SameReport h_spec_SameReport q_spec_SameReport x).1 x
theorem ou_spec_SameReport (x : (Int × List (Int)) × (Int × List (Int))) : ok_spec_SameReport x = fnOk df_spec_SameReport h_spec_SameReport q_spec_SameReport x := by unfold ok_spec_SameReport; exact congrFun (shut _).2 x
noncomputable def dc_impl_sameInts : DCode :=
  (.seq [1, 0] (.region [oa 0 4 (.mv (.c (.bool false)))])
  (.seq [1, 0] (.seq [10, 1, 0] (.region [on 0 6 0,
 oa 1 7 (.len (.t 6)),
 on 2 8 1,
 oa 3 9 (.len (.t 8)),
 oa 4 10 (.bin .neq (.t 7) (.t 9))])
  (.cond (.t 10) (.seq [4] (.region [oa 0 4 (.mv (.c (.bool false)))])
  .ret) .skip))
  (.seq [] (.seq [13, 12, 1, 0] (.region [on 0 11 0,
 oa 1 12 (.len (.t 11)),
 oi 2 13 0])
  (.block 0 (.loop [0, 1, 12, 13] 1 (.seq [14, 13, 12, 1, 0] (.region [oa 0 14 (.bin .lss (.t 13) (.t 12))])
  (.seq [13, 12, 1, 0] (.cond (.t 14) .skip (.exit 0))
  (.seq [13, 12, 1, 0] (.block 1 (.seq [13, 12, 5, 1, 0] (.region [om 0 15 13,
 om 1 5 15])
  (.seq [24, 13, 12, 1, 0] (.region [on 0 16 0,
 om 1 17 5,
 xA 2 18 (.indexA 1 (.t 16) (.t 17)) (rg 2),
 xA 3 19 (.loadH none (.t 18)) (rg 3),
 on 4 20 1,
 om 5 21 5,
 xA 6 22 (.indexA 1 (.t 20) (.t 21)) [4, 5],
 xA 7 23 (.loadH none (.t 22)) [4, 5, 6],
 xA 8 24 (.bin .neq (.t 19) (.t 23)) (rg 8)])
  (.cond (.t 24) (.seq [4] (.region [oa 0 4 (.mv (.c (.bool false)))])
  .ret) .skip))))
  (.region [oa 0 25 (.bin .add (.t 13) (.c (.int .i64 1))),
 om 1 13 25])))))))
  (.seq [4] (.region [oa 0 4 (.mv (.c (.bool true)))])
  .ret))))
noncomputable def df_impl_sameInts : DFun := ⟨2, 26, 0, true, [.tmp 4], dc_impl_sameInts⟩
noncomputable def pf_impl_sameInts : PFun := df_impl_sameInts.er
noncomputable def f_impl_sameInts : AFun := pf_impl_sameInts.er
@[irreducible] noncomputable def s_impl_sameInts : CallSem := funSem f_impl_sameInts
@[irreducible] noncomputable def p_impl_sameInts : PSem := pfunSem pf_impl_sameInts
theorem sp_impl_sameInts : SoundP s_impl_sameInts p_impl_sameInts := by unfold s_impl_sameInts p_impl_sameInts; exact pfun_sound (f := pf_impl_sameInts) trivial
def h_impl_sameInts : List HT := [.one .frz (.sl (.one (.int .i64))), .one .frz (.sl (.one (.int .i64)))]
def q_impl_sameInts : QT := .one (.one .own (.bool))
@[irreducible] noncomputable def v_impl_sameInts (x : List (Int) × List (Int)) : Bool := (shut fun x => fnV df_impl_sameInts h_impl_sameInts q_impl_sameInts x).1 x
@[irreducible] noncomputable def ok_impl_sameInts (x : List (Int) × List (Int)) : Prop := (shut fun x => fnOk df_impl_sameInts h_impl_sameInts q_impl_sameInts x).1 x
theorem vu_impl_sameInts (x : List (Int) × List (Int)) : v_impl_sameInts x = fnV df_impl_sameInts h_impl_sameInts q_impl_sameInts x := by unfold v_impl_sameInts; exact congrFun (shut _).2 x
theorem ou_impl_sameInts (x : List (Int) × List (Int)) : ok_impl_sameInts x = fnOk df_impl_sameInts h_impl_sameInts q_impl_sameInts x := by unfold ok_impl_sameInts; exact congrFun (shut _).2 x
noncomputable def D_impl_sameInts : DSem := DSemOf h_impl_sameInts q_impl_sameInts ok_impl_sameInts v_impl_sameInts
theorem ck_impl_sameInts (x : List (Int) × List (Int)) : fnChk df_impl_sameInts h_impl_sameInts q_impl_sameInts x = true := by kernel_rfl
theorem ob_impl_sameInts : AllD df_impl_sameInts.body.obs := trivial
theorem st_impl_sameInts : fnSt df_impl_sameInts h_impl_sameInts q_impl_sameInts = true := by kernel_rfl
theorem sd_impl_sameInts : SoundD p_impl_sameInts D_impl_sameInts := by unfold p_impl_sameInts; exact soundD_of (f := df_impl_sameInts) (hs := h_impl_sameInts) (q := q_impl_sameInts) ob_impl_sameInts st_impl_sameInts ck_impl_sameInts (fun x h => Eq.mp (ou_impl_sameInts x) h) (fun x => (vu_impl_sameInts x).symm)
noncomputable def dc_impl_SameReport : DCode :=
  (.seq [3, 2] (.region [oa 0 2 (.boxB 0 2 (.t 0)),
 oa 1 3 (.boxB 1 2 (.t 1)),
 oa 2 4 (.mv (.c (.bool false)))])
  (.seq [4] (.region [oa 0 5 (.fieldA 0 (.t 2)),
 oa 1 6 (.loadB 0 none (.t 5)),
 oa 2 7 (.fieldA 0 (.t 3)),
 oa 3 8 (.loadB 1 none (.t 7)),
 oa 4 9 (.bin .eql (.t 6) (.t 8)),
 om 5 10 9,
 og 6 11 (.fieldA 1 (.t 2)) 10 true,
 og 7 12 (.loadB 0 none (.t 11)) 10 true,
 og 8 13 (.fieldA 1 (.t 3)) 10 true,
 og 9 14 (.loadB 1 none (.t 13)) 10 true,
 ⟨10, some 15, .call false s_impl_sameInts p_impl_sameInts D_impl_sameInts [(.t 12), (.t 14)], (some (10, true)), []⟩,
 oa 11 16 (.pick (.t 10) (.t 15) (.c (.bool false))),
 om 12 4 16])
  .ret))
noncomputable def df_impl_SameReport : DFun := ⟨2, 17, 2, true, [.tmp 4], dc_impl_SameReport⟩
noncomputable def pf_impl_SameReport : PFun := df_impl_SameReport.er
noncomputable def f_impl_SameReport : AFun := pf_impl_SameReport.er
@[irreducible] noncomputable def s_impl_SameReport : CallSem := funSem f_impl_SameReport
@[irreducible] noncomputable def p_impl_SameReport : PSem := pfunSem pf_impl_SameReport
theorem sp_impl_SameReport : SoundP s_impl_SameReport p_impl_SameReport := by unfold s_impl_SameReport p_impl_SameReport; exact pfun_sound (f := pf_impl_SameReport) ⟨sp_impl_sameInts, trivial⟩
def h_impl_SameReport : List HT := [.agg [(.frz, .int .i64), (.frz, .sl (.one (.int .i64)))], .agg [(.frz, .int .i64), (.frz, .sl (.one (.int .i64)))]]
def q_impl_SameReport : QT := .one (.one .own (.bool))
@[irreducible] noncomputable def v_impl_SameReport (x : (Int × List (Int)) × (Int × List (Int))) : Bool := (shut fun x => fnV df_impl_SameReport h_impl_SameReport q_impl_SameReport x).1 x
@[irreducible] noncomputable def ok_impl_SameReport (x : (Int × List (Int)) × (Int × List (Int))) : Prop := (shut fun x => fnOk df_impl_SameReport h_impl_SameReport q_impl_SameReport x).1 x
theorem vu_impl_SameReport (x : (Int × List (Int)) × (Int × List (Int))) : v_impl_SameReport x = fnV df_impl_SameReport h_impl_SameReport q_impl_SameReport x := by unfold v_impl_SameReport; exact congrFun (shut _).2 x
theorem ou_impl_SameReport (x : (Int × List (Int)) × (Int × List (Int))) : ok_impl_SameReport x = fnOk df_impl_SameReport h_impl_SameReport q_impl_SameReport x := by unfold ok_impl_SameReport; exact congrFun (shut _).2 x
noncomputable def D_impl_SameReport : DSem := DSemOf h_impl_SameReport q_impl_SameReport ok_impl_SameReport v_impl_SameReport
theorem ck_impl_SameReport (x : (Int × List (Int)) × (Int × List (Int))) : fnChk df_impl_SameReport h_impl_SameReport q_impl_SameReport x = true := by kernel_rfl
theorem ob_impl_SameReport : AllD df_impl_SameReport.body.obs := ⟨sd_impl_sameInts, trivial⟩
theorem st_impl_SameReport : fnSt df_impl_SameReport h_impl_SameReport q_impl_SameReport = true := by kernel_rfl
theorem sd_impl_SameReport : SoundD p_impl_SameReport D_impl_SameReport := by unfold p_impl_SameReport; exact soundD_of (f := df_impl_SameReport) (hs := h_impl_SameReport) (q := q_impl_SameReport) ob_impl_SameReport st_impl_SameReport ck_impl_SameReport (fun x h => Eq.mp (ou_impl_SameReport x) h) (fun x => (vu_impl_SameReport x).symm)
end
section
set_option maxRecDepth 100000
theorem oe_spec_SameReport (x : (Int × List (Int)) × (Int × List (Int))) : ok_spec_SameReport x = (((bOr (iNe x.1.1 x.2.1) (iNe (lLen x.1.2) (lLen x.2.2))) = true → True) ∧ ((bOr (iNe x.1.1 x.2.1) (iNe (lLen x.1.2) (lLen x.2.2))) = false → (LoopOk (fun (x0 : Int) => (bAnd (iLt x0 (lLen x.1.2)) (bNot (iNe (lGet x.1.2 (iNat x0) 0) (lGet x.2.2 (iNat x0) 0))))) (fun (x0 : Int) => (iAdd Go.IntKind.i64 x0 1)) (fun (x0 : Int) => (((iLt x0 (lLen x.1.2)) = true → ((((0 : Int) ≤ x0) ∧ (x0 < (((List.length x.1.2) : Int)))) ∧ (((iNat x0) < (List.length x.1.2)) ∧ ((((0 : Int) ≤ x0) ∧ (x0 < (((List.length x.2.2) : Int)))) ∧ ((iNat x0) < (List.length x.2.2)))))) ∧ ((iLt x0 (lLen x.1.2)) = false → True))) 0))) := (ou_spec_SameReport x).trans (by kernel_rfl)
theorem ve_impl_sameInts (x : List (Int) × List (Int)) : v_impl_sameInts x = (bAnd (bNot (iNe (lLen x.1) (lLen x.2))) (bNot (iLt (loopV (fun (x0 : Int) => (bAnd (iLt x0 (lLen x.1)) (bNot (iNe (lGet x.1 (iNat x0) 0) (lGet x.2 (iNat x0) 0))))) (fun (x0 : Int) => (iAdd Go.IntKind.i64 x0 1)) 0) (lLen x.1)))) := (vu_impl_sameInts x).trans (by kernel_rfl)
theorem oe_impl_sameInts (x : List (Int) × List (Int)) : ok_impl_sameInts x = (((iNe (lLen x.1) (lLen x.2)) = true → True) ∧ ((iNe (lLen x.1) (lLen x.2)) = false → (LoopOk (fun (x0 : Int) => (bAnd (iLt x0 (lLen x.1)) (bNot (iNe (lGet x.1 (iNat x0) 0) (lGet x.2 (iNat x0) 0))))) (fun (x0 : Int) => (iAdd Go.IntKind.i64 x0 1)) (fun (x0 : Int) => (((iLt x0 (lLen x.1)) = true → ((((0 : Int) ≤ x0) ∧ (x0 < (((List.length x.1) : Int)))) ∧ (((iNat x0) < (List.length x.1)) ∧ ((((0 : Int) ≤ x0) ∧ (x0 < (((List.length x.2) : Int)))) ∧ ((iNat x0) < (List.length x.2)))))) ∧ ((iLt x0 (lLen x.1)) = false → True))) 0))) := (ou_impl_sameInts x).trans (by kernel_rfl)
theorem ve_impl_SameReport (x : (Int × List (Int)) × (Int × List (Int))) : v_impl_SameReport x = (bAnd (iEq x.1.1 x.2.1) (v_impl_sameInts (x.1.2, x.2.2))) := (vu_impl_SameReport x).trans (by kernel_rfl)
theorem oe_impl_SameReport (x : (Int × List (Int)) × (Int × List (Int))) : ok_impl_SameReport x = (((iEq x.1.1 x.2.1) = true → (ok_impl_sameInts (x.1.2, x.2.2))) ∧ ((iEq x.1.1 x.2.1) = false → True)) := (ou_impl_SameReport x).trans (by kernel_rfl)
end
theorem loop_two {X Y : Type} {c : X → Bool} {f : X → X} {p : X → Prop} {d : Y → Bool} {g : Y → Y} {q : Y → Prop} (R : X → Y → Prop) (m : X → Nat)
    (h : ∀ x y, R x y → p x ∧ q y ∧ c x = d y ∧ (c x = true → R (f x) (g y) ∧ m (f x) < m x)) {x0 : X} {y0 : Y} (h0 : R x0 y0) :
    LoopOk c f p x0 ∧ LoopOk d g q y0 ∧ R (loopV c f x0) (loopV d g y0) ∧ c (loopV c f x0) = false := by
  have go : ∀ (n : Nat) (x : X) (y : Y), m x < n → R x y → ∃ u v, LoopTo c f p x u ∧ LoopTo d g q y v ∧ R u v ∧ c u = false := by
    intro n
    induction n with
    | zero => intro x y hm; exact absurd hm (Nat.not_lt_zero _)
    | succ n ih =>
      intro x y hm hR
      obtain ⟨h1, h2, h3, h4⟩ := h x y hR
      cases hc : c x with
      | false => exact ⟨x, y, .stop h1 hc, .stop h2 (by rw [← h3]; exact hc), hR, hc⟩
      | true =>
        obtain ⟨h5, h6⟩ := h4 hc
        obtain ⟨u, v, a1, a2, a3, a4⟩ := ih _ _ (by omega) h5
        exact ⟨u, v, .go h1 hc a1, .go h2 (by rw [← h3]; exact hc) a2, a3, a4⟩
  obtain ⟨u, v, a1, a2, a3, a4⟩ := go _ x0 y0 (Nat.lt_succ_self _) h0
  exact ⟨⟨_, a1⟩, ⟨_, a2⟩, by rw [a1.val, a2.val]; exact a3, by rw [a1.val]; exact a4⟩
theorem loop_one {X : Type} {c : X → Bool} {f : X → X} {p : X → Prop} (I : X → Prop) (m : X → Nat) (h : ∀ x, I x → p x ∧ (c x = true → I (f x) ∧ m (f x) < m x)) {x0 : X} (h0 : I x0) :
    LoopOk c f p x0 ∧ I (loopV c f x0) ∧ c (loopV c f x0) = false := loop_inv I m h h0
theorem scan_st {X : Type} {c : X → Bool} {f : X → X} {p : X → Prop} (n : Nat) (st : Nat → X) (t : Nat → Bool) {x0 : X} (h0 : st 0 = x0) (hc : ∀ i, i ≤ n → (∀ j, j < i → t j = true) → c (st i) = (decide (i < n) && t i)) (hf : ∀ i, i < n → (∀ j, j ≤ i → t j = true) → f (st i) = st (i + 1)) (hp : ∀ i, i ≤ n → (∀ j, j < i → t j = true) → p (st i)) :
    LoopOk c f p x0 ∧ ∃ k, k ≤ n ∧ loopV c f x0 = st k ∧ (k = n ↔ ∀ i, i < n → t i = true) := by
  have hle := firstAt_le (fun i => !t i) n 0
  have hno : ∀ j, j < firstAt (fun i => !t i) n 0 → t j = true := fun j hj => by
    have := firstAt_no (fun i => !t i) n 0 j (by omega) hj
    simpa using this
  have := loop_for (c := c) (f := f) (p := p) (firstAt (fun i => !t i) n 0) st h0 (fun k hk => by
    refine ⟨hp k (by omega) (fun j hj => hno j (by omega)), ?_, hf k (by omega) (fun j hj => hno j (by omega))⟩
    rw [hc k (by omega) (fun j hj => hno j (by omega)), hno k hk]
    have : k < n := by omega
    simp [this]) ⟨hp _ (by omega) hno, by
    rw [hc _ (by omega) hno]
    by_cases h : firstAt (fun i => !t i) n 0 < n
    · have := firstAt_lt (fun i => !t i) n 0 (by omega)
      simp only [Bool.not_eq_true'] at this
      rw [this]; simp
    · simp [h]⟩
  refine ⟨this.1, _, by omega, this.2, ?_⟩
  rw [firstAt_all]
  simp
theorem take_snoc {α : Type} (x : List α) (d : α) {i : Nat} (h : i < x.length) : x.take i ++ [x.getD i d] = x.take (i + 1) := by
  rw [List.take_add_one, List.getD_eq_getElem?_getD, List.getElem?_eq_getElem h]; rfl
theorem and_i64 {a b : Nat} (ha : a < 9223372036854775808) (hb : b < 9223372036854775808) : iAnd .i64 (a : Int) (b : Int) = ((a &&& b : Nat) : Int) := by
  have e : (BitVec.ofInt 64 (a : Int) &&& BitVec.ofInt 64 (b : Int)).toNat = a &&& b := by
    rw [BitVec.ofInt_natCast, BitVec.ofInt_natCast, BitVec.toNat_and, BitVec.toNat_ofNat, BitVec.toNat_ofNat, Nat.mod_eq_of_lt (by omega), Nat.mod_eq_of_lt (by omega)]
  have h : a &&& b ≤ a := Nat.and_le_left
  rw [iAnd_u]
  show IntKind.i64.wrap ((BitVec.ofInt 64 (a : Int) &&& BitVec.ofInt 64 (b : Int)).toNat : Int) = _
  rw [e]
  exact wrap_i64 (by unfold In64; omega)
theorem or_i64 {a b : Nat} (ha : a < 4611686018427387904) (hb : b < 4611686018427387904) : iOr .i64 (a : Int) (b : Int) = ((a ||| b : Nat) : Int) := by
  have e : (BitVec.ofInt 64 (a : Int) ||| BitVec.ofInt 64 (b : Int)).toNat = a ||| b := by
    rw [BitVec.ofInt_natCast, BitVec.ofInt_natCast, BitVec.toNat_or, BitVec.toNat_ofNat, BitVec.toNat_ofNat, Nat.mod_eq_of_lt (by omega), Nat.mod_eq_of_lt (by omega)]
  have h : a ||| b < 2 ^ 62 := Nat.or_lt_two_pow (by omega) (by omega)
  rw [iOr_u]
  show IntKind.i64.wrap ((BitVec.ofInt 64 (a : Int) ||| BitVec.ofInt 64 (b : Int)).toNat : Int) = _
  rw [e]
  exact wrap_i64 (by unfold In64; omega)
theorem shr_i64 (a k : Nat) (h : k ≤ 64) : iShr .i64 (a : Int) (k : Int) = ((a / 2 ^ k : Nat) : Int) := by
  rw [iShr_u]
  show Int.fdiv (a : Int) (2 ^ min (k : Int).toNat 64) = _
  rw [Int.toNat_natCast, Nat.min_eq_left h, Int.fdiv_eq_ediv_of_nonneg _ (by exact_mod_cast Nat.zero_le _)]
  norm_cast
theorem shl_i64 {a k : Nat} (hk : k ≤ 64) (h : a * 2 ^ k < 9223372036854775808) : iShl .i64 (a : Int) (k : Int) = ((a * 2 ^ k : Nat) : Int) := by
  rw [iShl_u]
  show IntKind.i64.wrap ((a : Int) * 2 ^ min (k : Int).toNat 64) = _
  rw [Int.toNat_natCast, Nat.min_eq_left hk]
  have : ((a : Int) * 2 ^ k) = ((a * 2 ^ k : Nat) : Int) := by norm_cast
  rw [this]
  exact wrap_i64 (by unfold In64; omega)
def Bytes (x : List Int) : Prop := ∀ a ∈ x, 0 ≤ a ∧ a < 256
theorem Bytes.get {x : List Int} (h : Bytes x) (i : Nat) : ∃ n : Nat, n < 256 ∧ x.getD i 0 = (n : Int) := by
  by_cases hi : i < x.length
  · obtain ⟨h0, h1⟩ := h _ (getD_mem x i 0 hi)
    exact ⟨(x.getD i 0).toNat, by omega, by omega⟩
  · exact ⟨0, by omega, by rw [List.getD_eq_getElem?_getD, List.getElem?_eq_none (by omega)]; rfl⟩
theorem Bytes.of {x : List Int} (h : CT.wf (.sl (.one (.int .u8))) x) : Bytes x := by
  intro a ha
  have := h.2 a ha
  simp only [RT.wf, CT.wf] at this
  have h : IntKind.u8.min ≤ a ∧ a ≤ IntKind.u8.max := by simpa [Lit.wf] using this
  have e1 : IntKind.u8.min = 0 := by decide
  have e2 : IntKind.u8.max = 255 := by decide
  rw [e1, e2] at h
  omega
section
set_option maxRecDepth 8000
noncomputable def dc_spec_ReportOf : DCode :=
  (.seq [2, 0] (.region [oa 0 2 (.allocB 0 [(.int .i64 0), .nils])])
  (.seq [3, 2, 0] (.region [⟨0, some 7, .a false (.litSlice 1 0 [] []) (some (.one (.int .i64))), none, []⟩,
 oa 1 8 (.build [(.int .i64 0), .nils] [(1, 1, (.t 7))]),
 oa 2 3 (.allocB 1 [(.int .i64 0), .nils]),
 os 3 (.storeB 1 2 (.t 3) (.t 8))])
  (.seq [3, 2, 0] (.seq [11, 3, 2, 0] (.region [on 0 9 0,
 oc 1 10 s_spec_IsHeld p_spec_IsHeld D_spec_IsHeld [(.t 9)],
 oa 2 11 (.un .not (.t 10))])
  (.cond (.t 11) (.seq [2] (.region [ob 0 12 (.loadB 1 (some 2) (.t 3)),
 os 1 (.storeB 0 2 (.t 2) (.t 12))])
  .ret) .skip))
  (.seq [3, 2, 0] (.seq [4, 3, 2, 0] (.region [oi 0 4 0])
  (.block 0 (.loop [0, 2, 3, 4] 1 (.seq [4, 3, 2, 0] (.seq [16, 4, 3, 2, 0] (.region [om 0 13 4,
 on 1 14 0,
 oa 2 15 (.len (.t 14)),
 oa 3 16 (.bin .lss (.t 13) (.t 15))])
  (.cond (.t 16) .skip (.exit 0)))
  (.seq [4, 3, 2, 0] (.block 1 (.seq [34, 4, 3, 2, 0] (.region [on 0 19 0,
 om 1 20 4,
 oa 2 21 (.indexA 5 (.t 19) (.t 20)),
 oa 3 22 (.fieldA 1 (.t 21)),
 oa 4 23 (.fieldA 0 (.t 22)),
 oa 5 24 (.loadH none (.t 23)),
 oa 6 25 (.bin .eql (.t 24) (.c (.int .i64 2))),
 om 7 26 25,
 ⟨8, some 27, .a true (.mv (.t 0)) none, (some (26, false)), []⟩,
 og 9 28 (.mv (.t 4)) 26 false,
 og 10 29 (.indexA 5 (.t 27) (.t 28)) 26 false,
 og 11 30 (.fieldA 1 (.t 29)) 26 false,
 og 12 31 (.fieldA 0 (.t 30)) 26 false,
 og 13 32 (.loadH none (.t 31)) 26 false,
 og 14 33 (.bin .eql (.t 32) (.c (.int .i64 8))) 26 false,
 oa 15 34 (.pick (.t 26) (.c (.bool true)) (.t 33))])
  (.cond (.t 34) (.region [oa 0 35 (.fieldA 0 (.t 3)),
 xA 1 36 (.loadB 1 none (.t 35)) (rg 1),
 on 2 37 0,
 om 3 38 4,
 xA 4 39 (.indexA 5 (.t 37) (.t 38)) [2, 3],
 xA 5 40 (.fieldA 1 (.t 39)) [2, 3, 4],
 xA 6 41 (.fieldA 2 (.t 40)) [2, 3, 4, 5],
 xA 7 42 (.loadH none (.t 41)) [2, 3, 4, 5, 6],
 xA 8 43 (.bin .or (.t 36) (.t 42)) (rg 8),
 xA 9 44 (.fieldA 0 (.t 3)) (rg 9),
 xS 10 (.storeB 1 1 (.t 44) (.t 43)) (rg 10)]) .skip)))
  (.region [om 0 17 4,
 oa 1 18 (.bin .add (.t 17) (.c (.int .i64 1))),
 om 2 4 18]))))))
  (.seq [3, 2] (.seq [5, 3, 2, 0] (.region [oi 0 5 1])
  (.block 2 (.loop [0, 2, 3, 5] 1 (.seq [5, 3, 2, 0] (.seq [46, 5, 3, 2, 0] (.region [om 0 45 5,
 oa 1 46 (.bin .leq (.t 45) (.c (.int .i64 56)))])
  (.cond (.t 46) .skip (.exit 2)))
  (.seq [5, 3, 2, 0] (.block 3 (.seq [6, 5, 3, 2, 0] (.region [oi 0 6 0])
  (.block 4 (.loop [0, 2, 3, 5, 6] 1 (.seq [6, 5, 3, 2, 0] (.seq [52, 6, 5, 3, 2, 0] (.region [om 0 49 6,
 on 1 50 0,
 oa 2 51 (.len (.t 50)),
 oa 3 52 (.bin .lss (.t 49) (.t 51))])
  (.cond (.t 52) .skip (.exit 4)))
  (.seq [6, 5, 3, 2, 0] (.block 5 (.seq [62, 6, 5, 3, 2, 0] (.region [on 0 55 0,
 om 1 56 6,
 oa 2 57 (.indexA 5 (.t 55) (.t 56)),
 oa 3 58 (.fieldA 1 (.t 57)),
 oa 4 59 (.fieldA 1 (.t 58)),
 oa 5 60 (.loadH none (.t 59)),
 om 6 61 5,
 oa 7 62 (.bin .eql (.t 60) (.t 61))])
  (.cond (.t 62) (.seq [5, 3, 2, 0] (.region [oa 0 63 (.fieldA 1 (.t 3)),
 ob 1 64 (.loadB 1 none (.t 63)),
 om 2 65 5,
 ⟨3, some 66, .a false (.litSlice 1 1 [(.int .i64 0)] [(0, 1, (.t 65))]) (some (.one (.int .i64))), none, []⟩,
 oa 4 67 (.app 1 (.t 64) (.t 66)),
 oa 5 68 (.fieldA 1 (.t 3)),
 os 6 (.storeB 1 1 (.t 68) (.t 67))])
  (.exit 4)) .skip)))
  (.region [om 0 53 6,
 oa 1 54 (.bin .add (.t 53) (.c (.int .i64 1))),
 om 2 6 54])))))))
  (.region [om 0 47 5,
 oa 1 48 (.bin .add (.t 47) (.c (.int .i64 1))),
 om 2 5 48]))))))
  (.seq [2] (.region [ob 0 69 (.loadB 1 (some 2) (.t 3)),
 os 1 (.storeB 0 2 (.t 2) (.t 69))])
  .ret))))))
noncomputable def df_spec_ReportOf : DFun := ⟨1, 70, 2, false, [.cell 2 (some 2)], dc_spec_ReportOf⟩
def h_spec_ReportOf : List HT := [.one .frz (.sl (.cons (.int .i64) (.cons (.int .i64) (.cons (.int .i64) (.cons (.int .i64) (.one (.int .i64)))))))]
def q_spec_ReportOf : QT := .one (.agg [(.own, .int .i64), (.own, .sl (.one (.int .i64)))])
@[irreducible] noncomputable def v_spec_ReportOf (x : List (Int × Int × Int × Int × Int)) : Int × List (Int) := (shut fun x => fnV df_spec_ReportOf h_spec_ReportOf q_spec_ReportOf x).1 x
@[irreducible] noncomputable def ok_spec_ReportOf (x : List (Int × Int × Int × Int × Int)) : Prop := (shut fun x => fnOk df_spec_ReportOf h_spec_ReportOf q_spec_ReportOf x).1 x
theorem vu_spec_ReportOf (x : List (Int × Int × Int × Int × Int)) : v_spec_ReportOf x = fnV df_spec_ReportOf h_spec_ReportOf q_spec_ReportOf x := by unfold v_spec_ReportOf; exact congrFun (shut _).2 x
theorem ou_spec_ReportOf (x : List (Int × Int × Int × Int × Int)) : ok_spec_ReportOf x = fnOk df_spec_ReportOf h_spec_ReportOf q_spec_ReportOf x := by unfold ok_spec_ReportOf; exact congrFun (shut _).2 x
noncomputable def dc_impl_copyInts : DCode :=
  (.seq [0] (.region [oa 0 2 (.mv (.c .nils))])
  (.seq [2] (.region [on 0 3 0,
 oa 1 4 (.app 1 (.c .nils) (.t 3)),
 om 2 2 4])
  .ret))
noncomputable def df_impl_copyInts : DFun := ⟨1, 5, 0, false, [.tmp 2], dc_impl_copyInts⟩
noncomputable def pf_impl_copyInts : PFun := df_impl_copyInts.er
noncomputable def f_impl_copyInts : AFun := pf_impl_copyInts.er
@[irreducible] noncomputable def s_impl_copyInts : CallSem := funSem f_impl_copyInts
@[irreducible] noncomputable def p_impl_copyInts : PSem := pfunSem pf_impl_copyInts
theorem sp_impl_copyInts : SoundP s_impl_copyInts p_impl_copyInts := by unfold s_impl_copyInts p_impl_copyInts; exact pfun_sound (f := pf_impl_copyInts) trivial
def h_impl_copyInts : List HT := [.one .frz (.sl (.one (.int .i64)))]
def q_impl_copyInts : QT := .one (.one .own (.sl (.one (.int .i64))))
@[irreducible] noncomputable def v_impl_copyInts (x : List (Int)) : List (Int) := (shut fun x => fnV df_impl_copyInts h_impl_copyInts q_impl_copyInts x).1 x
@[irreducible] noncomputable def ok_impl_copyInts (x : List (Int)) : Prop := (shut fun x => fnOk df_impl_copyInts h_impl_copyInts q_impl_copyInts x).1 x
theorem vu_impl_copyInts (x : List (Int)) : v_impl_copyInts x = fnV df_impl_copyInts h_impl_copyInts q_impl_copyInts x := by unfold v_impl_copyInts; exact congrFun (shut _).2 x
theorem ou_impl_copyInts (x : List (Int)) : ok_impl_copyInts x = fnOk df_impl_copyInts h_impl_copyInts q_impl_copyInts x := by unfold ok_impl_copyInts; exact congrFun (shut _).2 x
noncomputable def D_impl_copyInts : DSem := DSemOf h_impl_copyInts q_impl_copyInts ok_impl_copyInts v_impl_copyInts
theorem ck_impl_copyInts (x : List (Int)) : fnChk df_impl_copyInts h_impl_copyInts q_impl_copyInts x = true := by kernel_rfl
theorem ob_impl_copyInts : AllD df_impl_copyInts.body.obs := trivial
theorem st_impl_copyInts : fnSt df_impl_copyInts h_impl_copyInts q_impl_copyInts = true := by kernel_rfl
theorem sd_impl_copyInts : SoundD p_impl_copyInts D_impl_copyInts := by unfold p_impl_copyInts; exact soundD_of (f := df_impl_copyInts) (hs := h_impl_copyInts) (q := q_impl_copyInts) ob_impl_copyInts st_impl_copyInts ck_impl_copyInts (fun x h => Eq.mp (ou_impl_copyInts x) h) (fun x => (vu_impl_copyInts x).symm)
noncomputable def dc_impl_hasInt : DCode :=
  (.seq [1, 0] (.region [oa 0 4 (.mv (.c (.bool false)))])
  (.seq [] (.seq [9, 8, 7, 1] (.region [on 0 7 0,
 oa 1 8 (.len (.t 7)),
 oi 2 9 0])
  (.block 0 (.loop [1, 7, 8, 9] 1 (.seq [10, 9, 8, 7, 1] (.region [oa 0 10 (.bin .lss (.t 9) (.t 8))])
  (.seq [9, 8, 7, 1] (.cond (.t 10) .skip (.exit 0))
  (.seq [9, 8, 7, 1] (.block 1 (.seq [9, 8, 7, 6, 1] (.region [oa 0 11 (.indexA 1 (.t 7) (.t 9)),
 oa 1 12 (.loadH none (.t 11)),
 om 2 6 12])
  (.seq [15, 9, 8, 7, 1] (.region [om 0 13 6,
 om 1 14 1,
 oa 2 15 (.bin .eql (.t 13) (.t 14))])
  (.cond (.t 15) (.seq [4] (.region [oa 0 4 (.mv (.c (.bool true)))])
  .ret) .skip))))
  (.region [oa 0 16 (.bin .add (.t 9) (.c (.int .i64 1))),
 om 1 9 16])))))))
  (.seq [4] (.region [oa 0 4 (.mv (.c (.bool false)))])
  .ret)))
noncomputable def df_impl_hasInt : DFun := ⟨2, 17, 0, true, [.tmp 4], dc_impl_hasInt⟩
noncomputable def pf_impl_hasInt : PFun := df_impl_hasInt.er
noncomputable def f_impl_hasInt : AFun := pf_impl_hasInt.er
@[irreducible] noncomputable def s_impl_hasInt : CallSem := funSem f_impl_hasInt
@[irreducible] noncomputable def p_impl_hasInt : PSem := pfunSem pf_impl_hasInt
theorem sp_impl_hasInt : SoundP s_impl_hasInt p_impl_hasInt := by unfold s_impl_hasInt p_impl_hasInt; exact pfun_sound (f := pf_impl_hasInt) trivial
def h_impl_hasInt : List HT := [.one .frz (.sl (.one (.int .i64))), .one .frz (.int .i64)]
def q_impl_hasInt : QT := .one (.one .own (.bool))
@[irreducible] noncomputable def v_impl_hasInt (x : List (Int) × Int) : Bool := (shut fun x => fnV df_impl_hasInt h_impl_hasInt q_impl_hasInt x).1 x
@[irreducible] noncomputable def ok_impl_hasInt (x : List (Int) × Int) : Prop := (shut fun x => fnOk df_impl_hasInt h_impl_hasInt q_impl_hasInt x).1 x
theorem vu_impl_hasInt (x : List (Int) × Int) : v_impl_hasInt x = fnV df_impl_hasInt h_impl_hasInt q_impl_hasInt x := by unfold v_impl_hasInt; exact congrFun (shut _).2 x
theorem ou_impl_hasInt (x : List (Int) × Int) : ok_impl_hasInt x = fnOk df_impl_hasInt h_impl_hasInt q_impl_hasInt x := by unfold ok_impl_hasInt; exact congrFun (shut _).2 x
noncomputable def D_impl_hasInt : DSem := DSemOf h_impl_hasInt q_impl_hasInt ok_impl_hasInt v_impl_hasInt
theorem ck_impl_hasInt (x : List (Int) × Int) : fnChk df_impl_hasInt h_impl_hasInt q_impl_hasInt x = true := by kernel_rfl
theorem ob_impl_hasInt : AllD df_impl_hasInt.body.obs := trivial
theorem st_impl_hasInt : fnSt df_impl_hasInt h_impl_hasInt q_impl_hasInt = true := by kernel_rfl
theorem sd_impl_hasInt : SoundD p_impl_hasInt D_impl_hasInt := by unfold p_impl_hasInt; exact soundD_of (f := df_impl_hasInt) (hs := h_impl_hasInt) (q := q_impl_hasInt) ob_impl_hasInt st_impl_hasInt ck_impl_hasInt (fun x h => Eq.mp (ou_impl_hasInt x) h) (fun x => (vu_impl_hasInt x).symm)
noncomputable def dc_impl_codesOf : DCode :=
  (.seq [0] (.region [oa 0 2 (.mv (.c .nils))])
  (.seq [3] (.region [on 0 7 0,
 oc 1 8 s_impl_copyInts p_impl_copyInts D_impl_copyInts [(.t 7)],
 om 2 3 8])
  (.seq [3] (.region [on 0 9 3,
 ⟨1, some 10, .mark s_sort_Ints M_sort_Ints (.t 9) (.c (.int .i64 0)), none, []⟩])
  (.seq [4, 3] (.region [oa 0 4 (.mv (.c .nils))])
  (.seq [4] (.seq [13, 12, 11, 4] (.region [on 0 11 3,
 oa 1 12 (.len (.t 11)),
 oi 2 13 0])
  (.block 0 (.loop [4, 11, 12, 13] 1 (.seq [14, 13, 12, 11, 4] (.region [oa 0 14 (.bin .lss (.t 13) (.t 12))])
  (.seq [13, 12, 11, 4] (.cond (.t 14) .skip (.exit 0))
  (.seq [13, 12, 11, 4] (.block 1 (.seq [13, 12, 11, 6, 4] (.region [oa 0 15 (.indexA 1 (.t 11) (.t 13)),
 ob 1 16 (.loadH none (.t 15)),
 om 2 6 16])
  (.seq [24, 13, 12, 11, 6, 4] (.region [om 0 17 6,
 oa 1 18 (.bin .neq (.t 17) (.c (.int .i64 0))),
 om 2 19 18,
 ⟨3, some 20, .a true (.mv (.t 4)) none, (some (19, true)), []⟩,
 og 4 21 (.mv (.t 6)) 19 true,
 ⟨5, some 22, .call false s_impl_hasInt p_impl_hasInt D_impl_hasInt [(.t 20), (.t 21)], (some (19, true)), []⟩,
 og 6 23 (.un .not (.t 22)) 19 true,
 oa 7 24 (.pick (.t 19) (.t 23) (.c (.bool false)))])
  (.cond (.t 24) (.region [om 0 25 4,
 om 1 26 6,
 ⟨2, some 27, .a false (.litSlice 1 1 [(.int .i64 0)] [(0, 1, (.t 26))]) (some (.one (.int .i64))), none, []⟩,
 oa 3 28 (.app 1 (.t 25) (.t 27)),
 om 4 4 28]) .skip))))
  (.region [oa 0 29 (.bin .add (.t 13) (.c (.int .i64 1))),
 om 1 13 29])))))))
  (.seq [2] (.region [om 0 30 4,
 om 1 2 30])
  .ret))))))
noncomputable def df_impl_codesOf : DFun := ⟨1, 31, 0, false, [.tmp 2], dc_impl_codesOf⟩
noncomputable def pf_impl_codesOf : PFun := df_impl_codesOf.er
noncomputable def f_impl_codesOf : AFun := pf_impl_codesOf.er
@[irreducible] noncomputable def s_impl_codesOf : CallSem := funSem f_impl_codesOf
@[irreducible] noncomputable def p_impl_codesOf : PSem := pfunSem pf_impl_codesOf
theorem sp_impl_codesOf : SoundP s_impl_codesOf p_impl_codesOf := by unfold s_impl_codesOf p_impl_codesOf; exact pfun_sound (f := pf_impl_codesOf) ⟨sp_impl_copyInts, smk_sort_Ints, sp_impl_hasInt, trivial⟩
def h_impl_codesOf : List HT := [.one .frz (.sl (.one (.int .i64)))]
def q_impl_codesOf : QT := .one (.one .own (.sl (.one (.int .i64))))
@[irreducible] noncomputable def v_impl_codesOf (x : List (Int)) : List (Int) := (shut fun x => fnV df_impl_codesOf h_impl_codesOf q_impl_codesOf x).1 x
@[irreducible] noncomputable def ok_impl_codesOf (x : List (Int)) : Prop := (shut fun x => fnOk df_impl_codesOf h_impl_codesOf q_impl_codesOf x).1 x
theorem vu_impl_codesOf (x : List (Int)) : v_impl_codesOf x = fnV df_impl_codesOf h_impl_codesOf q_impl_codesOf x := by unfold v_impl_codesOf; exact congrFun (shut _).2 x
theorem ou_impl_codesOf (x : List (Int)) : ok_impl_codesOf x = fnOk df_impl_codesOf h_impl_codesOf q_impl_codesOf x := by unfold ok_impl_codesOf; exact congrFun (shut _).2 x
noncomputable def D_impl_codesOf : DSem := DSemOf h_impl_codesOf q_impl_codesOf ok_impl_codesOf v_impl_codesOf
theorem ck_impl_codesOf (x : List (Int)) : fnChk df_impl_codesOf h_impl_codesOf q_impl_codesOf x = true := by kernel_rfl
theorem ob_impl_codesOf : AllD df_impl_codesOf.body.obs := ⟨sd_impl_copyInts, sd_impl_hasInt, trivial⟩
theorem st_impl_codesOf : fnSt df_impl_codesOf h_impl_codesOf q_impl_codesOf = true := by kernel_rfl
theorem sd_impl_codesOf : SoundD p_impl_codesOf D_impl_codesOf := by unfold p_impl_codesOf; exact soundD_of (f := df_impl_codesOf) (hs := h_impl_codesOf) (q := q_impl_codesOf) ob_impl_codesOf st_impl_codesOf ck_impl_codesOf (fun x h => Eq.mp (ou_impl_codesOf x) h) (fun x => (vu_impl_codesOf x).symm)
noncomputable def dc_impl_ReportOf : DCode :=
  (.seq [2, 0] (.region [oa 0 2 (.allocB 0 [(.int .i64 0), .nils])])
  (.seq [2, 0] (.seq [9, 2, 0] (.region [on 0 7 0,
 oc 1 8 s_impl_IsHeld p_impl_IsHeld D_impl_IsHeld [(.t 7)],
 oa 2 9 (.un .not (.t 8))])
  (.cond (.t 9) (.seq [2] (.region [oa 0 10 (.build [(.int .i64 0), .nils] []),
 os 1 (.storeB 0 2 (.t 2) (.t 10))])
  .ret) .skip))
  (.seq [3, 2, 0] (.region [oa 0 3 (.allocB 1 [(.int .i64 0), .nils])])
  (.seq [4, 3, 2, 0] (.region [oa 0 4 (.mv (.c .nils))])
  (.seq [4, 3, 2] (.seq [13, 12, 11, 4, 3, 2] (.region [on 0 11 0,
 oa 1 12 (.len (.t 11)),
 oi 2 13 0])
  (.block 0 (.loop [2, 3, 4, 11, 12, 13] 1 (.seq [14, 13, 12, 11, 4, 3, 2] (.region [oa 0 14 (.bin .lss (.t 13) (.t 12))])
  (.seq [13, 12, 11, 4, 3, 2] (.cond (.t 14) .skip (.exit 0))
  (.seq [13, 12, 11, 4, 3, 2] (.block 1 (.seq [13, 12, 11, 6, 4, 3, 2] (.region [oa 0 15 (.indexA 5 (.t 11) (.t 13)),
 ob 1 16 (.loadH (some 5) (.t 15)),
 oa 2 6 (.allocB 2 [(.int .i64 0), (.int .i64 0), (.int .i64 0), (.int .i64 0), (.int .i64 0)]),
 os 3 (.storeB 2 5 (.t 6) (.t 16))])
  (.seq [13, 12, 11, 6, 4, 3, 2] (.seq [26, 13, 12, 11, 6, 4, 3, 2] (.region [oa 0 17 (.fieldA 1 (.t 6)),
 oa 1 18 (.fieldA 0 (.t 17)),
 oa 2 19 (.loadB 2 none (.t 18)),
 oa 3 20 (.bin .eql (.t 19) (.c (.int .i64 2))),
 om 4 21 20,
 og 5 22 (.fieldA 1 (.t 6)) 21 false,
 og 6 23 (.fieldA 0 (.t 22)) 21 false,
 og 7 24 (.loadB 2 none (.t 23)) 21 false,
 og 8 25 (.bin .eql (.t 24) (.c (.int .i64 8))) 21 false,
 oa 9 26 (.pick (.t 21) (.c (.bool true)) (.t 25))])
  (.cond (.t 26) (.region [oa 0 27 (.fieldA 0 (.t 3)),
 oa 1 28 (.loadB 1 none (.t 27)),
 oa 2 29 (.fieldA 1 (.t 6)),
 oa 3 30 (.fieldA 2 (.t 29)),
 oa 4 31 (.loadB 2 none (.t 30)),
 oa 5 32 (.bin .or (.t 28) (.t 31)),
 oa 6 33 (.fieldA 0 (.t 3)),
 os 7 (.storeB 1 1 (.t 33) (.t 32))]) .skip))
  (.region [om 0 34 4,
 oa 1 35 (.fieldA 1 (.t 6)),
 oa 2 36 (.fieldA 1 (.t 35)),
 ob 3 37 (.loadB 2 none (.t 36)),
 ⟨4, some 38, .a false (.litSlice 1 1 [(.int .i64 0)] [(0, 1, (.t 37))]) (some (.one (.int .i64))), none, []⟩,
 oa 5 39 (.app 1 (.t 34) (.t 38)),
 om 6 4 39]))))
  (.region [oa 0 40 (.bin .add (.t 13) (.c (.int .i64 1))),
 om 1 13 40])))))))
  (.seq [3, 2] (.region [on 0 41 4,
 oc 1 42 s_impl_codesOf p_impl_codesOf D_impl_codesOf [(.t 41)],
 oa 2 43 (.fieldA 1 (.t 3)),
 os 3 (.storeB 1 1 (.t 43) (.t 42))])
  (.seq [2] (.region [ob 0 44 (.loadB 1 (some 2) (.t 3)),
 os 1 (.storeB 0 2 (.t 2) (.t 44))])
  .ret)))))))
noncomputable def df_impl_ReportOf : DFun := ⟨1, 45, 3, false, [.cell 2 (some 2)], dc_impl_ReportOf⟩
noncomputable def pf_impl_ReportOf : PFun := df_impl_ReportOf.er
noncomputable def f_impl_ReportOf : AFun := pf_impl_ReportOf.er
@[irreducible] noncomputable def s_impl_ReportOf : CallSem := funSem f_impl_ReportOf
@[irreducible] noncomputable def p_impl_ReportOf : PSem := pfunSem pf_impl_ReportOf
theorem sp_impl_ReportOf : SoundP s_impl_ReportOf p_impl_ReportOf := by unfold s_impl_ReportOf p_impl_ReportOf; exact pfun_sound (f := pf_impl_ReportOf) ⟨sp_impl_IsHeld, sp_impl_codesOf, trivial⟩
def h_impl_ReportOf : List HT := [.one .frz (.sl (.cons (.int .i64) (.cons (.int .i64) (.cons (.int .i64) (.cons (.int .i64) (.one (.int .i64)))))))]
def q_impl_ReportOf : QT := .one (.agg [(.own, .int .i64), (.own, .sl (.one (.int .i64)))])
@[irreducible] noncomputable def v_impl_ReportOf (x : List (Int × Int × Int × Int × Int)) : Int × List (Int) := (shut fun x => fnV df_impl_ReportOf h_impl_ReportOf q_impl_ReportOf x).1 x
@[irreducible] noncomputable def ok_impl_ReportOf (x : List (Int × Int × Int × Int × Int)) : Prop := (shut fun x => fnOk df_impl_ReportOf h_impl_ReportOf q_impl_ReportOf x).1 x
theorem vu_impl_ReportOf (x : List (Int × Int × Int × Int × Int)) : v_impl_ReportOf x = fnV df_impl_ReportOf h_impl_ReportOf q_impl_ReportOf x := by unfold v_impl_ReportOf; exact congrFun (shut _).2 x
theorem ou_impl_ReportOf (x : List (Int × Int × Int × Int × Int)) : ok_impl_ReportOf x = fnOk df_impl_ReportOf h_impl_ReportOf q_impl_ReportOf x := by unfold ok_impl_ReportOf; exact congrFun (shut _).2 x
noncomputable def D_impl_ReportOf : DSem := DSemOf h_impl_ReportOf q_impl_ReportOf ok_impl_ReportOf v_impl_ReportOf
theorem ck_impl_ReportOf (x : List (Int × Int × Int × Int × Int)) : fnChk df_impl_ReportOf h_impl_ReportOf q_impl_ReportOf x = true := by kernel_rfl
theorem ob_impl_ReportOf : AllD df_impl_ReportOf.body.obs := ⟨sd_impl_IsHeld, sd_impl_codesOf, trivial⟩
theorem st_impl_ReportOf : fnSt df_impl_ReportOf h_impl_ReportOf q_impl_ReportOf = true := by kernel_rfl
theorem sd_impl_ReportOf : SoundD p_impl_ReportOf D_impl_ReportOf := by unfold p_impl_ReportOf; exact soundD_of (f := df_impl_ReportOf) (hs := h_impl_ReportOf) (q := q_impl_ReportOf) ob_impl_ReportOf st_impl_ReportOf ck_impl_ReportOf (fun x h => Eq.mp (ou_impl_ReportOf x) h) (fun x => (vu_impl_ReportOf x).symm)
end
section
set_option maxRecDepth 100000
noncomputable def lc_spec_ReportOf_1 (x : List (Int × Int × Int × Int × Int)) (x0 : (Int × Int)) : Bool := (iLt x0.1 (lLen x))
noncomputable def lf_spec_ReportOf_1 (x : List (Int × Int × Int × Int × Int)) (x0 : (Int × Int)) : (Int × Int) := ((iAdd Go.IntKind.i64 x0.1 1), (bSel (bOr (iEq (lGet x (iNat x0.1) (0, 0, 0, 0, 0)).2.1 2) (iEq (lGet x (iNat x0.1) (0, 0, 0, 0, 0)).2.1 8)) (iOr Go.IntKind.i64 x0.2 (lGet x (iNat x0.1) (0, 0, 0, 0, 0)).2.2.2.1) x0.2))
noncomputable def lc_spec_ReportOf_2 (x0 : (Int × (List Int))) : Bool := (iLe x0.1 56)
noncomputable def lc_spec_ReportOf_3 (x : List (Int × Int × Int × Int × Int)) (x0 : (Int × (List Int))) (x1 : Int) : Bool := (bAnd (iLt x1 (lLen x)) (bNot (iEq (lGet x (iNat x1) (0, 0, 0, 0, 0)).2.2.1 x0.1)))
noncomputable def lf_spec_ReportOf_3 (x1 : Int) : Int := (iAdd Go.IntKind.i64 x1 1)
noncomputable def lf_spec_ReportOf_2 (x : List (Int × Int × Int × Int × Int)) (x0 : (Int × (List Int))) : (Int × (List Int)) := ((iAdd Go.IntKind.i64 x0.1 1), (bSel (iLt (loopV (lc_spec_ReportOf_3 x x0) lf_spec_ReportOf_3 0) (lLen x)) (lApp x0.2 [x0.1]) x0.2))
noncomputable def lp_spec_ReportOf_1 (x : List (Int × Int × Int × Int × Int)) (x0 : (Int × Int)) : Prop := (((iLt x0.1 (lLen x)) = true → (((((0 : Int) ≤ x0.1) ∧ (x0.1 < (((List.length x) : Int)))) ∧ (((iNat x0.1) < (List.length x)) ∧ (((iEq (lGet x (iNat x0.1) (0, 0, 0, 0, 0)).2.1 2) = true → True) ∧ ((iEq (lGet x (iNat x0.1) (0, 0, 0, 0, 0)).2.1 2) = false → ((((0 : Int) ≤ x0.1) ∧ (x0.1 < (((List.length x) : Int)))) ∧ ((iNat x0.1) < (List.length x))))))) ∧ (((bOr (iEq (lGet x (iNat x0.1) (0, 0, 0, 0, 0)).2.1 2) (iEq (lGet x (iNat x0.1) (0, 0, 0, 0, 0)).2.1 8)) = true → ((((0 : Int) ≤ x0.1) ∧ (x0.1 < (((List.length x) : Int)))) ∧ ((iNat x0.1) < (List.length x)))) ∧ ((bOr (iEq (lGet x (iNat x0.1) (0, 0, 0, 0, 0)).2.1 2) (iEq (lGet x (iNat x0.1) (0, 0, 0, 0, 0)).2.1 8)) = false → True)))) ∧ ((iLt x0.1 (lLen x)) = false → True))
noncomputable def lp_spec_ReportOf_3 (x : List (Int × Int × Int × Int × Int)) (x0 : (Int × (List Int))) (x1 : Int) : Prop := (((iLt x1 (lLen x)) = true → ((((0 : Int) ≤ x1) ∧ (x1 < (((List.length x) : Int)))) ∧ (((iNat x1) < (List.length x)) ∧ (((iEq (lGet x (iNat x1) (0, 0, 0, 0, 0)).2.2.1 x0.1) = true → (roomy (((List.length x0.2) + (List.length [x0.1])) * 1))) ∧ ((iEq (lGet x (iNat x1) (0, 0, 0, 0, 0)).2.2.1 x0.1) = false → True))))) ∧ ((iLt x1 (lLen x)) = false → True))
noncomputable def lp_spec_ReportOf_2 (x : List (Int × Int × Int × Int × Int)) (x0 : (Int × (List Int))) : Prop := (((iLe x0.1 56) = true → (LoopOk (lc_spec_ReportOf_3 x x0) lf_spec_ReportOf_3 (lp_spec_ReportOf_3 x x0) 0)) ∧ ((iLe x0.1 56) = false → True))
theorem ve_spec_ReportOf (x : List (Int × Int × Int × Int × Int)) : v_spec_ReportOf x = (bSel (bNot (v_spec_IsHeld x)) (0, []) ((loopV (lc_spec_ReportOf_1 x) (lf_spec_ReportOf_1 x) (0, 0)).2, (loopV lc_spec_ReportOf_2 (lf_spec_ReportOf_2 x) (1, [])).2)) := (vu_spec_ReportOf x).trans (by kernel_rfl)
theorem oe_spec_ReportOf (x : List (Int × Int × Int × Int × Int)) : ok_spec_ReportOf x = ((ok_spec_IsHeld x) ∧ (((bNot (v_spec_IsHeld x)) = true → True) ∧ ((bNot (v_spec_IsHeld x)) = false → ((LoopOk (lc_spec_ReportOf_1 x) (lf_spec_ReportOf_1 x) (lp_spec_ReportOf_1 x) (0, 0)) ∧ (LoopOk lc_spec_ReportOf_2 (lf_spec_ReportOf_2 x) (lp_spec_ReportOf_2 x) (1, [])))))) := (ou_spec_ReportOf x).trans (by kernel_rfl)
theorem ve_impl_copyInts (x : List (Int)) : v_impl_copyInts x = x := (vu_impl_copyInts x).trans (by kernel_rfl)
theorem oe_impl_copyInts (x : List (Int)) : ok_impl_copyInts x = (roomy ((List.length x) * 1)) := (ou_impl_copyInts x).trans (by kernel_rfl)
noncomputable def lc_impl_hasInt_1 (x : List (Int) × Int) (x0 : Int) : Bool := (bAnd (iLt x0 (lLen x.1)) (bNot (iEq (lGet x.1 (iNat x0) 0) x.2)))
noncomputable def lf_impl_hasInt_1 (x0 : Int) : Int := (iAdd Go.IntKind.i64 x0 1)
noncomputable def lp_impl_hasInt_1 (x : List (Int) × Int) (x0 : Int) : Prop := (((iLt x0 (lLen x.1)) = true → ((((0 : Int) ≤ x0) ∧ (x0 < (((List.length x.1) : Int)))) ∧ ((iNat x0) < (List.length x.1)))) ∧ ((iLt x0 (lLen x.1)) = false → True))
theorem ve_impl_hasInt (x : List (Int) × Int) : v_impl_hasInt x = (iLt (loopV (lc_impl_hasInt_1 x) lf_impl_hasInt_1 0) (lLen x.1)) := (vu_impl_hasInt x).trans (by kernel_rfl)
theorem oe_impl_hasInt (x : List (Int) × Int) : ok_impl_hasInt x = (LoopOk (lc_impl_hasInt_1 x) lf_impl_hasInt_1 (lp_impl_hasInt_1 x) 0) := (ou_impl_hasInt x).trans (by kernel_rfl)
noncomputable def lc_impl_codesOf_1 (x : List (Int)) (x0 : ((List Int) × Int)) : Bool := (iLt x0.2 (lLen (mg_sort_Ints (v_impl_copyInts x) 0).1))
noncomputable def lf_impl_codesOf_1 (x : List (Int)) (x0 : ((List Int) × Int)) : ((List Int) × Int) := ((bSel (bAnd (iNe (lGet (mg_sort_Ints (v_impl_copyInts x) 0).1 (iNat x0.2) 0) 0) (bNot (v_impl_hasInt (x0.1, (lGet (mg_sort_Ints (v_impl_copyInts x) 0).1 (iNat x0.2) 0))))) (lApp x0.1 [(lGet (mg_sort_Ints (v_impl_copyInts x) 0).1 (iNat x0.2) 0)]) x0.1), (iAdd Go.IntKind.i64 x0.2 1))
noncomputable def lp_impl_codesOf_1 (x : List (Int)) (x0 : ((List Int) × Int)) : Prop := (((iLt x0.2 (lLen (mg_sort_Ints (v_impl_copyInts x) 0).1)) = true → ((((0 : Int) ≤ x0.2) ∧ (x0.2 < (((List.length (mg_sort_Ints (v_impl_copyInts x) 0).1) : Int)))) ∧ (((iNat x0.2) < (List.length (mg_sort_Ints (v_impl_copyInts x) 0).1)) ∧ ((((iNe (lGet (mg_sort_Ints (v_impl_copyInts x) 0).1 (iNat x0.2) 0) 0) = true → (ok_impl_hasInt (x0.1, (lGet (mg_sort_Ints (v_impl_copyInts x) 0).1 (iNat x0.2) 0)))) ∧ ((iNe (lGet (mg_sort_Ints (v_impl_copyInts x) 0).1 (iNat x0.2) 0) 0) = false → True)) ∧ (((bAnd (iNe (lGet (mg_sort_Ints (v_impl_copyInts x) 0).1 (iNat x0.2) 0) 0) (bNot (v_impl_hasInt (x0.1, (lGet (mg_sort_Ints (v_impl_copyInts x) 0).1 (iNat x0.2) 0))))) = true → (roomy (((List.length x0.1) + (List.length [(lGet (mg_sort_Ints (v_impl_copyInts x) 0).1 (iNat x0.2) 0)])) * 1))) ∧ ((bAnd (iNe (lGet (mg_sort_Ints (v_impl_copyInts x) 0).1 (iNat x0.2) 0) 0) (bNot (v_impl_hasInt (x0.1, (lGet (mg_sort_Ints (v_impl_copyInts x) 0).1 (iNat x0.2) 0))))) = false → True)))))) ∧ ((iLt x0.2 (lLen (mg_sort_Ints (v_impl_copyInts x) 0).1)) = false → True))
theorem ve_impl_codesOf (x : List (Int)) : v_impl_codesOf x = (loopV (lc_impl_codesOf_1 x) (lf_impl_codesOf_1 x) ([], 0)).1 := (vu_impl_codesOf x).trans (by kernel_rfl)
theorem oe_impl_codesOf (x : List (Int)) : ok_impl_codesOf x = ((ok_impl_copyInts x) ∧ ((((List.length (v_impl_copyInts x)) = (List.length (v_impl_copyInts x))) ∧ (DMk.ok (DMk.mk (RT.one (CT.sl (RT.one (CT.int Go.IntKind.i64)))) false mok_sort_Ints mg_sort_Ints true) (v_impl_copyInts x))) ∧ (LoopOk (lc_impl_codesOf_1 x) (lf_impl_codesOf_1 x) (lp_impl_codesOf_1 x) ([], 0)))) := (ou_impl_codesOf x).trans (by kernel_rfl)
noncomputable def lc_impl_ReportOf_1 (x : List (Int × Int × Int × Int × Int)) (x0 : ((List Int) × (Int × Int))) : Bool := (iLt x0.2.1 (lLen x))
noncomputable def lf_impl_ReportOf_1 (x : List (Int × Int × Int × Int × Int)) (x0 : ((List Int) × (Int × Int))) : ((List Int) × (Int × Int)) := ((lApp x0.1 [(lGet x (iNat x0.2.1) (0, 0, 0, 0, 0)).2.2.1]), (iAdd Go.IntKind.i64 x0.2.1 1), (bSel (bOr (iEq (lGet x (iNat x0.2.1) (0, 0, 0, 0, 0)).2.1 2) (iEq (lGet x (iNat x0.2.1) (0, 0, 0, 0, 0)).2.1 8)) (iOr Go.IntKind.i64 x0.2.2 (lGet x (iNat x0.2.1) (0, 0, 0, 0, 0)).2.2.2.1) x0.2.2))
noncomputable def lp_impl_ReportOf_1 (x : List (Int × Int × Int × Int × Int)) (x0 : ((List Int) × (Int × Int))) : Prop := (((iLt x0.2.1 (lLen x)) = true → ((((0 : Int) ≤ x0.2.1) ∧ (x0.2.1 < (((List.length x) : Int)))) ∧ (((iNat x0.2.1) < (List.length x)) ∧ (roomy (((List.length x0.1) + (List.length [(lGet x (iNat x0.2.1) (0, 0, 0, 0, 0)).2.2.1])) * 1))))) ∧ ((iLt x0.2.1 (lLen x)) = false → True))
theorem ve_impl_ReportOf (x : List (Int × Int × Int × Int × Int)) : v_impl_ReportOf x = (bSel (bNot (v_impl_IsHeld x)) (0, []) ((loopV (lc_impl_ReportOf_1 x) (lf_impl_ReportOf_1 x) ([], 0, 0)).2.2, (v_impl_codesOf (loopV (lc_impl_ReportOf_1 x) (lf_impl_ReportOf_1 x) ([], 0, 0)).1))) := (vu_impl_ReportOf x).trans (by kernel_rfl)
theorem oe_impl_ReportOf (x : List (Int × Int × Int × Int × Int)) : ok_impl_ReportOf x = ((ok_impl_IsHeld x) ∧ (((bNot (v_impl_IsHeld x)) = true → True) ∧ ((bNot (v_impl_IsHeld x)) = false → ((LoopOk (lc_impl_ReportOf_1 x) (lf_impl_ReportOf_1 x) (lp_impl_ReportOf_1 x) ([], 0, 0)) ∧ (ok_impl_codesOf (loopV (lc_impl_ReportOf_1 x) (lf_impl_ReportOf_1 x) ([], 0, 0)).1))))) := (ou_impl_ReportOf x).trans (by kernel_rfl)
end
theorem inc_ext {a b : List Int} (ha : a.Pairwise (· < ·)) (hb : b.Pairwise (· < ·)) (h : ∀ x, x ∈ a ↔ x ∈ b) : a = b := by
  induction a generalizing b with
  | nil =>
    cases b with
    | nil => rfl
    | cons y b => exact absurd ((h y).2 List.mem_cons_self) List.not_mem_nil
  | cons x a ih =>
    cases b with
    | nil => exact absurd ((h x).1 List.mem_cons_self) List.not_mem_nil
    | cons y b =>
      obtain ⟨a1, a2⟩ := List.pairwise_cons.1 ha
      obtain ⟨b1, b2⟩ := List.pairwise_cons.1 hb
      have e : x = y := by
        rcases List.mem_cons.1 ((h x).1 List.mem_cons_self) with e | e
        · exact e
        · rcases List.mem_cons.1 ((h y).2 List.mem_cons_self) with g | g
          · exact g.symm
          · have := a1 _ g; have := b1 _ e; omega
      subst e
      congr 1
      refine ih a2 b2 fun z => ⟨fun hz => ?_, fun hz => ?_⟩
      · rcases List.mem_cons.1 ((h z).1 (List.mem_cons_of_mem _ hz)) with e | e
        · subst e; have := a1 _ hz; omega
        · exact e
      · rcases List.mem_cons.1 ((h z).2 (List.mem_cons_of_mem _ hz)) with e | e
        · subst e; have := b1 _ hz; omega
        · exact e
theorem getD_of {α : Type} (x : List α) (d : α) {i : Nat} (h : i < x.length) : x.getD i d = x[i] := by
  rw [List.getD_eq_getElem?_getD, List.getElem?_eq_getElem h]; rfl
theorem seek_at {α : Type} {c : Int → Bool} {f : Int → Int} {p : Int → Prop} (x : List α) (d : α) (q : α → Bool) (hl : x.length ≤ 1048576)
    (hc : ∀ i : Nat, i ≤ x.length → c (i : Int) = (decide (i < x.length) && !q (x.getD i d))) (hf : ∀ i : Nat, i < x.length → f (i : Int) = iAdd .i64 (i : Int) 1) (hp : ∀ i : Nat, i ≤ x.length → p (i : Int)) :
    LoopOk c f p 0 ∧ iLt (loopV c f 0) (lLen x) = x.any q := by
  obtain ⟨h1, k, hk, h2, h3⟩ := scan_st (c := c) (f := f) (p := p) (x0 := 0) x.length (fun i => (i : Int)) (fun i => !q (x.getD i d)) rfl (fun i hi _ => hc i hi) (fun i hi _ => by rw [hf i hi, iAdd_i64 (by unfold In64; omega)]; simp) (fun i hi _ => hp i hi)
  refine ⟨h1, ?_⟩
  rw [h2, iLt_eq, lLen_eq, Bool.eq_iff_iff, decide_eq_true_eq, List.any_eq_true]
  constructor
  · intro h
    have h4 : ¬ ∀ i, i < x.length → (!q (x.getD i d)) = true := fun hh => by have := h3.2 hh; omega
    simp only [Classical.not_forall, Bool.not_eq_true', Bool.not_eq_false] at h4
    obtain ⟨i, hi, g⟩ := h4
    exact ⟨_, getD_mem x i d hi, g⟩
  · rintro ⟨a, ha, g⟩
    obtain ⟨i, hi, rfl⟩ := List.getElem_of_mem ha
    have h5 : k ≠ x.length := fun e => by
      have := h3.1 e i hi
      rw [getD_of x d hi, g] at this
      exact absurd this (by decide)
    omega
theorem hasInt_eq (l : List Int) (v : Int) (hl : l.length ≤ 1048576) : ok_impl_hasInt (l, v) ∧ v_impl_hasInt (l, v) = decide (v ∈ l) := by
  rw [oe_impl_hasInt, ve_impl_hasInt]
  obtain ⟨h1, h2⟩ := seek_at (c := lc_impl_hasInt_1 (l, v)) (f := lf_impl_hasInt_1) (p := lp_impl_hasInt_1 (l, v)) l 0 (fun a => decide (a = v)) hl
    (fun i hi => by simp only [lc_impl_hasInt_1, bAnd_eq, iLt_eq, lLen_eq, bNot_eq, iEq_eq, lGet_eq, iNat_eq, Int.toNat_natCast, Int.ofNat_lt])
    (fun i hi => rfl) (fun i hi => by
      simp only [lp_impl_hasInt_1, iLt_eq, lLen_eq, iNat_eq, Int.toNat_natCast, decide_eq_true_eq]
      exact ⟨fun h => ⟨⟨by omega, by omega⟩, by omega⟩, fun _ => trivial⟩)
  refine ⟨h1, ?_⟩
  rw [h2, Bool.eq_iff_iff, List.any_eq_true, decide_eq_true_eq]
  constructor
  · rintro ⟨a, ha, g⟩; rw [decide_eq_true_eq] at g; exact g ▸ ha
  · intro h; exact ⟨v, h, by simp⟩
def IsCodes (C l : List Int) : Prop := l.Pairwise (· < ·) ∧ ∀ z, z ∈ l ↔ (z ∈ C ∧ z ≠ 0)
theorem take_mem {α : Type} (x : List α) (d : α) {i : Nat} (h : i < x.length) (z : α) : z ∈ x.take (i + 1) ↔ z ∈ x.take i ∨ z = x.getD i d := by
  rw [← take_snoc x d h, List.mem_append, List.mem_singleton]
theorem takeGet {α : Type} (x : List α) {i : Nat} {z : α} (h : z ∈ x.take i) : ∃ j, ∃ (hj : j < x.length), j < i ∧ z = x[j] := by
  obtain ⟨j, hj, rfl⟩ := List.getElem_of_mem h
  rw [List.length_take] at hj
  exact ⟨j, by omega, by omega, List.getElem_take ..⟩
theorem codesOf_eq (C : List Int) (hl : C.length ≤ 1048576) : ok_impl_codesOf C ∧ IsCodes C (v_impl_codesOf C) ∧ (v_impl_codesOf C).length ≤ C.length := by
  rw [oe_impl_codesOf, ve_impl_codesOf]
  simp only [oe_impl_copyInts, ve_impl_copyInts, DMk.ok]
  have hs : (mg_sort_Ints C 0).1 = sortL C := by rw [mgu_sort_Ints]
  have hsl := sortL_len C
  have hso : (sortL C).Pairwise (fun a b => a ≤ b) := by
    have := List.pairwise_mergeSort (le := fun x y : Int => decide (x ≤ y)) (by simp; intros; omega) (by simp; intros; omega) C
    exact this.imp (by simp)
  have hmem : ∀ z, z ∈ sortL C ↔ z ∈ C := fun z => (List.mergeSort_perm C _).mem_iff
  generalize sortL C = S at hs hsl hso hmem
  have key := loop_one (c := lc_impl_codesOf_1 C) (f := lf_impl_codesOf_1 C) (p := lp_impl_codesOf_1 C) (x0 := ([], 0))
    (fun st => ∃ i : Nat, st.2 = (i : Int) ∧ i ≤ S.length ∧ st.1.length ≤ i ∧ st.1.Pairwise (· < ·) ∧ ∀ z, z ∈ st.1 ↔ (z ∈ S.take i ∧ z ≠ 0)) (fun st => S.length - st.2.toNat) (by
    rintro ⟨l, n⟩ ⟨i, h1, hi, hli, hp, hm⟩
    simp only at h1 hli hp hm
    subst h1
    simp only [lc_impl_codesOf_1, lf_impl_codesOf_1, lp_impl_codesOf_1, ve_impl_copyInts, hs, iLt_eq, lLen_eq, lGet_eq, iNat_eq, Int.toNat_natCast, decide_eq_true_eq]
    generalize hv : S.getD i 0 = v
    obtain ⟨g1, g2⟩ := hasInt_eq l v (by omega)
    have r1 : roomy ((l.length + [v].length) * 1) := by unfold roomy; simp only [List.length_cons, List.length_nil]; omega
    refine ⟨⟨fun h => ⟨⟨by omega, by omega⟩, by omega, ⟨fun _ => g1, fun _ => trivial⟩, ⟨fun _ => r1, fun _ => trivial⟩⟩, fun _ => trivial⟩, fun h => ?_⟩
    have hi' : i < S.length := by omega
    refine ⟨⟨i + 1, by rw [iAdd_i64 (by unfold In64; omega)]; simp, by omega, ?_, ?_, ?_⟩, by rw [iAdd_i64 (by unfold In64; omega)]; omega⟩
    · rw [bSel_eq, lApp_eq]; split
      · simp only [List.length_append, List.length_cons, List.length_nil]; omega
      · omega
    · rw [bSel_eq, lApp_eq]; split
      · next hb =>
        rw [bAnd_eq, bNot_eq, g2, Bool.and_eq_true, iNe_eq] at hb
        obtain ⟨b1, b2⟩ := hb
        simp only [Bool.not_eq_true', decide_eq_false_iff_not] at b2
        refine List.pairwise_append.2 ⟨hp, List.pairwise_singleton _ _, fun a ha b hb => ?_⟩
        rw [List.mem_singleton] at hb
        subst hb
        obtain ⟨j, hj, hji, e⟩ := takeGet S ((hm a).1 ha).1
        have hle := List.pairwise_iff_getElem.1 hso j i hj hi' hji
        rw [← getD_of S 0 hi', hv] at hle
        have : a ≠ b := fun e => b2 (e ▸ ha)
        omega
      · exact hp
    · intro z
      rw [take_mem S 0 hi', hv, bSel_eq, lApp_eq]
      split
      · next hb =>
        rw [bAnd_eq, bNot_eq, g2, Bool.and_eq_true, iNe_eq] at hb
        obtain ⟨b1, b2⟩ := hb
        have b1 : v ≠ 0 := by simpa using b1
        rw [List.mem_append, List.mem_singleton, hm]
        constructor
        · rintro (⟨h3, h4⟩ | e)
          · exact ⟨.inl h3, h4⟩
          · exact ⟨.inr e, e ▸ b1⟩
        · rintro ⟨h3 | e, h4⟩
          · exact .inl ⟨h3, h4⟩
          · exact .inr e
      · next hb =>
        rw [bAnd_eq, bNot_eq, g2, Bool.and_eq_true, iNe_eq] at hb
        rw [hm]
        constructor
        · rintro ⟨h3, h4⟩; exact ⟨.inl h3, h4⟩
        · rintro ⟨h3 | e, h4⟩
          · exact ⟨h3, h4⟩
          · subst e
            have hz : z ∈ l := by
              refine Classical.byContradiction fun hn => hb ⟨by simpa using h4, by simpa using hn⟩
            exact (hm z).1 hz) ⟨0, rfl, Nat.zero_le _, Nat.le_refl _, List.Pairwise.nil, by simp⟩
  obtain ⟨k1, ⟨i, k2, k3, k4, k5, k6⟩, k7⟩ := key
  simp only [lc_impl_codesOf_1, ve_impl_copyInts, hs, k2, iLt_eq, lLen_eq, decide_eq_false_iff_not] at k7
  have : i = S.length := by omega
  subst this
  rw [List.take_length] at k6
  refine ⟨⟨by unfold roomy; omega, ⟨trivial, by rw [mou_sort_Ints]; show C.length < 4611686018427387904; omega⟩, k1⟩, ⟨k5, fun z => by rw [k6, hmem]⟩, by omega⟩
theorem isAction_code {a : Int × Int × Int × Int} (h : v_impl_IsAction a = true) : 0 ≤ a.2.1 ∧ a.2.1 ≤ 56 := by
  rw [ve_impl_IsAction] at h
  simp only [bSel_eq, bOr_eq, bAnd_eq, iEq_eq, iNe_eq, ve_impl_isCode, iGe_eq, iLe_eq] at h
  repeat' split at h
  all_goals simp only [Bool.and_eq_true, Bool.or_eq_true, Bool.not_eq_true', Bool.not_eq_false', Bool.and_eq_false_iff, Bool.or_eq_false_iff, decide_eq_true_eq, decide_eq_false_iff_not, Bool.not_eq_true, Bool.not_eq_false, beq_iff_eq, beq_eq_false_iff_ne] at *
  all_goals omega
abbrev HdX := List (Int × Int × Int × Int × Int)
def codesL (x : HdX) : List Int := x.map fun a => a.2.2.1
theorem codesL_get (x : HdX) {i : Nat} (h : i < x.length) : (codesL x).getD i 0 = (x.getD i (0, 0, 0, 0, 0)).2.2.1 := by
  rw [getD_of x _ h, getD_of (codesL x) 0 (by simpa [codesL] using h)]; simp [codesL]
theorem specKeys (x : HdX) (hl : x.length ≤ 1048576) :
    LoopOk lc_spec_ReportOf_2 (lf_spec_ReportOf_2 x) (lp_spec_ReportOf_2 x) (1, []) ∧ (loopV lc_spec_ReportOf_2 (lf_spec_ReportOf_2 x) (1, [])).2.Pairwise (· < ·) ∧ ∀ z, z ∈ (loopV lc_spec_ReportOf_2 (lf_spec_ReportOf_2 x) (1, [])).2 ↔ (z ∈ codesL x ∧ 1 ≤ z ∧ z ≤ 56) := by
  have inner : ∀ (c : Int) (l : List Int), l.length ≤ 60 → LoopOk (lc_spec_ReportOf_3 x (c, l)) lf_spec_ReportOf_3 (lp_spec_ReportOf_3 x (c, l)) 0 ∧ iLt (loopV (lc_spec_ReportOf_3 x (c, l)) lf_spec_ReportOf_3 0) (lLen x) = decide (c ∈ codesL x) := by
    intro c l hll
    obtain ⟨h1, h2⟩ := seek_at (c := lc_spec_ReportOf_3 x (c, l)) (f := lf_spec_ReportOf_3) (p := lp_spec_ReportOf_3 x (c, l)) x (0, 0, 0, 0, 0) (fun a => decide (a.2.2.1 = c)) hl
      (fun i hi => by simp only [lc_spec_ReportOf_3, bAnd_eq, iLt_eq, lLen_eq, bNot_eq, iEq_eq, lGet_eq, iNat_eq, Int.toNat_natCast, Int.ofNat_lt])
      (fun i hi => rfl) (fun i hi => by
        have r1 : roomy ((l.length + [c].length) * 1) := by unfold roomy; simp only [List.length_cons, List.length_nil]; omega
        simp only [lp_spec_ReportOf_3, iLt_eq, lLen_eq, iNat_eq, Int.toNat_natCast, decide_eq_true_eq]
        exact ⟨fun h => ⟨⟨by omega, by omega⟩, by omega, fun _ => r1, fun _ => trivial⟩, fun _ => trivial⟩)
    refine ⟨h1, ?_⟩
    rw [h2, Bool.eq_iff_iff, List.any_eq_true, decide_eq_true_eq, codesL, List.mem_map]
    simp only [decide_eq_true_eq]
  have key := loop_one (c := lc_spec_ReportOf_2) (f := lf_spec_ReportOf_2 x) (p := lp_spec_ReportOf_2 x) (x0 := (1, []))
    (fun st => 1 ≤ st.1 ∧ st.1 ≤ 57 ∧ (st.2.length : Int) < st.1 ∧ st.2.Pairwise (· < ·) ∧ ∀ z, z ∈ st.2 ↔ (z ∈ codesL x ∧ 1 ≤ z ∧ z < st.1)) (fun st => 57 - st.1.toNat) (by
    rintro ⟨c, l⟩ ⟨h1, h2, h3, h4, h5⟩
    simp only at h1 h2 h3 h4 h5
    obtain ⟨i1, i2⟩ := inner c l (by omega)
    refine ⟨⟨fun _ => i1, fun _ => trivial⟩, fun h => ?_⟩
    simp only [lc_spec_ReportOf_2, iLe_eq, decide_eq_true_eq] at h
    have s1 : iAdd .i64 c 1 = c + 1 := iAdd_i64 (by unfold In64; omega)
    simp only [lf_spec_ReportOf_2, s1, i2, bSel_eq, lApp_eq, decide_eq_true_eq]
    refine ⟨⟨by omega, by omega, ?_, ?_, fun z => ?_⟩, by omega⟩
    · split
      · simp only [List.length_append, List.length_cons, List.length_nil]; omega
      · omega
    · split
      · refine List.pairwise_append.2 ⟨h4, List.pairwise_singleton _ _, fun a ha b hb => ?_⟩
        rw [List.mem_singleton] at hb
        have := ((h5 a).1 ha).2.2
        omega
      · exact h4
    · split
      · next hb =>
        rw [List.mem_append, List.mem_singleton, h5]
        constructor
        · rintro (⟨a1, a2, a3⟩ | e)
          · exact ⟨a1, a2, by omega⟩
          · subst e; exact ⟨hb, by omega, by omega⟩
        · rintro ⟨a1, a2, a3⟩
          by_cases e : z = c
          · exact .inr e
          · exact .inl ⟨a1, a2, by omega⟩
      · next hb =>
        rw [h5]
        constructor
        · rintro ⟨a1, a2, a3⟩; exact ⟨a1, a2, by omega⟩
        · rintro ⟨a1, a2, a3⟩
          have : z ≠ c := fun e => hb (e ▸ a1)
          exact ⟨a1, a2, by omega⟩) ⟨by simp, by simp, by simp, List.Pairwise.nil, by simp⟩
  obtain ⟨k1, ⟨k2, k3, k4, k5, k6⟩, k7⟩ := key
  simp only [lc_spec_ReportOf_2, iLe_eq, decide_eq_false_iff_not] at k7
  refine ⟨k1, k5, fun z => ?_⟩
  rw [k6]
  constructor
  · rintro ⟨a, b, c⟩; exact ⟨a, b, by omega⟩
  · rintro ⟨a, b, c⟩; exact ⟨a, b, by omega⟩
theorem modsTwo (x : HdX) (hl : x.length ≤ 1048576) :
    LoopOk (lc_spec_ReportOf_1 x) (lf_spec_ReportOf_1 x) (lp_spec_ReportOf_1 x) (0, 0) ∧ LoopOk (lc_impl_ReportOf_1 x) (lf_impl_ReportOf_1 x) (lp_impl_ReportOf_1 x) ([], 0, 0) ∧
    (loopV (lc_impl_ReportOf_1 x) (lf_impl_ReportOf_1 x) ([], 0, 0)).2.2 = (loopV (lc_spec_ReportOf_1 x) (lf_spec_ReportOf_1 x) (0, 0)).2 ∧ (loopV (lc_impl_ReportOf_1 x) (lf_impl_ReportOf_1 x) ([], 0, 0)).1 = codesL x := by
  obtain ⟨a1, a2, ⟨i, h1, h2, h3⟩, a4⟩ := loop_two (c := lc_spec_ReportOf_1 x) (f := lf_spec_ReportOf_1 x) (p := lp_spec_ReportOf_1 x) (d := lc_impl_ReportOf_1 x) (g := lf_impl_ReportOf_1 x) (q := lp_impl_ReportOf_1 x) (x0 := (0, 0)) (y0 := ([], 0, 0))
    (fun s t => ∃ i : Nat, i ≤ x.length ∧ s.1 = (i : Int) ∧ t = ((codesL x).take i, s.1, s.2)) (fun s => x.length - s.1.toNat) (by
      rintro ⟨n, m⟩ t ⟨i, hi, h1, rfl⟩
      simp only at h1
      subst h1
      have hcl : (codesL x).length = x.length := by simp [codesL]
      have hlen : ((codesL x).take i).length = i := by rw [List.length_take]; omega
      have s1 : iAdd .i64 (i : Int) 1 = (i : Int) + 1 := iAdd_i64 (by unfold In64; omega)
      simp only [lc_spec_ReportOf_1, lf_spec_ReportOf_1, lp_spec_ReportOf_1, lc_impl_ReportOf_1, lf_impl_ReportOf_1, lp_impl_ReportOf_1, iLt_eq, lLen_eq, iNat_eq, Int.toNat_natCast, decide_eq_true_eq, s1, hlen, List.length_cons, List.length_nil, lApp_eq, lGet_eq]
      refine ⟨⟨fun h => ⟨⟨⟨by omega, by omega⟩, by omega, fun _ => trivial, fun _ => ⟨⟨by omega, by omega⟩, by omega⟩⟩, fun _ => ⟨⟨by omega, by omega⟩, by omega⟩, fun _ => trivial⟩, fun _ => trivial⟩, ⟨fun h => ⟨⟨by omega, by omega⟩, by omega, by unfold roomy; omega⟩, fun _ => trivial⟩, trivial, fun h => ⟨⟨i + 1, by omega, by omega, ?_⟩, by omega⟩⟩
      have hi' : i < x.length := by omega
      rw [← take_snoc (codesL x) 0 (by omega), codesL_get x hi']) ⟨0, by omega, rfl, rfl⟩
  refine ⟨a1, a2, by rw [h3], ?_⟩
  rw [h3]
  simp only [lc_spec_ReportOf_1, h2, iLt_eq, lLen_eq, decide_eq_false_iff_not] at a4
  rw [List.take_of_length_le]
  simp only [codesL, List.length_map]; omega
theorem reportOf_two (x : HdX) (hl : x.length ≤ 1048576) : ok_spec_ReportOf x ∧ ok_impl_ReportOf x ∧ v_impl_ReportOf x = v_spec_ReportOf x ∧ (v_impl_ReportOf x).2.length ≤ 1048576 := by
  rw [oe_spec_ReportOf, oe_impl_ReportOf, ve_spec_ReportOf, ve_impl_ReportOf, isHeld_eq]
  have o1 := ok_spec_IsHeld_t x hl
  have o2 := ok_impl_IsHeld_t x hl
  by_cases h : v_impl_IsHeld x = true
  · obtain ⟨m1, m2, m3, m4⟩ := modsTwo x hl
    obtain ⟨s1, s2, s3⟩ := specKeys x hl
    have hcl : (codesL x).length = x.length := by simp [codesL]
    obtain ⟨c1, ⟨c2, c3⟩, c4⟩ := codesOf_eq (codesL x) (by omega)
    have hh := isHeld_all hl h
    have e : v_impl_codesOf (codesL x) = (loopV lc_spec_ReportOf_2 (lf_spec_ReportOf_2 x) (1, [])).2 := inc_ext c2 s2 fun z => by
      rw [c3, s3]
      constructor
      · rintro ⟨a, b⟩
        refine ⟨a, ?_⟩
        obtain ⟨k, hk, rfl⟩ := List.mem_map.1 a
        have := isAction_code (hh k hk).2.2.1
        omega
      · rintro ⟨a, b, c⟩; exact ⟨a, by omega⟩
    rw [m3, m4, ← e]
    refine ⟨⟨o1, fun _ => trivial, fun _ => ⟨m1, s1⟩⟩, ⟨o2, fun _ => trivial, fun _ => ⟨m2, c1⟩⟩, rfl, ?_⟩
    rw [bSel_eq]; split
    · simp
    · simp only; omega
  · have hb : bNot (v_impl_IsHeld x) = true := by rw [bNot_eq]; simpa using h
    rw [hb]
    simp [bSel_t, o1, o2]
section
set_option maxRecDepth 8000
noncomputable def dc_spec_l1New : DCode :=
  (.seq [0] (.region [oa 0 2 (.mv (.c .undef))])
  (.seq [3, 0] (.region [on 0 5 0,
 oa 1 6 (.len (.t 5)),
 oa 2 7 (.bin .add (.c (.int .i64 10729)) (.t 6)),
 om 3 3 7])
  (.seq [3, 0] (.seq [4, 3, 0] (.region [oi 0 4 0])
  (.block 0 (.loop [0, 3, 4] 1 (.seq [4, 3, 0] (.seq [15, 4, 3, 0] (.region [om 0 8 4,
 on 1 9 0,
 oa 2 10 (.len (.t 9)),
 oa 3 11 (.bin .lss (.t 8) (.t 10)),
 om 4 12 11,
 og 5 13 (.mv (.t 4)) 12 true,
 og 6 14 (.bin .lss (.t 13) (.c (.int .i64 4000))) 12 true,
 oa 7 15 (.pick (.t 12) (.t 14) (.c (.bool false)))])
  (.cond (.t 15) .skip (.exit 0)))
  (.seq [4, 3, 0] (.block 1 (.region [om 0 18 3,
 oa 1 19 (.bin .mul (.t 18) (.c (.int .i64 131))),
 on 2 20 0,
 om 3 21 4,
 oa 4 22 (.indexA 1 (.t 20) (.t 21)),
 oa 5 23 (.loadH none (.t 22)),
 oa 6 24 (.conv .i64 (.t 23)),
 oa 7 25 (.bin .add (.t 19) (.t 24)),
 oa 8 26 (.bin .add (.t 25) (.c (.int .i64 7))),
 oa 9 27 (.bin .and (.t 26) (.c (.int .i64 1073741823))),
 om 10 3 27]))
  (.region [om 0 16 4,
 oa 1 17 (.bin .add (.t 16) (.c (.int .i64 1))),
 om 2 4 17]))))))
  (.seq [2] (.region [om 0 28 0,
 om 1 29 3,
 oa 2 30 (.build [.nils, (.int .i64 0), (.int .i64 0)] [(0, 1, (.t 28)), (2, 1, (.t 29))]),
 oa 3 31 (.boxH 3 (.t 30)),
 om 4 2 31])
  .ret))))
noncomputable def df_spec_l1New : DFun := ⟨1, 32, 0, false, [.tmp 2], dc_spec_l1New⟩
noncomputable def pf_spec_l1New : PFun := df_spec_l1New.er
noncomputable def f_spec_l1New : AFun := pf_spec_l1New.er
@[irreducible] noncomputable def s_spec_l1New : CallSem := funSem f_spec_l1New
@[irreducible] noncomputable def p_spec_l1New : PSem := pfunSem pf_spec_l1New
theorem sp_spec_l1New : SoundP s_spec_l1New p_spec_l1New := by unfold s_spec_l1New p_spec_l1New; exact pfun_sound (f := pf_spec_l1New) trivial
def h_spec_l1New : List HT := [.one .frz (.sl (.one (.int .u8)))]
def c_spec_l1New : List (Ql × CT) := [(.frz, .sl (.one (.int .u8))), (.own, .int .i64), (.own, .int .i64)]
@[irreducible] noncomputable def v_spec_l1New (x : List (Int)) : List (Int) × Int × Int := (shut fun x => fnNV df_spec_l1New h_spec_l1New c_spec_l1New x).1 x
@[irreducible] noncomputable def ok_spec_l1New (x : List (Int)) : Prop := (shut fun x => fnNOk df_spec_l1New h_spec_l1New c_spec_l1New x).1 x
theorem vu_spec_l1New (x : List (Int)) : v_spec_l1New x = fnNV df_spec_l1New h_spec_l1New c_spec_l1New x := by unfold v_spec_l1New; exact congrFun (shut _).2 x
theorem ou_spec_l1New (x : List (Int)) : ok_spec_l1New x = fnNOk df_spec_l1New h_spec_l1New c_spec_l1New x := by unfold ok_spec_l1New; exact congrFun (shut _).2 x
noncomputable def D_spec_l1New : DSemP := DSemOfN h_spec_l1New c_spec_l1New ok_spec_l1New v_spec_l1New
theorem ck_spec_l1New (x : List (Int)) : fnNChk df_spec_l1New h_spec_l1New c_spec_l1New x = true := by kernel_rfl
theorem ob_spec_l1New : AllD df_spec_l1New.body.obs := trivial
theorem st_spec_l1New : fnNSt df_spec_l1New h_spec_l1New c_spec_l1New = true := by kernel_rfl
theorem sd_spec_l1New : SoundDP p_spec_l1New D_spec_l1New := by unfold p_spec_l1New; exact soundDN_of (f := df_spec_l1New) (hs := h_spec_l1New) (cs := c_spec_l1New) ob_spec_l1New st_spec_l1New ck_spec_l1New (fun x h => Eq.mp (ou_spec_l1New x) h) (fun x => (vu_spec_l1New x).symm)
noncomputable def dc_spec_l1Byte : DCode :=
  (.seq [0] (.region [oi 0 2 0])
  (.seq [0] (.region [om 0 4 0,
 om 1 5 0,
 oa 2 6 (.nilck (.t 5)),
 oa 3 7 (.fieldA 2 (.t 6)),
 oa 4 8 (.loadH none (.t 7)),
 oa 5 9 (.bin .mul (.t 8) (.c (.int .i64 6364136223846793005))),
 oa 6 10 (.bin .add (.t 9) (.c (.int .i64 1442695040888963407))),
 oa 7 11 (.nilck (.t 4)),
 oa 8 12 (.fieldA 2 (.t 11)),
 os 9 (.storeH 1 (.t 12) (.t 10))])
  (.seq [3, 0] (.region [om 0 13 0,
 xA 1 14 (.nilck (.t 13)) (rg 1),
 xA 2 15 (.fieldA 2 (.t 14)) (rg 2),
 xA 3 16 (.loadH none (.t 15)) (rg 3),
 xA 4 17 (.bin .shr (.t 16) (.c (.int .u64 33))) (rg 4),
 om 5 18 0,
 xA 6 19 (.nilck (.t 18)) [5],
 xA 7 20 (.fieldA 2 (.t 19)) [5, 6],
 xA 8 21 (.loadH none (.t 20)) [5, 6, 7],
 xA 9 22 (.bin .shr (.t 21) (.c (.int .u64 45))) [5, 6, 7, 8],
 xA 10 23 (.bin .xor (.t 17) (.t 22)) (rg 10),
 xA 11 24 (.bin .and (.t 23) (.c (.int .i64 255))) (rg 11),
 xA 12 3 (.mv (.t 24)) (rg 12)])
  (.seq [3] (.seq [34, 3, 0] (.region [om 0 25 0,
 xA 1 26 (.nilck (.t 25)) (rg 1),
 xA 2 27 (.fieldA 1 (.t 26)) (rg 2),
 xA 3 28 (.loadH none (.t 27)) (rg 3),
 om 4 29 0,
 xA 5 30 (.nilck (.t 29)) [4],
 xA 6 31 (.fieldA 0 (.t 30)) [4, 5],
 xA 7 32 (.loadH none (.t 31)) [4, 5, 6],
 xA 8 33 (.len (.t 32)) [4, 5, 6, 7],
 xA 9 34 (.bin .lss (.t 28) (.t 33)) (rg 9)])
  (.cond (.t 34) (.seq [3, 0] (.region [om 0 35 3,
 om 1 36 0,
 xA 2 37 (.nilck (.t 36)) [1],
 xA 3 38 (.fieldA 0 (.t 37)) [1, 2],
 xA 4 39 (.loadH none (.t 38)) [1, 2, 3],
 om 5 40 0,
 xA 6 41 (.nilck (.t 40)) [5],
 xA 7 42 (.fieldA 1 (.t 41)) [5, 6],
 xA 8 43 (.loadH none (.t 42)) [5, 6, 7],
 xA 9 44 (.indexA 1 (.t 39) (.t 43)) [1, 2, 3, 4, 5, 6, 7, 8],
 xA 10 45 (.loadH none (.t 44)) [1, 2, 3, 4, 5, 6, 7, 8, 9],
 xA 11 46 (.conv .i64 (.t 45)) [1, 2, 3, 4, 5, 6, 7, 8, 9, 10],
 xA 12 47 (.bin .add (.t 35) (.t 46)) (rg 12),
 xA 13 48 (.bin .and (.t 47) (.c (.int .i64 255))) (rg 13),
 xA 14 3 (.mv (.t 48)) (rg 14)])
  (.region [om 0 49 0,
 om 1 50 0,
 oa 2 51 (.nilck (.t 50)),
 oa 3 52 (.fieldA 1 (.t 51)),
 oa 4 53 (.loadH none (.t 52)),
 oa 5 54 (.bin .add (.t 53) (.c (.int .i64 1))),
 oa 6 55 (.nilck (.t 49)),
 oa 7 56 (.fieldA 1 (.t 55)),
 os 8 (.storeH 1 (.t 56) (.t 54))])) .skip))
  (.seq [2] (.region [om 0 57 3,
 om 1 2 57])
  .ret)))))
noncomputable def df_spec_l1Byte : DFun := ⟨1, 58, 0, false, [.tmp 2], dc_spec_l1Byte⟩
noncomputable def pf_spec_l1Byte : PFun := df_spec_l1Byte.er
noncomputable def f_spec_l1Byte : AFun := pf_spec_l1Byte.er
@[irreducible] noncomputable def s_spec_l1Byte : CallSem := funSem f_spec_l1Byte
@[irreducible] noncomputable def p_spec_l1Byte : PSem := pfunSem pf_spec_l1Byte
theorem sp_spec_l1Byte : SoundP s_spec_l1Byte p_spec_l1Byte := by unfold s_spec_l1Byte p_spec_l1Byte; exact pfun_sound (f := pf_spec_l1Byte) trivial
def h_spec_l1Byte : List HT := []
def c_spec_l1Byte : List (Ql × CT) := [(.frz, .sl (.one (.int .u8))), (.own, .int .i64), (.own, .int .i64)]
def q_spec_l1Byte : QT := .one (.one .own (.int .i64))
@[irreducible] noncomputable def v_spec_l1Byte (x : List (Int) × Int × Int) : Int × (Int × Int) := (shut fun x => fnPV df_spec_l1Byte h_spec_l1Byte c_spec_l1Byte q_spec_l1Byte x).1 x
@[irreducible] noncomputable def ok_spec_l1Byte (x : List (Int) × Int × Int) : Prop := (shut fun x => fnPOk df_spec_l1Byte h_spec_l1Byte c_spec_l1Byte q_spec_l1Byte x).1 x
theorem vu_spec_l1Byte (x : List (Int) × Int × Int) : v_spec_l1Byte x = fnPV df_spec_l1Byte h_spec_l1Byte c_spec_l1Byte q_spec_l1Byte x := by unfold v_spec_l1Byte; exact congrFun (shut _).2 x
theorem ou_spec_l1Byte (x : List (Int) × Int × Int) : ok_spec_l1Byte x = fnPOk df_spec_l1Byte h_spec_l1Byte c_spec_l1Byte q_spec_l1Byte x := by unfold ok_spec_l1Byte; exact congrFun (shut _).2 x
noncomputable def D_spec_l1Byte : DSemP := DSemOfP h_spec_l1Byte c_spec_l1Byte q_spec_l1Byte ok_spec_l1Byte v_spec_l1Byte
theorem ck_spec_l1Byte (x : List (Int) × Int × Int) : fnPChk df_spec_l1Byte h_spec_l1Byte c_spec_l1Byte q_spec_l1Byte x = true := by kernel_rfl
theorem ob_spec_l1Byte : AllD df_spec_l1Byte.body.obs := trivial
theorem st_spec_l1Byte : fnPSt df_spec_l1Byte h_spec_l1Byte c_spec_l1Byte = true := by kernel_rfl
theorem sd_spec_l1Byte : SoundDP p_spec_l1Byte D_spec_l1Byte := by unfold p_spec_l1Byte; exact soundDP_of (f := df_spec_l1Byte) (hs := h_spec_l1Byte) (cs := c_spec_l1Byte) (q := q_spec_l1Byte) ob_spec_l1Byte st_spec_l1Byte ck_spec_l1Byte (fun x h => Eq.mp (ou_spec_l1Byte x) h) (fun x => (vu_spec_l1Byte x).symm)
noncomputable def dc_spec_l1Below : DCode :=
  (.seq [1, 0] (.region [oi 0 4 0])
  (.seq [1, 0] (.seq [10, 1, 0] (.region [om 0 9 1,
 oa 1 10 (.bin .leq (.t 9) (.c (.int .i64 0)))])
  (.cond (.t 10) (.seq [4] (.region [oi 0 4 0])
  .ret) .skip))
  (.seq [1, 0] (.seq [12, 1, 0] (.region [om 0 11 1,
 oa 1 12 (.bin .leq (.t 11) (.c (.int .i64 256)))])
  (.cond (.t 12) (.seq [4] (.region [om 0 13 0,
 op 1 14 s_spec_l1Byte p_spec_l1Byte D_spec_l1Byte [(.t 13)],
 om 2 15 1,
 oa 3 16 (.bin .rem (.t 14) (.t 15)),
 om 4 4 16])
  .ret) .skip))
  (.seq [5, 1, 0] (.region [om 0 17 0,
 op 1 18 s_spec_l1Byte p_spec_l1Byte D_spec_l1Byte [(.t 17)],
 om 2 5 18])
  (.seq [6, 5, 1, 0] (.region [om 0 19 0,
 op 1 20 s_spec_l1Byte p_spec_l1Byte D_spec_l1Byte [(.t 19)],
 om 2 6 20])
  (.seq [7, 6, 5, 1, 0] (.region [om 0 21 0,
 op 1 22 s_spec_l1Byte p_spec_l1Byte D_spec_l1Byte [(.t 21)],
 om 2 7 22])
  (.seq [8, 7, 6, 5, 1] (.region [om 0 23 0,
 op 1 24 s_spec_l1Byte p_spec_l1Byte D_spec_l1Byte [(.t 23)],
 om 2 8 24])
  (.seq [4] (.region [om 0 25 5,
 oa 1 26 (.bin .mul (.t 25) (.c (.int .i64 16777216))),
 om 2 27 6,
 oa 3 28 (.bin .mul (.t 27) (.c (.int .i64 65536))),
 oa 4 29 (.bin .add (.t 26) (.t 28)),
 om 5 30 7,
 oa 6 31 (.bin .mul (.t 30) (.c (.int .i64 256))),
 oa 7 32 (.bin .add (.t 29) (.t 31)),
 om 8 33 8,
 oa 9 34 (.bin .add (.t 32) (.t 33)),
 om 10 35 1,
 oa 11 36 (.bin .rem (.t 34) (.t 35)),
 om 12 4 36])
  .ret))))))))
noncomputable def df_spec_l1Below : DFun := ⟨2, 37, 0, false, [.tmp 4], dc_spec_l1Below⟩
noncomputable def pf_spec_l1Below : PFun := df_spec_l1Below.er
noncomputable def f_spec_l1Below : AFun := pf_spec_l1Below.er
@[irreducible] noncomputable def s_spec_l1Below : CallSem := funSem f_spec_l1Below
@[irreducible] noncomputable def p_spec_l1Below : PSem := pfunSem pf_spec_l1Below
theorem sp_spec_l1Below : SoundP s_spec_l1Below p_spec_l1Below := by unfold s_spec_l1Below p_spec_l1Below; exact pfun_sound (f := pf_spec_l1Below) ⟨sp_spec_l1Byte, sp_spec_l1Byte, sp_spec_l1Byte, sp_spec_l1Byte, sp_spec_l1Byte, trivial⟩
def h_spec_l1Below : List HT := [.one .frz (.int .i64)]
def c_spec_l1Below : List (Ql × CT) := [(.frz, .sl (.one (.int .u8))), (.own, .int .i64), (.own, .int .i64)]
def q_spec_l1Below : QT := .one (.one .own (.int .i64))
@[irreducible] noncomputable def v_spec_l1Below (x : (List (Int) × Int × Int) × Int) : Int × (Int × Int) := (shut fun x => fnPV df_spec_l1Below h_spec_l1Below c_spec_l1Below q_spec_l1Below x).1 x
@[irreducible] noncomputable def ok_spec_l1Below (x : (List (Int) × Int × Int) × Int) : Prop := (shut fun x => fnPOk df_spec_l1Below h_spec_l1Below c_spec_l1Below q_spec_l1Below x).1 x
theorem vu_spec_l1Below (x : (List (Int) × Int × Int) × Int) : v_spec_l1Below x = fnPV df_spec_l1Below h_spec_l1Below c_spec_l1Below q_spec_l1Below x := by unfold v_spec_l1Below; exact congrFun (shut _).2 x
theorem ou_spec_l1Below (x : (List (Int) × Int × Int) × Int) : ok_spec_l1Below x = fnPOk df_spec_l1Below h_spec_l1Below c_spec_l1Below q_spec_l1Below x := by unfold ok_spec_l1Below; exact congrFun (shut _).2 x
noncomputable def D_spec_l1Below : DSemP := DSemOfP h_spec_l1Below c_spec_l1Below q_spec_l1Below ok_spec_l1Below v_spec_l1Below
theorem ck_spec_l1Below (x : (List (Int) × Int × Int) × Int) : fnPChk df_spec_l1Below h_spec_l1Below c_spec_l1Below q_spec_l1Below x = true := by kernel_rfl
theorem ob_spec_l1Below : AllD df_spec_l1Below.body.obs := ⟨sd_spec_l1Byte, sd_spec_l1Byte, sd_spec_l1Byte, sd_spec_l1Byte, sd_spec_l1Byte, trivial⟩
theorem st_spec_l1Below : fnPSt df_spec_l1Below h_spec_l1Below c_spec_l1Below = true := by kernel_rfl
theorem sd_spec_l1Below : SoundDP p_spec_l1Below D_spec_l1Below := by unfold p_spec_l1Below; exact soundDP_of (f := df_spec_l1Below) (hs := h_spec_l1Below) (cs := c_spec_l1Below) (q := q_spec_l1Below) ob_spec_l1Below st_spec_l1Below ck_spec_l1Below (fun x h => Eq.mp (ou_spec_l1Below x) h) (fun x => (vu_spec_l1Below x).symm)
noncomputable def dc_spec_l1Once : DCode :=
  (.seq [1, 0] (.region [oa 0 4 (.mv (.c (.bool false)))])
  (.seq [4] (.region [om 0 5 0,
 om 1 6 1,
 op 2 7 s_spec_l1Below p_spec_l1Below D_spec_l1Below [(.t 5), (.t 6)],
 oa 3 8 (.bin .eql (.t 7) (.c (.int .i64 0))),
 om 4 4 8])
  .ret))
noncomputable def df_spec_l1Once : DFun := ⟨2, 9, 0, false, [.tmp 4], dc_spec_l1Once⟩
noncomputable def pf_spec_l1Once : PFun := df_spec_l1Once.er
noncomputable def f_spec_l1Once : AFun := pf_spec_l1Once.er
@[irreducible] noncomputable def s_spec_l1Once : CallSem := funSem f_spec_l1Once
@[irreducible] noncomputable def p_spec_l1Once : PSem := pfunSem pf_spec_l1Once
theorem sp_spec_l1Once : SoundP s_spec_l1Once p_spec_l1Once := by unfold s_spec_l1Once p_spec_l1Once; exact pfun_sound (f := pf_spec_l1Once) ⟨sp_spec_l1Below, trivial⟩
def h_spec_l1Once : List HT := [.one .frz (.int .i64)]
def c_spec_l1Once : List (Ql × CT) := [(.frz, .sl (.one (.int .u8))), (.own, .int .i64), (.own, .int .i64)]
def q_spec_l1Once : QT := .one (.one .own (.bool))
@[irreducible] noncomputable def v_spec_l1Once (x : (List (Int) × Int × Int) × Int) : Bool × (Int × Int) := (shut fun x => fnPV df_spec_l1Once h_spec_l1Once c_spec_l1Once q_spec_l1Once x).1 x
@[irreducible] noncomputable def ok_spec_l1Once (x : (List (Int) × Int × Int) × Int) : Prop := (shut fun x => fnPOk df_spec_l1Once h_spec_l1Once c_spec_l1Once q_spec_l1Once x).1 x
theorem vu_spec_l1Once (x : (List (Int) × Int × Int) × Int) : v_spec_l1Once x = fnPV df_spec_l1Once h_spec_l1Once c_spec_l1Once q_spec_l1Once x := by unfold v_spec_l1Once; exact congrFun (shut _).2 x
theorem ou_spec_l1Once (x : (List (Int) × Int × Int) × Int) : ok_spec_l1Once x = fnPOk df_spec_l1Once h_spec_l1Once c_spec_l1Once q_spec_l1Once x := by unfold ok_spec_l1Once; exact congrFun (shut _).2 x
noncomputable def D_spec_l1Once : DSemP := DSemOfP h_spec_l1Once c_spec_l1Once q_spec_l1Once ok_spec_l1Once v_spec_l1Once
theorem ck_spec_l1Once (x : (List (Int) × Int × Int) × Int) : fnPChk df_spec_l1Once h_spec_l1Once c_spec_l1Once q_spec_l1Once x = true := by kernel_rfl
theorem ob_spec_l1Once : AllD df_spec_l1Once.body.obs := ⟨sd_spec_l1Below, trivial⟩
theorem st_spec_l1Once : fnPSt df_spec_l1Once h_spec_l1Once c_spec_l1Once = true := by kernel_rfl
theorem sd_spec_l1Once : SoundDP p_spec_l1Once D_spec_l1Once := by unfold p_spec_l1Once; exact soundDP_of (f := df_spec_l1Once) (hs := h_spec_l1Once) (cs := c_spec_l1Once) (q := q_spec_l1Once) ob_spec_l1Once st_spec_l1Once ck_spec_l1Once (fun x h => Eq.mp (ou_spec_l1Once x) h) (fun x => (vu_spec_l1Once x).symm)
noncomputable def dc_laws_big : DCode :=
  (.seq [0] (.region [oa 0 2 (.mv (.c (.bool false)))])
  (.seq [2] (.region [on 0 3 0,
 oa 1 4 (.len (.t 3)),
 oa 2 5 (.bin .gtr (.t 4) (.c (.int .i64 1048576))),
 om 3 2 5])
  .ret))
noncomputable def df_laws_big : DFun := ⟨1, 6, 0, true, [.tmp 2], dc_laws_big⟩
noncomputable def pf_laws_big : PFun := df_laws_big.er
noncomputable def f_laws_big : AFun := pf_laws_big.er
@[irreducible] noncomputable def s_laws_big : CallSem := funSem f_laws_big
@[irreducible] noncomputable def p_laws_big : PSem := pfunSem pf_laws_big
theorem sp_laws_big : SoundP s_laws_big p_laws_big := by unfold s_laws_big p_laws_big; exact pfun_sound (f := pf_laws_big) trivial
def h_laws_big : List HT := [.one .frz (.sl (.one (.int .u8)))]
def q_laws_big : QT := .one (.one .own (.bool))
@[irreducible] noncomputable def v_laws_big (x : List (Int)) : Bool := (shut fun x => fnV df_laws_big h_laws_big q_laws_big x).1 x
@[irreducible] noncomputable def ok_laws_big (x : List (Int)) : Prop := (shut fun x => fnOk df_laws_big h_laws_big q_laws_big x).1 x
theorem vu_laws_big (x : List (Int)) : v_laws_big x = fnV df_laws_big h_laws_big q_laws_big x := by unfold v_laws_big; exact congrFun (shut _).2 x
theorem ou_laws_big (x : List (Int)) : ok_laws_big x = fnOk df_laws_big h_laws_big q_laws_big x := by unfold ok_laws_big; exact congrFun (shut _).2 x
noncomputable def D_laws_big : DSem := DSemOf h_laws_big q_laws_big ok_laws_big v_laws_big
theorem ck_laws_big (x : List (Int)) : fnChk df_laws_big h_laws_big q_laws_big x = true := by kernel_rfl
theorem ob_laws_big : AllD df_laws_big.body.obs := trivial
theorem st_laws_big : fnSt df_laws_big h_laws_big q_laws_big = true := by kernel_rfl
theorem sd_laws_big : SoundD p_laws_big D_laws_big := by unfold p_laws_big; exact soundD_of (f := df_laws_big) (hs := h_laws_big) (q := q_laws_big) ob_laws_big st_laws_big ck_laws_big (fun x h => Eq.mp (ou_laws_big x) h) (fun x => (vu_laws_big x).symm)
end
section
set_option maxRecDepth 100000
noncomputable def lc_spec_l1New_1 (x : List (Int)) (x0 : (Int × Int)) : Bool := (bAnd (iLt x0.2 (lLen x)) (iLt x0.2 4000))
noncomputable def lf_spec_l1New_1 (x : List (Int)) (x0 : (Int × Int)) : (Int × Int) := ((iAnd Go.IntKind.i64 (iAdd Go.IntKind.i64 (iAdd Go.IntKind.i64 (iMul Go.IntKind.i64 x0.1 131) (iConv Go.IntKind.i64 (lGet x (iNat x0.2) 0))) 7) 1073741823), (iAdd Go.IntKind.i64 x0.2 1))
noncomputable def lp_spec_l1New_1 (x : List (Int)) (x0 : (Int × Int)) : Prop := (((bAnd (iLt x0.2 (lLen x)) (iLt x0.2 4000)) = true → ((((0 : Int) ≤ x0.2) ∧ (x0.2 < (((List.length x) : Int)))) ∧ ((iNat x0.2) < (List.length x)))) ∧ ((bAnd (iLt x0.2 (lLen x)) (iLt x0.2 4000)) = false → True))
theorem ve_spec_l1New (x : List (Int)) : v_spec_l1New x = (x, 0, (loopV (lc_spec_l1New_1 x) (lf_spec_l1New_1 x) ((iAdd Go.IntKind.i64 10729 (lLen x)), 0)).1) := (vu_spec_l1New x).trans (by kernel_rfl)
theorem oe_spec_l1New (x : List (Int)) : ok_spec_l1New x = (LoopOk (lc_spec_l1New_1 x) (lf_spec_l1New_1 x) (lp_spec_l1New_1 x) ((iAdd Go.IntKind.i64 10729 (lLen x)), 0)) := (ou_spec_l1New x).trans (by kernel_rfl)
theorem ve_spec_l1Byte (x : List (Int) × Int × Int) : v_spec_l1Byte x = ((bSel (iLt x.2.1 (lLen x.1)) (iAnd Go.IntKind.i64 (iAdd Go.IntKind.i64 (iAnd Go.IntKind.i64 (iXor Go.IntKind.i64 (iShr Go.IntKind.i64 (iAdd Go.IntKind.i64 (iMul Go.IntKind.i64 x.2.2 6364136223846793005) 1442695040888963407) 33) (iShr Go.IntKind.i64 (iAdd Go.IntKind.i64 (iMul Go.IntKind.i64 x.2.2 6364136223846793005) 1442695040888963407) 45)) 255) (iConv Go.IntKind.i64 (lGet x.1 (iNat x.2.1) 0))) 255) (iAnd Go.IntKind.i64 (iXor Go.IntKind.i64 (iShr Go.IntKind.i64 (iAdd Go.IntKind.i64 (iMul Go.IntKind.i64 x.2.2 6364136223846793005) 1442695040888963407) 33) (iShr Go.IntKind.i64 (iAdd Go.IntKind.i64 (iMul Go.IntKind.i64 x.2.2 6364136223846793005) 1442695040888963407) 45)) 255)), (bSel (iLt x.2.1 (lLen x.1)) (iAdd Go.IntKind.i64 x.2.1 1) x.2.1), (iAdd Go.IntKind.i64 (iMul Go.IntKind.i64 x.2.2 6364136223846793005) 1442695040888963407)) := (vu_spec_l1Byte x).trans (by kernel_rfl)
theorem oe_spec_l1Byte (x : List (Int) × Int × Int) : ok_spec_l1Byte x = (((0 : Int) ≤ 33) ∧ (((0 : Int) ≤ 45) ∧ (((iLt x.2.1 (lLen x.1)) = true → ((((0 : Int) ≤ x.2.1) ∧ (x.2.1 < (((List.length x.1) : Int)))) ∧ ((iNat x.2.1) < (List.length x.1)))) ∧ ((iLt x.2.1 (lLen x.1)) = false → True)))) := (ou_spec_l1Byte x).trans (by kernel_rfl)
theorem ve_spec_l1Below (x : (List (Int) × Int × Int) × Int) : v_spec_l1Below x = (bSel (iLe x.2 0) (0, x.1.2) (bSel (iLe x.2 256) ((iRem (v_spec_l1Byte x.1).1 x.2), (v_spec_l1Byte x.1).2) ((iRem (iAdd Go.IntKind.i64 (iAdd Go.IntKind.i64 (iAdd Go.IntKind.i64 (iMul Go.IntKind.i64 (v_spec_l1Byte x.1).1 16777216) (iMul Go.IntKind.i64 (v_spec_l1Byte (x.1.1, (v_spec_l1Byte x.1).2)).1 65536)) (iMul Go.IntKind.i64 (v_spec_l1Byte (x.1.1, (v_spec_l1Byte (x.1.1, (v_spec_l1Byte x.1).2)).2)).1 256)) (v_spec_l1Byte (x.1.1, (v_spec_l1Byte (x.1.1, (v_spec_l1Byte (x.1.1, (v_spec_l1Byte x.1).2)).2)).2)).1) x.2), (v_spec_l1Byte (x.1.1, (v_spec_l1Byte (x.1.1, (v_spec_l1Byte (x.1.1, (v_spec_l1Byte x.1).2)).2)).2)).2))) := (vu_spec_l1Below x).trans (by kernel_rfl)
theorem oe_spec_l1Below (x : (List (Int) × Int × Int) × Int) : ok_spec_l1Below x = (((iLe x.2 0) = true → True) ∧ ((iLe x.2 0) = false → (((iLe x.2 256) = true → ((ok_spec_l1Byte x.1) ∧ (x.2 ≠ 0))) ∧ ((iLe x.2 256) = false → ((ok_spec_l1Byte x.1) ∧ ((ok_spec_l1Byte (x.1.1, (v_spec_l1Byte x.1).2)) ∧ ((ok_spec_l1Byte (x.1.1, (v_spec_l1Byte (x.1.1, (v_spec_l1Byte x.1).2)).2)) ∧ ((ok_spec_l1Byte (x.1.1, (v_spec_l1Byte (x.1.1, (v_spec_l1Byte (x.1.1, (v_spec_l1Byte x.1).2)).2)).2)) ∧ (x.2 ≠ 0))))))))) := (ou_spec_l1Below x).trans (by kernel_rfl)
theorem ve_spec_l1Once (x : (List (Int) × Int × Int) × Int) : v_spec_l1Once x = ((iEq (v_spec_l1Below x).1 0), (v_spec_l1Below x).2) := (vu_spec_l1Once x).trans (by kernel_rfl)
theorem oe_spec_l1Once (x : (List (Int) × Int × Int) × Int) : ok_spec_l1Once x = (ok_spec_l1Below x) := (ou_spec_l1Once x).trans (by kernel_rfl)
theorem ve_laws_big (x : List (Int)) : v_laws_big x = (iGt (lLen x) 1048576) := (vu_laws_big x).trans (by kernel_rfl)
theorem oe_laws_big (x : List (Int)) : ok_laws_big x = True := (ou_laws_big x).trans (by kernel_rfl)
end
def CurOk (c : List Int × Int × Int) : Prop := 0 ≤ c.2.1 ∧ c.2.1 ≤ c.1.length ∧ c.1.length ≤ 1048576
theorem and255 (x : Int) : 0 ≤ iAnd .i64 x 255 ∧ iAnd .i64 x 255 ≤ 255 := by
  rw [iAnd_u]
  have h : (BitVec.ofInt IntKind.i64.bits x &&& BitVec.ofInt IntKind.i64.bits 255).toNat ≤ 255 := by
    rw [BitVec.toNat_and]
    exact Nat.and_le_right
  have : IntKind.i64.wrap ((BitVec.ofInt IntKind.i64.bits x &&& BitVec.ofInt IntKind.i64.bits 255).toNat : Int) = ((BitVec.ofInt IntKind.i64.bits x &&& BitVec.ofInt IntKind.i64.bits 255).toNat : Int) := wrap_i64 (by unfold In64; omega)
  rw [this]; omega
theorem byte_ok (c : List Int × Int × Int) (h : CurOk c) : ok_spec_l1Byte c ∧ 0 ≤ (v_spec_l1Byte c).1 ∧ (v_spec_l1Byte c).1 ≤ 255 ∧ CurOk (c.1, (v_spec_l1Byte c).2) := by
  obtain ⟨h1, h2, h3⟩ := h
  rw [oe_spec_l1Byte, ve_spec_l1Byte]
  simp only [bSel_eq, iLt_eq, lLen_eq, iNat_eq, decide_eq_true_eq, decide_eq_false_iff_not]
  refine ⟨⟨by omega, by omega, fun _ => by omega, fun _ => trivial⟩, ?_, ?_, ?_⟩
  · split
    · exact (and255 _).1
    · exact (and255 _).1
  · split
    · exact (and255 _).2
    · exact (and255 _).2
  · unfold CurOk
    simp only
    split
    · rw [iAdd_i64 (by unfold In64; omega)]; omega
    · omega
theorem below_ok (c : List Int × Int × Int) (n : Int) (h : CurOk c) : ok_spec_l1Below (c, n) ∧ CurOk (c.1, (v_spec_l1Below (c, n)).2) ∧ (n ≤ 0 → (v_spec_l1Below (c, n)).1 = 0) ∧ (0 < n → 0 ≤ (v_spec_l1Below (c, n)).1 ∧ (v_spec_l1Below (c, n)).1 < n) := by
  rw [oe_spec_l1Below, ve_spec_l1Below]
  obtain ⟨a1, a2, a3, a4⟩ := byte_ok c h
  obtain ⟨b1, b2, b3, b4⟩ := byte_ok _ a4
  obtain ⟨c1, c2, c3, c4⟩ := byte_ok _ b4
  obtain ⟨d1, d2, d3, d4⟩ := byte_ok _ c4
  simp only at b1 b2 b3 b4 c1 c2 c3 c4 d1 d2 d3 d4 ⊢
  simp only [bSel_eq, iLe_eq, decide_eq_true_eq, decide_eq_false_iff_not]
  by_cases hn : n ≤ 0
  · simp only [if_pos hn]
    exact ⟨⟨fun _ => trivial, fun h => absurd hn h⟩, h, fun _ => trivial, fun h => by omega⟩
  · simp only [if_neg hn]
    by_cases hm : n ≤ 256
    · simp only [if_pos hm]
      refine ⟨⟨fun h => absurd h hn, fun _ => ⟨fun _ => ⟨a1, by omega⟩, fun h => absurd hm h⟩⟩, a4, fun h => absurd h hn, fun _ => ?_⟩
      rw [iRem_nn a2]
      exact ⟨Int.emod_nonneg _ (by omega), Int.emod_lt_of_pos _ (by omega)⟩
    · simp only [if_neg hm]
      refine ⟨⟨fun h => absurd h hn, fun _ => ⟨fun h => absurd h hm, fun _ => ⟨a1, b1, c1, d1, by omega⟩⟩⟩, d4, fun h => absurd h hn, fun _ => ?_⟩
      generalize (v_spec_l1Byte c).1 = p at a2 a3
      generalize (v_spec_l1Byte (c.1, (v_spec_l1Byte c).2)).1 = q at b2 b3
      generalize (v_spec_l1Byte (c.1, (v_spec_l1Byte (c.1, (v_spec_l1Byte c).2)).2)).1 = r at c2 c3
      generalize (v_spec_l1Byte (c.1, (v_spec_l1Byte (c.1, (v_spec_l1Byte (c.1, (v_spec_l1Byte c).2)).2)).2)).1 = s at d2 d3
      rw [iMul_i64 (a := p) (by unfold In64; omega), iMul_i64 (a := q) (by unfold In64; omega), iMul_i64 (a := r) (by unfold In64; omega), iAdd_i64 (a := p * 16777216) (by unfold In64; omega), iAdd_i64 (a := p * 16777216 + q * 65536) (by unfold In64; omega), iAdd_i64 (a := p * 16777216 + q * 65536 + r * 256) (by unfold In64; omega), iRem_nn (by omega)]
      exact ⟨Int.emod_nonneg _ (by omega), Int.emod_lt_of_pos _ (by omega)⟩
theorem once_ok (c : List Int × Int × Int) (n : Int) (h : CurOk c) : ok_spec_l1Once (c, n) ∧ CurOk (c.1, (v_spec_l1Once (c, n)).2) := by
  obtain ⟨a1, a2, _⟩ := below_ok c n h
  rw [oe_spec_l1Once, ve_spec_l1Once]
  exact ⟨a1, a2⟩
theorem new_ok (x : List Int) (h : x.length ≤ 1048576) : ok_spec_l1New x ∧ CurOk (v_spec_l1New x) ∧ (v_spec_l1New x).1 = x := by
  rw [oe_spec_l1New, ve_spec_l1New]
  refine ⟨?_, ⟨by simp, by simp, h⟩, rfl⟩
  refine cnt_ok (fun st => st.2) x.length (by omega) (fun st _ _ hc => ?_) (fun _ => rfl) (fun st h0 h1 => ?_) (by simp) (by simp)
  · unfold lc_spec_l1New_1 at hc
    simp only [bAnd_eq, iLt_eq, lLen_eq, Bool.and_eq_true, decide_eq_true_eq] at hc
    exact hc.1
  · unfold lp_spec_l1New_1
    refine ⟨fun hc => ?_, fun _ => trivial⟩
    simp only [bAnd_eq, iLt_eq, lLen_eq, Bool.and_eq_true, decide_eq_true_eq] at hc
    rw [iNat_eq]; omega
theorem big_eq (x : List Int) : v_laws_big x = decide (1048576 < x.length) ∧ ok_laws_big x := by
  rw [ve_laws_big, oe_laws_big]
  refine ⟨?_, trivial⟩
  rw [iGt_eq, lLen_eq]
  congr 1
  exact propext (by omega)
section
set_option maxRecDepth 8000
noncomputable def dc_spec_l24New : DCode :=
  (.seq [1, 0] (.region [oa 0 4 (.mv (.c .undef))])
  (.seq [5, 1] (.region [on 0 6 0,
 op 1 7 s_spec_l1New p_spec_l1New D_spec_l1New [(.t 6)],
 om 2 5 7])
  (.seq [5] (.region [om 0 8 5,
 om 1 9 5,
 oa 2 10 (.nilck (.t 9)),
 oa 3 11 (.fieldA 2 (.t 10)),
 oa 4 12 (.loadH none (.t 11)),
 om 5 13 1,
 oa 6 14 (.bin .mul (.c (.int .i64 7919)) (.t 13)),
 oa 7 15 (.bin .add (.t 12) (.t 14)),
 oa 8 16 (.nilck (.t 8)),
 oa 9 17 (.fieldA 2 (.t 16)),
 os 10 (.storeH 1 (.t 17) (.t 15))])
  (.seq [4] (.region [om 0 18 5,
 om 1 4 18])
  .ret))))
noncomputable def df_spec_l24New : DFun := ⟨2, 19, 0, false, [.tmp 4], dc_spec_l24New⟩
noncomputable def pf_spec_l24New : PFun := df_spec_l24New.er
noncomputable def f_spec_l24New : AFun := pf_spec_l24New.er
@[irreducible] noncomputable def s_spec_l24New : CallSem := funSem f_spec_l24New
@[irreducible] noncomputable def p_spec_l24New : PSem := pfunSem pf_spec_l24New
theorem sp_spec_l24New : SoundP s_spec_l24New p_spec_l24New := by unfold s_spec_l24New p_spec_l24New; exact pfun_sound (f := pf_spec_l24New) ⟨sp_spec_l1New, trivial⟩
def h_spec_l24New : List HT := [.one .frz (.sl (.one (.int .u8))), .one .frz (.int .i64)]
def c_spec_l24New : List (Ql × CT) := [(.frz, .sl (.one (.int .u8))), (.own, .int .i64), (.own, .int .i64)]
@[irreducible] noncomputable def v_spec_l24New (x : List (Int) × Int) : List (Int) × Int × Int := (shut fun x => fnNV df_spec_l24New h_spec_l24New c_spec_l24New x).1 x
@[irreducible] noncomputable def ok_spec_l24New (x : List (Int) × Int) : Prop := (shut fun x => fnNOk df_spec_l24New h_spec_l24New c_spec_l24New x).1 x
theorem vu_spec_l24New (x : List (Int) × Int) : v_spec_l24New x = fnNV df_spec_l24New h_spec_l24New c_spec_l24New x := by unfold v_spec_l24New; exact congrFun (shut _).2 x
theorem ou_spec_l24New (x : List (Int) × Int) : ok_spec_l24New x = fnNOk df_spec_l24New h_spec_l24New c_spec_l24New x := by unfold ok_spec_l24New; exact congrFun (shut _).2 x
noncomputable def D_spec_l24New : DSemP := DSemOfN h_spec_l24New c_spec_l24New ok_spec_l24New v_spec_l24New
theorem ck_spec_l24New (x : List (Int) × Int) : fnNChk df_spec_l24New h_spec_l24New c_spec_l24New x = true := by kernel_rfl
theorem ob_spec_l24New : AllD df_spec_l24New.body.obs := ⟨sd_spec_l1New, trivial⟩
theorem st_spec_l24New : fnNSt df_spec_l24New h_spec_l24New c_spec_l24New = true := by kernel_rfl
theorem sd_spec_l24New : SoundDP p_spec_l24New D_spec_l24New := by unfold p_spec_l24New; exact soundDN_of (f := df_spec_l24New) (hs := h_spec_l24New) (cs := c_spec_l24New) ob_spec_l24New st_spec_l24New ck_spec_l24New (fun x h => Eq.mp (ou_spec_l24New x) h) (fun x => (vu_spec_l24New x).symm)
noncomputable def dc_spec_l5Draw : DCode :=
  (.seq [4, 1, 0] (.region [oa 0 4 (.allocB 0 [(.int .i64 0), (.int .i64 0), (.int .i64 0), (.int .i64 0)])])
  (.seq [5, 4, 1, 0] (.region [om 0 8 0,
 op 1 9 s_spec_l1Below p_spec_l1Below D_spec_l1Below [(.t 8), (.c (.int .i64 56))],
 oa 2 10 (.bin .add (.c (.int .i64 1)) (.t 9)),
 om 3 5 10])
  (.seq [6, 5, 4, 1, 0] (.region [om 0 11 0,
 op 1 12 s_spec_l1Below p_spec_l1Below D_spec_l1Below [(.t 11), (.c (.int .i64 15))],
 oa 2 13 (.bin .add (.c (.int .i64 1)) (.t 12)),
 om 3 6 13])
  (.seq [6, 5, 4, 1, 0] (.seq [15, 6, 5, 4, 1, 0] (.region [om 0 14 0,
 op 1 15 s_spec_l1Once p_spec_l1Once D_spec_l1Once [(.t 14), (.c (.int .i64 2))]])
  (.cond (.t 15) (.region [oi 0 6 2]) .skip))
  (.seq [7, 6, 5, 4, 1, 0] (.region [om 0 16 0,
 om 1 17 1,
 oa 2 18 (.bin .sub (.t 17) (.c (.int .i64 1))),
 oa 3 19 (.maxI (.c (.int .i64 1)) (.t 18)),
 op 4 20 s_spec_l1Below p_spec_l1Below D_spec_l1Below [(.t 16), (.t 19)],
 oa 5 21 (.bin .add (.c (.int .i64 1)) (.t 20)),
 om 6 7 21])
  (.seq [5, 4] (.seq [23, 7, 6, 5, 4, 1, 0] (.region [om 0 22 0,
 op 1 23 s_spec_l1Below p_spec_l1Below D_spec_l1Below [(.t 22), (.c (.int .i64 16))]])
  (.block 0 (.seq [24, 23, 7, 6, 5, 4, 1, 0] (.region [oa 0 25 (.bin .eql (.t 23) (.c (.int .i64 0))),
 om 1 24 25])
  (.cond (.t 24) (.seq [4] (.region [om 0 26 5,
 om 1 27 6,
 oa 2 28 (.build [(.int .i64 0), (.int .i64 0), (.int .i64 0), (.int .i64 0)] [(0, 1, (.c (.int .i64 2))), (1, 1, (.t 26)), (2, 1, (.t 27))]),
 os 3 (.storeB 0 4 (.t 4) (.t 28))])
  .ret) (.seq [29, 23, 7, 6, 5, 4, 1, 0] (.region [oa 0 30 (.bin .eql (.t 23) (.c (.int .i64 1))),
 om 1 29 30])
  (.cond (.t 29) (.seq [4] (.region [om 0 31 6,
 oa 1 32 (.build [(.int .i64 0), (.int .i64 0), (.int .i64 0), (.int .i64 0)] [(0, 1, (.c (.int .i64 2))), (2, 1, (.t 31))]),
 os 2 (.storeB 0 4 (.t 4) (.t 32))])
  .ret) (.seq [33, 23, 7, 6, 5, 4, 1, 0] (.seq [33, 23, 7, 6, 5, 4, 1, 0] (.region [oa 0 34 (.bin .eql (.t 23) (.c (.int .i64 2))),
 om 1 33 34])
  (.cond (.t 33) .skip (.region [oa 0 35 (.bin .eql (.t 23) (.c (.int .i64 3))),
 om 1 33 35])))
  (.cond (.t 33) (.seq [4] (.region [om 0 36 5,
 om 1 37 6,
 oa 2 38 (.build [(.int .i64 0), (.int .i64 0), (.int .i64 0), (.int .i64 0)] [(0, 1, (.c (.int .i64 6))), (1, 1, (.t 36)), (2, 1, (.t 37))]),
 os 3 (.storeB 0 4 (.t 4) (.t 38))])
  .ret) (.seq [39, 23, 7, 6, 5, 4, 1, 0] (.region [oa 0 40 (.bin .eql (.t 23) (.c (.int .i64 4))),
 om 1 39 40])
  (.cond (.t 39) (.seq [4] (.region [om 0 41 6,
 oa 1 42 (.build [(.int .i64 0), (.int .i64 0), (.int .i64 0), (.int .i64 0)] [(0, 1, (.c (.int .i64 8))), (2, 1, (.t 41))]),
 os 2 (.storeB 0 4 (.t 4) (.t 42))])
  .ret) (.seq [43, 23, 7, 5, 4, 1, 0] (.region [oa 0 44 (.bin .eql (.t 23) (.c (.int .i64 5))),
 om 1 43 44])
  (.cond (.t 43) (.seq [4] (.region [om 0 45 0,
 op 1 46 s_spec_l1Below p_spec_l1Below D_spec_l1Below [(.t 45), (.c (.int .i64 4))],
 oa 2 47 (.build [(.int .i64 0), (.int .i64 0), (.int .i64 0), (.int .i64 0)] [(0, 1, (.c (.int .i64 9))), (3, 1, (.t 46))]),
 os 3 (.storeB 0 4 (.t 4) (.t 47))])
  .ret) (.seq [48, 23, 7, 5, 4, 1, 0] (.region [oa 0 49 (.bin .eql (.t 23) (.c (.int .i64 6))),
 om 1 48 49])
  (.cond (.t 48) (.seq [4] (.region [oa 0 50 (.build [(.int .i64 0), (.int .i64 0), (.int .i64 0), (.int .i64 0)] [(0, 1, (.c (.int .i64 10)))]),
 os 1 (.storeB 0 4 (.t 4) (.t 50))])
  .ret) (.seq [51, 23, 7, 5, 4, 1, 0] (.region [oa 0 52 (.bin .eql (.t 23) (.c (.int .i64 7))),
 om 1 51 52])
  (.cond (.t 51) (.seq [4] (.region [om 0 53 0,
 om 1 54 1,
 oa 2 55 (.maxI (.c (.int .i64 1)) (.t 54)),
 op 3 56 s_spec_l1Below p_spec_l1Below D_spec_l1Below [(.t 53), (.t 55)],
 oa 4 57 (.build [(.int .i64 0), (.int .i64 0), (.int .i64 0), (.int .i64 0)] [(0, 1, (.c (.int .i64 5))), (3, 1, (.t 56))]),
 os 5 (.storeB 0 4 (.t 4) (.t 57))])
  .ret) (.seq [58, 7, 5, 4, 1, 0] (.seq [58, 23, 7, 5, 4, 1, 0] (.region [oa 0 59 (.bin .eql (.t 23) (.c (.int .i64 8))),
 om 1 58 59])
  (.cond (.t 58) .skip (.seq [58, 23, 7, 5, 4, 1, 0] (.region [oa 0 60 (.bin .eql (.t 23) (.c (.int .i64 9))),
 om 1 58 60])
  (.cond (.t 58) .skip (.region [oa 0 61 (.bin .eql (.t 23) (.c (.int .i64 10))),
 om 1 58 61])))))
  (.cond (.t 58) (.seq [63, 7, 5, 4, 0] (.region [om 0 62 1,
 oa 1 63 (.bin .gtr (.t 62) (.c (.int .i64 1)))])
  (.cond (.t 63) (.seq [4] (.region [om 0 64 7,
 oa 1 65 (.build [(.int .i64 0), (.int .i64 0), (.int .i64 0), (.int .i64 0)] [(0, 1, (.c (.int .i64 3))), (3, 1, (.t 64))]),
 om 2 66 7,
 oa 3 67 (.build [(.int .i64 0), (.int .i64 0), (.int .i64 0), (.int .i64 0)] [(0, 1, (.c (.int .i64 4))), (3, 1, (.t 66))]),
 om 4 68 5,
 om 5 69 7,
 oa 6 70 (.build [(.int .i64 0), (.int .i64 0), (.int .i64 0), (.int .i64 0)] [(0, 1, (.c (.int .i64 7))), (1, 1, (.t 68)), (3, 1, (.t 69))]),
 ⟨7, some 71, .a false (.litSlice 4 3 [(.int .i64 0), (.int .i64 0), (.int .i64 0), (.int .i64 0), (.int .i64 0), (.int .i64 0), (.int .i64 0), (.int .i64 0), (.int .i64 0), (.int .i64 0), (.int .i64 0), (.int .i64 0)] [(0, 4, (.t 65)), (4, 4, (.t 67)), (8, 4, (.t 70))]) (some (.cons (.int .i64) (.cons (.int .i64) (.cons (.int .i64) (.one (.int .i64)))))), none, []⟩,
 om 8 72 0,
 op 9 73 s_spec_l1Below p_spec_l1Below D_spec_l1Below [(.t 72), (.c (.int .i64 3))],
 oa 10 74 (.indexA 4 (.t 71) (.t 73)),
 ob 11 75 (.loadH (some 4) (.t 74)),
 os 12 (.storeB 0 4 (.t 4) (.t 75))])
  .ret) .skip)) .skip))))))))))))))))))
  (.seq [4] (.region [om 0 76 5,
 oa 1 77 (.build [(.int .i64 0), (.int .i64 0), (.int .i64 0), (.int .i64 0)] [(0, 1, (.c (.int .i64 2))), (1, 1, (.t 76))]),
 os 2 (.storeB 0 4 (.t 4) (.t 77))])
  .ret)))))))
noncomputable def df_spec_l5Draw : DFun := ⟨2, 78, 1, false, [.cell 4 (some 4)], dc_spec_l5Draw⟩
noncomputable def pf_spec_l5Draw : PFun := df_spec_l5Draw.er
noncomputable def f_spec_l5Draw : AFun := pf_spec_l5Draw.er
@[irreducible] noncomputable def s_spec_l5Draw : CallSem := funSem f_spec_l5Draw
@[irreducible] noncomputable def p_spec_l5Draw : PSem := pfunSem pf_spec_l5Draw
theorem sp_spec_l5Draw : SoundP s_spec_l5Draw p_spec_l5Draw := by unfold s_spec_l5Draw p_spec_l5Draw; exact pfun_sound (f := pf_spec_l5Draw) ⟨sp_spec_l1Below, sp_spec_l1Below, sp_spec_l1Once, sp_spec_l1Below, sp_spec_l1Below, sp_spec_l1Below, sp_spec_l1Below, sp_spec_l1Below, trivial⟩
def h_spec_l5Draw : List HT := [.one .frz (.int .i64)]
def c_spec_l5Draw : List (Ql × CT) := [(.frz, .sl (.one (.int .u8))), (.own, .int .i64), (.own, .int .i64)]
def q_spec_l5Draw : QT := .one (.agg [(.own, .int .i64), (.own, .int .i64), (.own, .int .i64), (.own, .int .i64)])
@[irreducible] noncomputable def v_spec_l5Draw (x : (List (Int) × Int × Int) × Int) : (Int × Int × Int × Int) × (Int × Int) := (shut fun x => fnPV df_spec_l5Draw h_spec_l5Draw c_spec_l5Draw q_spec_l5Draw x).1 x
@[irreducible] noncomputable def ok_spec_l5Draw (x : (List (Int) × Int × Int) × Int) : Prop := (shut fun x => fnPOk df_spec_l5Draw h_spec_l5Draw c_spec_l5Draw q_spec_l5Draw x).1 x
theorem vu_spec_l5Draw (x : (List (Int) × Int × Int) × Int) : v_spec_l5Draw x = fnPV df_spec_l5Draw h_spec_l5Draw c_spec_l5Draw q_spec_l5Draw x := by unfold v_spec_l5Draw; exact congrFun (shut _).2 x
theorem ou_spec_l5Draw (x : (List (Int) × Int × Int) × Int) : ok_spec_l5Draw x = fnPOk df_spec_l5Draw h_spec_l5Draw c_spec_l5Draw q_spec_l5Draw x := by unfold ok_spec_l5Draw; exact congrFun (shut _).2 x
noncomputable def D_spec_l5Draw : DSemP := DSemOfP h_spec_l5Draw c_spec_l5Draw q_spec_l5Draw ok_spec_l5Draw v_spec_l5Draw
theorem ck_spec_l5Draw (x : (List (Int) × Int × Int) × Int) : fnPChk df_spec_l5Draw h_spec_l5Draw c_spec_l5Draw q_spec_l5Draw x = true := by kernel_rfl
theorem ob_spec_l5Draw : AllD df_spec_l5Draw.body.obs := ⟨sd_spec_l1Below, sd_spec_l1Below, sd_spec_l1Once, sd_spec_l1Below, sd_spec_l1Below, sd_spec_l1Below, sd_spec_l1Below, sd_spec_l1Below, trivial⟩
theorem st_spec_l5Draw : fnPSt df_spec_l5Draw h_spec_l5Draw c_spec_l5Draw = true := by kernel_rfl
theorem sd_spec_l5Draw : SoundDP p_spec_l5Draw D_spec_l5Draw := by unfold p_spec_l5Draw; exact soundDP_of (f := df_spec_l5Draw) (hs := h_spec_l5Draw) (cs := c_spec_l5Draw) (q := q_spec_l5Draw) ob_spec_l5Draw st_spec_l5Draw ck_spec_l5Draw (fun x h => Eq.mp (ou_spec_l5Draw x) h) (fun x => (vu_spec_l5Draw x).symm)
noncomputable def dc_spec_HoldOf : DCode :=
  (.seq [2, 1] (.region [oa 0 1 (.boxB 0 4 (.t 0)),
 oa 1 2 (.allocB 1 [(.int .i64 0), (.int .i64 0), (.int .i64 0), (.int .i64 0)])])
  (.seq [2, 1] (.seq [5, 2, 1] (.region [oa 0 3 (.loadB 0 (some 4) (.t 1)),
 oc 1 4 s_spec_IsTapHold p_spec_IsTapHold D_spec_IsTapHold [(.t 3)],
 oa 2 5 (.un .not (.t 4))])
  (.cond (.t 5) (.seq [2] (.region [ob 0 6 (.loadB 0 (some 4) (.t 1)),
 os 1 (.storeB 1 4 (.t 2) (.t 6))])
  .ret) .skip))
  (.seq [2, 1] (.seq [9, 2, 1] (.region [oa 0 7 (.fieldA 0 (.t 1)),
 oa 1 8 (.loadB 0 none (.t 7)),
 oa 2 9 (.bin .eql (.t 8) (.c (.int .i64 6)))])
  (.cond (.t 9) (.seq [2] (.region [oa 0 10 (.fieldA 2 (.t 1)),
 ob 1 11 (.loadB 0 none (.t 10)),
 oa 2 12 (.build [(.int .i64 0), (.int .i64 0), (.int .i64 0), (.int .i64 0)] [(0, 1, (.c (.int .i64 2))), (2, 1, (.t 11))]),
 os 3 (.storeB 1 4 (.t 2) (.t 12))])
  .ret) .skip))
  (.seq [2] (.region [oa 0 13 (.fieldA 3 (.t 1)),
 ob 1 14 (.loadB 0 none (.t 13)),
 oa 2 15 (.build [(.int .i64 0), (.int .i64 0), (.int .i64 0), (.int .i64 0)] [(0, 1, (.c (.int .i64 3))), (3, 1, (.t 14))]),
 os 3 (.storeB 1 4 (.t 2) (.t 15))])
  .ret))))
noncomputable def df_spec_HoldOf : DFun := ⟨1, 16, 2, true, [.cell 2 (some 4)], dc_spec_HoldOf⟩
noncomputable def pf_spec_HoldOf : PFun := df_spec_HoldOf.er
noncomputable def f_spec_HoldOf : AFun := pf_spec_HoldOf.er
@[irreducible] noncomputable def s_spec_HoldOf : CallSem := funSem f_spec_HoldOf
@[irreducible] noncomputable def p_spec_HoldOf : PSem := pfunSem pf_spec_HoldOf
theorem sp_spec_HoldOf : SoundP s_spec_HoldOf p_spec_HoldOf := by unfold s_spec_HoldOf p_spec_HoldOf; exact pfun_sound (f := pf_spec_HoldOf) ⟨sp_spec_IsTapHold, trivial⟩
def h_spec_HoldOf : List HT := [.agg [(.frz, .int .i64), (.frz, .int .i64), (.frz, .int .i64), (.frz, .int .i64)]]
def q_spec_HoldOf : QT := .one (.agg [(.own, .int .i64), (.own, .int .i64), (.own, .int .i64), (.own, .int .i64)])
@[irreducible] noncomputable def v_spec_HoldOf (x : Int × Int × Int × Int) : Int × Int × Int × Int := (shut fun x => fnV df_spec_HoldOf h_spec_HoldOf q_spec_HoldOf x).1 x
@[irreducible] noncomputable def ok_spec_HoldOf (x : Int × Int × Int × Int) : Prop := (shut fun x => fnOk df_spec_HoldOf h_spec_HoldOf q_spec_HoldOf x).1 x
theorem vu_spec_HoldOf (x : Int × Int × Int × Int) : v_spec_HoldOf x = fnV df_spec_HoldOf h_spec_HoldOf q_spec_HoldOf x := by unfold v_spec_HoldOf; exact congrFun (shut _).2 x
theorem ou_spec_HoldOf (x : Int × Int × Int × Int) : ok_spec_HoldOf x = fnOk df_spec_HoldOf h_spec_HoldOf q_spec_HoldOf x := by unfold ok_spec_HoldOf; exact congrFun (shut _).2 x
noncomputable def D_spec_HoldOf : DSem := DSemOf h_spec_HoldOf q_spec_HoldOf ok_spec_HoldOf v_spec_HoldOf
theorem ck_spec_HoldOf (x : Int × Int × Int × Int) : fnChk df_spec_HoldOf h_spec_HoldOf q_spec_HoldOf x = true := by kernel_rfl
theorem ob_spec_HoldOf : AllD df_spec_HoldOf.body.obs := ⟨sd_spec_IsTapHold, trivial⟩
theorem st_spec_HoldOf : fnSt df_spec_HoldOf h_spec_HoldOf q_spec_HoldOf = true := by kernel_rfl
theorem sd_spec_HoldOf : SoundD p_spec_HoldOf D_spec_HoldOf := by unfold p_spec_HoldOf; exact soundD_of (f := df_spec_HoldOf) (hs := h_spec_HoldOf) (q := q_spec_HoldOf) ob_spec_HoldOf st_spec_HoldOf ck_spec_HoldOf (fun x h => Eq.mp (ou_spec_HoldOf x) h) (fun x => (vu_spec_HoldOf x).symm)
noncomputable def dc_spec_TapOf : DCode :=
  (.seq [2, 1] (.region [oa 0 1 (.boxB 0 4 (.t 0)),
 oa 1 2 (.allocB 1 [(.int .i64 0), (.int .i64 0), (.int .i64 0), (.int .i64 0)])])
  (.seq [2, 1] (.seq [5, 2, 1] (.region [oa 0 3 (.loadB 0 (some 4) (.t 1)),
 oc 1 4 s_spec_IsTapHold p_spec_IsTapHold D_spec_IsTapHold [(.t 3)],
 oa 2 5 (.un .not (.t 4))])
  (.cond (.t 5) (.seq [2] (.region [ob 0 6 (.loadB 0 (some 4) (.t 1)),
 os 1 (.storeB 1 4 (.t 2) (.t 6))])
  .ret) .skip))
  (.seq [2] (.region [oa 0 7 (.fieldA 1 (.t 1)),
 ob 1 8 (.loadB 0 none (.t 7)),
 oa 2 9 (.build [(.int .i64 0), (.int .i64 0), (.int .i64 0), (.int .i64 0)] [(0, 1, (.c (.int .i64 2))), (1, 1, (.t 8))]),
 os 3 (.storeB 1 4 (.t 2) (.t 9))])
  .ret)))
noncomputable def df_spec_TapOf : DFun := ⟨1, 10, 2, true, [.cell 2 (some 4)], dc_spec_TapOf⟩
noncomputable def pf_spec_TapOf : PFun := df_spec_TapOf.er
noncomputable def f_spec_TapOf : AFun := pf_spec_TapOf.er
@[irreducible] noncomputable def s_spec_TapOf : CallSem := funSem f_spec_TapOf
@[irreducible] noncomputable def p_spec_TapOf : PSem := pfunSem pf_spec_TapOf
theorem sp_spec_TapOf : SoundP s_spec_TapOf p_spec_TapOf := by unfold s_spec_TapOf p_spec_TapOf; exact pfun_sound (f := pf_spec_TapOf) ⟨sp_spec_IsTapHold, trivial⟩
def h_spec_TapOf : List HT := [.agg [(.frz, .int .i64), (.frz, .int .i64), (.frz, .int .i64), (.frz, .int .i64)]]
def q_spec_TapOf : QT := .one (.agg [(.own, .int .i64), (.own, .int .i64), (.own, .int .i64), (.own, .int .i64)])
@[irreducible] noncomputable def v_spec_TapOf (x : Int × Int × Int × Int) : Int × Int × Int × Int := (shut fun x => fnV df_spec_TapOf h_spec_TapOf q_spec_TapOf x).1 x
@[irreducible] noncomputable def ok_spec_TapOf (x : Int × Int × Int × Int) : Prop := (shut fun x => fnOk df_spec_TapOf h_spec_TapOf q_spec_TapOf x).1 x
theorem vu_spec_TapOf (x : Int × Int × Int × Int) : v_spec_TapOf x = fnV df_spec_TapOf h_spec_TapOf q_spec_TapOf x := by unfold v_spec_TapOf; exact congrFun (shut _).2 x
theorem ou_spec_TapOf (x : Int × Int × Int × Int) : ok_spec_TapOf x = fnOk df_spec_TapOf h_spec_TapOf q_spec_TapOf x := by unfold ok_spec_TapOf; exact congrFun (shut _).2 x
noncomputable def D_spec_TapOf : DSem := DSemOf h_spec_TapOf q_spec_TapOf ok_spec_TapOf v_spec_TapOf
theorem ck_spec_TapOf (x : Int × Int × Int × Int) : fnChk df_spec_TapOf h_spec_TapOf q_spec_TapOf x = true := by kernel_rfl
theorem ob_spec_TapOf : AllD df_spec_TapOf.body.obs := ⟨sd_spec_IsTapHold, trivial⟩
theorem st_spec_TapOf : fnSt df_spec_TapOf h_spec_TapOf q_spec_TapOf = true := by kernel_rfl
theorem sd_spec_TapOf : SoundD p_spec_TapOf D_spec_TapOf := by unfold p_spec_TapOf; exact soundD_of (f := df_spec_TapOf) (hs := h_spec_TapOf) (q := q_spec_TapOf) ob_spec_TapOf st_spec_TapOf ck_spec_TapOf (fun x h => Eq.mp (ou_spec_TapOf x) h) (fun x => (vu_spec_TapOf x).symm)
noncomputable def dc_spec_l7Draw : DCode :=
  (.seq [1, 0] (.region [oa 0 4 (.mv (.c .nils))])
  (.seq [5, 1, 0] (.region [⟨0, some 8, .a false (.litSlice 5 0 [] []) (some (.cons (.int .i64) (.cons (.int .i64) (.cons (.int .i64) (.cons (.int .i64) (.one (.int .i64))))))), none, []⟩,
 om 1 5 8])
  (.seq [5] (.seq [6, 5, 1, 0] (.region [oi 0 6 0])
  (.block 0 (.loop [0, 1, 5, 6] 1 (.seq [6, 5, 1, 0] (.seq [11, 6, 5, 1, 0] (.region [om 0 9 6,
 om 1 10 1,
 oa 2 11 (.bin .lss (.t 9) (.t 10))])
  (.cond (.t 11) .skip (.exit 0)))
  (.seq [6, 5, 1, 0] (.block 1 (.seq [6, 5, 1, 0] (.seq [15, 6, 5, 1, 0] (.region [om 0 14 0,
 op 1 15 s_spec_l1Once p_spec_l1Once D_spec_l1Once [(.t 14), (.c (.int .i64 2))]])
  (.cond (.t 15) (.exit 1) .skip))
  (.seq [7, 6, 5, 1, 0] (.region [om 0 16 0,
 op 1 17 s_spec_l5Draw p_spec_l5Draw D_spec_l5Draw [(.t 16), (.c (.int .i64 4))],
 oa 2 7 (.allocB 0 [(.int .i64 0), (.int .i64 0), (.int .i64 0), (.int .i64 0)]),
 os 3 (.storeB 0 4 (.t 7) (.t 17))])
  (.seq [7, 6, 5, 1, 0] (.seq [19, 7, 6, 5, 1, 0] (.region [om 0 18 0,
 op 1 19 s_spec_l1Once p_spec_l1Once D_spec_l1Once [(.t 18), (.c (.int .i64 2))]])
  (.cond (.t 19) (.region [oa 0 20 (.loadB 0 (some 4) (.t 7)),
 oc 1 21 s_spec_HoldOf p_spec_HoldOf D_spec_HoldOf [(.t 20)],
 os 2 (.storeB 0 4 (.t 7) (.t 21))]) .skip))
  (.region [om 0 22 5,
 om 1 23 6,
 oa 2 24 (.loadB 0 (some 4) (.t 7)),
 oc 3 25 s_spec_TapOf p_spec_TapOf D_spec_TapOf [(.t 24)],
 oa 4 26 (.build [(.int .i64 0), (.int .i64 0), (.int .i64 0), (.int .i64 0), (.int .i64 0)] [(0, 1, (.t 23)), (1, 4, (.t 25))]),
 ⟨5, some 27, .a false (.litSlice 5 1 [(.int .i64 0), (.int .i64 0), (.int .i64 0), (.int .i64 0), (.int .i64 0)] [(0, 5, (.t 26))]) (some (.cons (.int .i64) (.cons (.int .i64) (.cons (.int .i64) (.cons (.int .i64) (.one (.int .i64))))))), none, []⟩,
 oa 6 28 (.app 5 (.t 22) (.t 27)),
 om 7 5 28])))))
  (.region [om 0 12 6,
 oa 1 13 (.bin .add (.t 12) (.c (.int .i64 1))),
 om 2 6 13]))))))
  (.seq [4] (.region [om 0 29 5,
 om 1 4 29])
  .ret))))
noncomputable def df_spec_l7Draw : DFun := ⟨2, 30, 1, false, [.tmp 4], dc_spec_l7Draw⟩
noncomputable def pf_spec_l7Draw : PFun := df_spec_l7Draw.er
noncomputable def f_spec_l7Draw : AFun := pf_spec_l7Draw.er
@[irreducible] noncomputable def s_spec_l7Draw : CallSem := funSem f_spec_l7Draw
@[irreducible] noncomputable def p_spec_l7Draw : PSem := pfunSem pf_spec_l7Draw
theorem sp_spec_l7Draw : SoundP s_spec_l7Draw p_spec_l7Draw := by unfold s_spec_l7Draw p_spec_l7Draw; exact pfun_sound (f := pf_spec_l7Draw) ⟨sp_spec_l1Once, sp_spec_l5Draw, sp_spec_l1Once, sp_spec_HoldOf, sp_spec_TapOf, trivial⟩
def h_spec_l7Draw : List HT := [.one .frz (.int .i64)]
def c_spec_l7Draw : List (Ql × CT) := [(.frz, .sl (.one (.int .u8))), (.own, .int .i64), (.own, .int .i64)]
def q_spec_l7Draw : QT := .one (.one .own (.sl (.cons (.int .i64) (.cons (.int .i64) (.cons (.int .i64) (.cons (.int .i64) (.one (.int .i64))))))))
@[irreducible] noncomputable def v_spec_l7Draw (x : (List (Int) × Int × Int) × Int) : (List (Int × Int × Int × Int × Int)) × (Int × Int) := (shut fun x => fnPV df_spec_l7Draw h_spec_l7Draw c_spec_l7Draw q_spec_l7Draw x).1 x
@[irreducible] noncomputable def ok_spec_l7Draw (x : (List (Int) × Int × Int) × Int) : Prop := (shut fun x => fnPOk df_spec_l7Draw h_spec_l7Draw c_spec_l7Draw q_spec_l7Draw x).1 x
theorem vu_spec_l7Draw (x : (List (Int) × Int × Int) × Int) : v_spec_l7Draw x = fnPV df_spec_l7Draw h_spec_l7Draw c_spec_l7Draw q_spec_l7Draw x := by unfold v_spec_l7Draw; exact congrFun (shut _).2 x
theorem ou_spec_l7Draw (x : (List (Int) × Int × Int) × Int) : ok_spec_l7Draw x = fnPOk df_spec_l7Draw h_spec_l7Draw c_spec_l7Draw q_spec_l7Draw x := by unfold ok_spec_l7Draw; exact congrFun (shut _).2 x
noncomputable def D_spec_l7Draw : DSemP := DSemOfP h_spec_l7Draw c_spec_l7Draw q_spec_l7Draw ok_spec_l7Draw v_spec_l7Draw
theorem ck_spec_l7Draw (x : (List (Int) × Int × Int) × Int) : fnPChk df_spec_l7Draw h_spec_l7Draw c_spec_l7Draw q_spec_l7Draw x = true := by kernel_rfl
theorem ob_spec_l7Draw : AllD df_spec_l7Draw.body.obs := ⟨sd_spec_l1Once, sd_spec_l5Draw, sd_spec_l1Once, sd_spec_HoldOf, sd_spec_TapOf, trivial⟩
theorem st_spec_l7Draw : fnPSt df_spec_l7Draw h_spec_l7Draw c_spec_l7Draw = true := by kernel_rfl
theorem sd_spec_l7Draw : SoundDP p_spec_l7Draw D_spec_l7Draw := by unfold p_spec_l7Draw; exact soundDP_of (f := df_spec_l7Draw) (hs := h_spec_l7Draw) (cs := c_spec_l7Draw) (q := q_spec_l7Draw) ob_spec_l7Draw st_spec_l7Draw ck_spec_l7Draw (fun x h => Eq.mp (ou_spec_l7Draw x) h) (fun x => (vu_spec_l7Draw x).symm)
noncomputable def dc_spec_MakeHeld : DCode :=
  (.seq [0] (.region [oa 0 2 (.mv (.c .nils))])
  (.seq [2] (.region [on 0 3 0,
 op 1 4 s_spec_l24New p_spec_l24New D_spec_l24New [(.t 3), (.c (.int .i64 4))],
 op 2 5 s_spec_l7Draw p_spec_l7Draw D_spec_l7Draw [(.t 4), (.c (.int .i64 6))],
 om 3 2 5])
  .ret))
noncomputable def df_spec_MakeHeld : DFun := ⟨1, 6, 0, false, [.tmp 2], dc_spec_MakeHeld⟩
noncomputable def pf_spec_MakeHeld : PFun := df_spec_MakeHeld.er
noncomputable def f_spec_MakeHeld : AFun := pf_spec_MakeHeld.er
@[irreducible] noncomputable def s_spec_MakeHeld : CallSem := funSem f_spec_MakeHeld
@[irreducible] noncomputable def p_spec_MakeHeld : PSem := pfunSem pf_spec_MakeHeld
theorem sp_spec_MakeHeld : SoundP s_spec_MakeHeld p_spec_MakeHeld := by unfold s_spec_MakeHeld p_spec_MakeHeld; exact pfun_sound (f := pf_spec_MakeHeld) ⟨sp_spec_l24New, sp_spec_l7Draw, trivial⟩
def h_spec_MakeHeld : List HT := [.one .frz (.sl (.one (.int .u8)))]
def q_spec_MakeHeld : QT := .one (.one .own (.sl (.cons (.int .i64) (.cons (.int .i64) (.cons (.int .i64) (.cons (.int .i64) (.one (.int .i64))))))))
@[irreducible] noncomputable def v_spec_MakeHeld (x : List (Int)) : List (Int × Int × Int × Int × Int) := (shut fun x => fnV df_spec_MakeHeld h_spec_MakeHeld q_spec_MakeHeld x).1 x
@[irreducible] noncomputable def ok_spec_MakeHeld (x : List (Int)) : Prop := (shut fun x => fnOk df_spec_MakeHeld h_spec_MakeHeld q_spec_MakeHeld x).1 x
theorem vu_spec_MakeHeld (x : List (Int)) : v_spec_MakeHeld x = fnV df_spec_MakeHeld h_spec_MakeHeld q_spec_MakeHeld x := by unfold v_spec_MakeHeld; exact congrFun (shut _).2 x
theorem ou_spec_MakeHeld (x : List (Int)) : ok_spec_MakeHeld x = fnOk df_spec_MakeHeld h_spec_MakeHeld q_spec_MakeHeld x := by unfold ok_spec_MakeHeld; exact congrFun (shut _).2 x
noncomputable def D_spec_MakeHeld : DSem := DSemOf h_spec_MakeHeld q_spec_MakeHeld ok_spec_MakeHeld v_spec_MakeHeld
theorem ck_spec_MakeHeld (x : List (Int)) : fnChk df_spec_MakeHeld h_spec_MakeHeld q_spec_MakeHeld x = true := by kernel_rfl
theorem ob_spec_MakeHeld : AllD df_spec_MakeHeld.body.obs := ⟨sd_spec_l24New, sd_spec_l7Draw, trivial⟩
theorem st_spec_MakeHeld : fnSt df_spec_MakeHeld h_spec_MakeHeld q_spec_MakeHeld = true := by kernel_rfl
theorem sd_spec_MakeHeld : SoundD p_spec_MakeHeld D_spec_MakeHeld := by unfold p_spec_MakeHeld; exact soundD_of (f := df_spec_MakeHeld) (hs := h_spec_MakeHeld) (q := q_spec_MakeHeld) ob_spec_MakeHeld st_spec_MakeHeld ck_spec_MakeHeld (fun x h => Eq.mp (ou_spec_MakeHeld x) h) (fun x => (vu_spec_MakeHeld x).symm)
noncomputable def dc_laws_has : DCode :=
  (.seq [1, 0] (.region [oa 0 4 (.mv (.c (.bool false)))])
  (.seq [] (.seq [5, 1, 0] (.region [oi 0 5 0])
  (.block 0 (.loop [0, 1, 5] 1 (.seq [5, 1, 0] (.seq [9, 5, 1, 0] (.region [om 0 6 5,
 on 1 7 0,
 oa 2 8 (.len (.t 7)),
 oa 3 9 (.bin .lss (.t 6) (.t 8))])
  (.cond (.t 9) .skip (.exit 0)))
  (.seq [5, 1, 0] (.block 1 (.seq [17, 5, 1, 0] (.region [on 0 12 0,
 om 1 13 5,
 oa 2 14 (.indexA 1 (.t 12) (.t 13)),
 oa 3 15 (.loadH none (.t 14)),
 om 4 16 1,
 oa 5 17 (.bin .eql (.t 15) (.t 16))])
  (.cond (.t 17) (.seq [4] (.region [oa 0 4 (.mv (.c (.bool true)))])
  .ret) .skip)))
  (.region [om 0 10 5,
 oa 1 11 (.bin .add (.t 10) (.c (.int .i64 1))),
 om 2 5 11]))))))
  (.seq [4] (.region [oa 0 4 (.mv (.c (.bool false)))])
  .ret)))
noncomputable def df_laws_has : DFun := ⟨2, 18, 0, true, [.tmp 4], dc_laws_has⟩
noncomputable def pf_laws_has : PFun := df_laws_has.er
noncomputable def f_laws_has : AFun := pf_laws_has.er
@[irreducible] noncomputable def s_laws_has : CallSem := funSem f_laws_has
@[irreducible] noncomputable def p_laws_has : PSem := pfunSem pf_laws_has
theorem sp_laws_has : SoundP s_laws_has p_laws_has := by unfold s_laws_has p_laws_has; exact pfun_sound (f := pf_laws_has) trivial
def h_laws_has : List HT := [.one .frz (.sl (.one (.int .i64))), .one .frz (.int .i64)]
def q_laws_has : QT := .one (.one .own (.bool))
@[irreducible] noncomputable def v_laws_has (x : List (Int) × Int) : Bool := (shut fun x => fnV df_laws_has h_laws_has q_laws_has x).1 x
@[irreducible] noncomputable def ok_laws_has (x : List (Int) × Int) : Prop := (shut fun x => fnOk df_laws_has h_laws_has q_laws_has x).1 x
theorem vu_laws_has (x : List (Int) × Int) : v_laws_has x = fnV df_laws_has h_laws_has q_laws_has x := by unfold v_laws_has; exact congrFun (shut _).2 x
theorem ou_laws_has (x : List (Int) × Int) : ok_laws_has x = fnOk df_laws_has h_laws_has q_laws_has x := by unfold ok_laws_has; exact congrFun (shut _).2 x
noncomputable def D_laws_has : DSem := DSemOf h_laws_has q_laws_has ok_laws_has v_laws_has
theorem ck_laws_has (x : List (Int) × Int) : fnChk df_laws_has h_laws_has q_laws_has x = true := by kernel_rfl
theorem ob_laws_has : AllD df_laws_has.body.obs := trivial
theorem st_laws_has : fnSt df_laws_has h_laws_has q_laws_has = true := by kernel_rfl
theorem sd_laws_has : SoundD p_laws_has D_laws_has := by unfold p_laws_has; exact soundD_of (f := df_laws_has) (hs := h_laws_has) (q := q_laws_has) ob_laws_has st_laws_has ck_laws_has (fun x h => Eq.mp (ou_laws_has x) h) (fun x => (vu_laws_has x).symm)
noncomputable def dc_impl_IsReport : DCode :=
  (.seq [1] (.region [oa 0 1 (.boxB 0 2 (.t 0)),
 oa 1 2 (.mv (.c (.bool false)))])
  (.seq [1] (.seq [12, 1] (.region [oa 0 5 (.fieldA 0 (.t 1)),
 oa 1 6 (.loadB 0 none (.t 5)),
 oa 2 7 (.bin .lss (.t 6) (.c (.int .i64 0))),
 om 3 8 7,
 og 4 9 (.fieldA 0 (.t 1)) 8 false,
 og 5 10 (.loadB 0 none (.t 9)) 8 false,
 og 6 11 (.bin .gtr (.t 10) (.c (.int .i64 15))) 8 false,
 oa 7 12 (.pick (.t 8) (.c (.bool true)) (.t 11))])
  (.cond (.t 12) (.seq [2] (.region [oa 0 2 (.mv (.c (.bool false)))])
  .ret) .skip))
  (.seq [] (.seq [16, 15, 14, 1] (.region [oa 0 13 (.fieldA 1 (.t 1)),
 oa 1 14 (.loadB 0 none (.t 13)),
 oa 2 15 (.len (.t 14)),
 oi 3 16 0])
  (.block 0 (.loop [1, 14, 15, 16] 1 (.seq [17, 16, 15, 14, 1] (.region [oa 0 17 (.bin .lss (.t 16) (.t 15))])
  (.seq [16, 15, 14, 1] (.cond (.t 17) .skip (.exit 0))
  (.seq [16, 15, 14, 1] (.block 1 (.seq [16, 15, 14, 4, 3, 1] (.region [om 0 18 16,
 oa 1 19 (.indexA 1 (.t 14) (.t 16)),
 oa 2 20 (.loadH none (.t 19)),
 om 3 3 18,
 om 4 4 20])
  (.seq [37, 16, 15, 14, 1] (.region [om 0 21 4,
 oc 1 22 s_impl_isCode p_impl_isCode D_impl_isCode [(.t 21)],
 oa 2 23 (.un .not (.t 22)),
 om 3 24 23,
 og 4 25 (.mv (.t 3)) 24 false,
 og 5 26 (.bin .gtr (.t 25) (.c (.int .i64 0))) 24 false,
 og 6 27 (.mv (.t 26)) 24 false,
 og 7 28 (.fieldA 1 (.t 1)) 27 true,
 og 8 29 (.loadB 0 none (.t 28)) 27 true,
 og 9 30 (.mv (.t 3)) 27 true,
 og 10 31 (.bin .sub (.t 30) (.c (.int .i64 1))) 27 true,
 og 11 32 (.indexA 1 (.t 29) (.t 31)) 27 true,
 og 12 33 (.loadH none (.t 32)) 27 true,
 og 13 34 (.mv (.t 4)) 27 true,
 og 14 35 (.bin .geq (.t 33) (.t 34)) 27 true,
 og 15 36 (.pick (.t 27) (.t 35) (.c (.bool false))) 24 false,
 oa 16 37 (.pick (.t 24) (.c (.bool true)) (.t 36))])
  (.cond (.t 37) (.seq [2] (.region [oa 0 2 (.mv (.c (.bool false)))])
  .ret) .skip))))
  (.region [oa 0 38 (.bin .add (.t 16) (.c (.int .i64 1))),
 om 1 16 38])))))))
  (.seq [2] (.region [oa 0 2 (.mv (.c (.bool true)))])
  .ret))))
noncomputable def df_impl_IsReport : DFun := ⟨1, 39, 1, true, [.tmp 2], dc_impl_IsReport⟩
noncomputable def pf_impl_IsReport : PFun := df_impl_IsReport.er
noncomputable def f_impl_IsReport : AFun := pf_impl_IsReport.er
@[irreducible] noncomputable def s_impl_IsReport : CallSem := funSem f_impl_IsReport
@[irreducible] noncomputable def p_impl_IsReport : PSem := pfunSem pf_impl_IsReport
theorem sp_impl_IsReport : SoundP s_impl_IsReport p_impl_IsReport := by unfold s_impl_IsReport p_impl_IsReport; exact pfun_sound (f := pf_impl_IsReport) ⟨sp_impl_isCode, trivial⟩
def h_impl_IsReport : List HT := [.agg [(.frz, .int .i64), (.frz, .sl (.one (.int .i64)))]]
def q_impl_IsReport : QT := .one (.one .own (.bool))
@[irreducible] noncomputable def v_impl_IsReport (x : Int × List (Int)) : Bool := (shut fun x => fnV df_impl_IsReport h_impl_IsReport q_impl_IsReport x).1 x
@[irreducible] noncomputable def ok_impl_IsReport (x : Int × List (Int)) : Prop := (shut fun x => fnOk df_impl_IsReport h_impl_IsReport q_impl_IsReport x).1 x
theorem vu_impl_IsReport (x : Int × List (Int)) : v_impl_IsReport x = fnV df_impl_IsReport h_impl_IsReport q_impl_IsReport x := by unfold v_impl_IsReport; exact congrFun (shut _).2 x
theorem ou_impl_IsReport (x : Int × List (Int)) : ok_impl_IsReport x = fnOk df_impl_IsReport h_impl_IsReport q_impl_IsReport x := by unfold ok_impl_IsReport; exact congrFun (shut _).2 x
noncomputable def D_impl_IsReport : DSem := DSemOf h_impl_IsReport q_impl_IsReport ok_impl_IsReport v_impl_IsReport
theorem ck_impl_IsReport (x : Int × List (Int)) : fnChk df_impl_IsReport h_impl_IsReport q_impl_IsReport x = true := by kernel_rfl
theorem ob_impl_IsReport : AllD df_impl_IsReport.body.obs := ⟨sd_impl_isCode, trivial⟩
theorem st_impl_IsReport : fnSt df_impl_IsReport h_impl_IsReport q_impl_IsReport = true := by kernel_rfl
theorem sd_impl_IsReport : SoundD p_impl_IsReport D_impl_IsReport := by unfold p_impl_IsReport; exact soundD_of (f := df_impl_IsReport) (hs := h_impl_IsReport) (q := q_impl_IsReport) ob_impl_IsReport st_impl_IsReport ck_impl_IsReport (fun x h => Eq.mp (ou_impl_IsReport x) h) (fun x => (vu_impl_IsReport x).symm)
noncomputable def dc_laws_FnHeldReports : DCode :=
  (.seq [0] (.region [oa 0 2 (.mv (.c (.bool false)))])
  (.seq [0] (.seq [14, 0] (.region [on 0 13 0,
 oc 1 14 s_laws_big p_laws_big D_laws_big [(.t 13)]])
  (.cond (.t 14) (.seq [2] (.region [oa 0 2 (.mv (.c (.bool true)))])
  .ret) .skip))
  (.seq [3] (.region [on 0 15 0,
 oc 1 16 s_spec_MakeHeld p_spec_MakeHeld D_spec_MakeHeld [(.t 15)],
 on 2 3 16])
  (.seq [4, 3] (.region [on 0 17 3,
 oc 1 18 s_impl_ReportOf p_impl_ReportOf D_impl_ReportOf [(.t 17)],
 oa 2 4 (.allocB 0 [(.int .i64 0), .nils]),
 os 3 (.storeB 0 2 (.t 4) (.t 18))])
  (.seq [5, 4, 3] (.region [oi 0 5 0])
  (.seq [5, 4, 3] (.seq [6, 5, 4, 3] (.region [oi 0 6 0])
  (.block 0 (.loop [3, 4, 5, 6] 1 (.seq [6, 5, 4, 3] (.seq [22, 6, 5, 4, 3] (.region [om 0 19 6,
 on 1 20 3,
 oa 2 21 (.len (.t 20)),
 oa 3 22 (.bin .lss (.t 19) (.t 21))])
  (.cond (.t 22) .skip (.exit 0)))
  (.seq [6, 5, 4, 3] (.block 1 (.seq [7, 6, 5, 4, 3] (.region [on 0 25 3,
 om 1 26 6,
 oa 2 27 (.indexA 5 (.t 25) (.t 26)),
 oa 3 28 (.fieldA 1 (.t 27)),
 ob 4 29 (.loadH (some 4) (.t 28)),
 oa 5 7 (.allocB 1 [(.int .i64 0), (.int .i64 0), (.int .i64 0), (.int .i64 0)]),
 os 6 (.storeB 1 4 (.t 7) (.t 29))])
  (.seq [7, 6, 5, 4, 3] (.seq [37, 7, 6, 5, 4, 3] (.region [oa 0 30 (.fieldA 0 (.t 7)),
 oa 1 31 (.loadB 1 none (.t 30)),
 oa 2 32 (.bin .eql (.t 31) (.c (.int .i64 2))),
 om 3 33 32,
 og 4 34 (.fieldA 0 (.t 7)) 33 false,
 og 5 35 (.loadB 1 none (.t 34)) 33 false,
 og 6 36 (.bin .eql (.t 35) (.c (.int .i64 8))) 33 false,
 oa 7 37 (.pick (.t 33) (.c (.bool true)) (.t 36))])
  (.cond (.t 37) (.region [om 0 38 5,
 oa 1 39 (.fieldA 2 (.t 7)),
 oa 2 40 (.loadB 1 none (.t 39)),
 oa 3 41 (.bin .or (.t 38) (.t 40)),
 om 4 5 41]) .skip))
  (.seq [52, 6, 5, 4, 3] (.region [oa 0 42 (.fieldA 1 (.t 7)),
 oa 1 43 (.loadB 1 none (.t 42)),
 oa 2 44 (.bin .gtr (.t 43) (.c (.int .i64 0))),
 om 3 45 44,
 og 4 46 (.fieldA 1 (.t 4)) 45 true,
 og 5 47 (.loadB 0 none (.t 46)) 45 true,
 og 6 48 (.fieldA 1 (.t 7)) 45 true,
 og 7 49 (.loadB 1 none (.t 48)) 45 true,
 ⟨8, some 50, .call false s_laws_has p_laws_has D_laws_has [(.t 47), (.t 49)], (some (45, true)), []⟩,
 og 9 51 (.un .not (.t 50)) 45 true,
 oa 10 52 (.pick (.t 45) (.t 51) (.c (.bool false)))])
  (.cond (.t 52) (.seq [2] (.region [oa 0 2 (.mv (.c (.bool false)))])
  .ret) .skip)))))
  (.region [om 0 23 6,
 oa 1 24 (.bin .add (.t 23) (.c (.int .i64 1))),
 om 2 6 24]))))))
  (.seq [5, 4, 3] (.seq [8, 5, 4, 3] (.region [oi 0 8 0])
  (.block 2 (.loop [3, 4, 5, 8] 1 (.seq [8, 5, 4, 3] (.seq [57, 8, 5, 4, 3] (.region [om 0 53 8,
 oa 1 54 (.fieldA 1 (.t 4)),
 oa 2 55 (.loadB 0 none (.t 54)),
 oa 3 56 (.len (.t 55)),
 oa 4 57 (.bin .lss (.t 53) (.t 56))])
  (.cond (.t 57) .skip (.exit 2)))
  (.seq [8, 5, 4, 3] (.block 3 (.seq [9, 8, 5, 4, 3] (.region [oa 0 9 (.mv (.c (.bool false)))])
  (.seq [9, 8, 5, 4, 3] (.seq [10, 9, 8, 5, 4, 3] (.region [oi 0 10 0])
  (.block 4 (.loop [3, 4, 5, 8, 9, 10] 1 (.seq [10, 9, 8, 5, 4, 3] (.seq [63, 10, 9, 8, 5, 4, 3] (.region [om 0 60 10,
 on 1 61 3,
 oa 2 62 (.len (.t 61)),
 oa 3 63 (.bin .lss (.t 60) (.t 62))])
  (.cond (.t 63) .skip (.exit 4)))
  (.seq [10, 9, 8, 5, 4, 3] (.block 5 (.region [om 0 66 9,
 xA 1 67 (.mv (.t 66)) (rg 1),
 ⟨2, some 68, .a true (.mv (.t 3)) none, (some (67, false)), [0, 1]⟩,
 ⟨3, some 69, .a false (.mv (.t 10)) none, (some (67, false)), [0, 1]⟩,
 ⟨4, some 70, .a false (.indexA 5 (.t 68) (.t 69)) none, (some (67, false)), [0, 1, 2, 3]⟩,
 ⟨5, some 71, .a false (.fieldA 1 (.t 70)) none, (some (67, false)), [0, 1, 2, 3, 4]⟩,
 ⟨6, some 72, .a false (.fieldA 1 (.t 71)) none, (some (67, false)), [0, 1, 2, 3, 4, 5]⟩,
 ⟨7, some 73, .a false (.loadH none (.t 72)) none, (some (67, false)), [0, 1, 2, 3, 4, 5, 6]⟩,
 ⟨8, some 74, .a false (.fieldA 1 (.t 4)) none, (some (67, false)), [0, 1]⟩,
 ⟨9, some 75, .a false (.loadB 0 none (.t 74)) none, (some (67, false)), [0, 1, 8]⟩,
 ⟨10, some 76, .a false (.mv (.t 8)) none, (some (67, false)), [0, 1]⟩,
 ⟨11, some 77, .a false (.indexA 1 (.t 75) (.t 76)) none, (some (67, false)), [0, 1, 8, 9, 10]⟩,
 ⟨12, some 78, .a false (.loadH none (.t 77)) none, (some (67, false)), [0, 1, 8, 9, 10, 11]⟩,
 ⟨13, some 79, .a false (.bin .eql (.t 73) (.t 78)) none, (some (67, false)), [0, 1, 2, 3, 4, 5, 6, 7, 8, 9, 10, 11, 12]⟩,
 xA 14 80 (.pick (.t 67) (.c (.bool true)) (.t 79)) (rg 14),
 xA 15 9 (.mv (.t 80)) (rg 15)]))
  (.region [om 0 64 10,
 oa 1 65 (.bin .add (.t 64) (.c (.int .i64 1))),
 om 2 10 65]))))))
  (.seq [82, 8, 5, 4, 3] (.region [om 0 81 9,
 oa 1 82 (.un .not (.t 81))])
  (.cond (.t 82) (.seq [2] (.region [oa 0 2 (.mv (.c (.bool false)))])
  .ret) .skip)))))
  (.region [om 0 58 8,
 oa 1 59 (.bin .add (.t 58) (.c (.int .i64 1))),
 om 2 8 59]))))))
  (.seq [11, 5, 4, 3] (.region [⟨0, some 83, .a false (.litSlice 5 0 [] []) (some (.cons (.int .i64) (.cons (.int .i64) (.cons (.int .i64) (.cons (.int .i64) (.one (.int .i64))))))), none, []⟩,
 om 1 11 83])
  (.seq [11, 5, 4, 3] (.seq [12, 11, 5, 4, 3] (.region [on 0 84 3,
 oa 1 85 (.len (.t 84)),
 oa 2 86 (.bin .sub (.t 85) (.c (.int .i64 1))),
 om 3 12 86])
  (.block 6 (.loop [3, 4, 5, 11, 12] 1 (.seq [12, 11, 5, 4, 3] (.seq [88, 12, 11, 5, 4, 3] (.region [om 0 87 12,
 oa 1 88 (.bin .geq (.t 87) (.c (.int .i64 0)))])
  (.cond (.t 88) .skip (.exit 6)))
  (.seq [12, 11, 5, 4, 3] (.block 7 (.region [om 0 91 11,
 on 1 92 3,
 om 2 93 12,
 oa 3 94 (.indexA 5 (.t 92) (.t 93)),
 ob 4 95 (.loadH (some 5) (.t 94)),
 ⟨5, some 96, .a false (.litSlice 5 1 [(.int .i64 0), (.int .i64 0), (.int .i64 0), (.int .i64 0), (.int .i64 0)] [(0, 5, (.t 95))]) (some (.cons (.int .i64) (.cons (.int .i64) (.cons (.int .i64) (.cons (.int .i64) (.one (.int .i64))))))), none, []⟩,
 oa 6 97 (.app 5 (.t 91) (.t 96)),
 om 7 11 97]))
  (.region [om 0 89 12,
 oa 1 90 (.bin .sub (.t 89) (.c (.int .i64 1))),
 om 2 12 90]))))))
  (.seq [2] (.region [on 0 98 3,
 xC 1 99 s_impl_IsHeld p_impl_IsHeld D_impl_IsHeld [(.t 98)] (rg 1),
 xA 2 100 (.mv (.t 99)) (rg 2),
 ⟨3, some 101, .a false (.loadB 0 (some 2) (.t 4)) none, (some (100, true)), [0, 1, 2]⟩,
 ⟨4, some 102, .call false s_impl_IsReport p_impl_IsReport D_impl_IsReport [(.t 101)], (some (100, true)), [0, 1, 2, 3]⟩,
 xA 5 103 (.pick (.t 100) (.t 102) (.c (.bool false))) (rg 5),
 xA 6 104 (.mv (.t 103)) (rg 6),
 ⟨7, some 105, .a false (.fieldA 0 (.t 4)) none, (some (104, true)), [0, 1, 2, 3, 4, 5, 6]⟩,
 ⟨8, some 106, .a false (.loadB 0 none (.t 105)) none, (some (104, true)), [0, 1, 2, 3, 4, 5, 6, 7]⟩,
 ⟨9, some 107, .a false (.mv (.t 5)) none, (some (104, true)), [0, 1, 2, 3, 4, 5, 6]⟩,
 ⟨10, some 108, .a false (.bin .eql (.t 106) (.t 107)) none, (some (104, true)), [0, 1, 2, 3, 4, 5, 6, 7, 8, 9]⟩,
 xA 11 109 (.pick (.t 104) (.t 108) (.c (.bool false))) (rg 11),
 xA 12 110 (.mv (.t 109)) (rg 12),
 ⟨13, some 111, .a true (.mv (.t 11)) none, (some (110, true)), [0, 1, 2, 3, 4, 5, 6, 7, 8, 9, 10, 11, 12]⟩,
 ⟨15, some 113, .a false (.loadB 0 (some 2) (.t 4)) none, (some (110, true)), [0, 1, 2, 3, 4, 5, 6, 7, 8, 9, 10, 11, 12]⟩,
 ⟨14, some 112, .call false s_impl_ReportOf p_impl_ReportOf D_impl_ReportOf [(.t 111)], (some (110, true)), [0, 1, 2, 3, 4, 5, 6, 7, 8, 9, 10, 11, 12, 13]⟩,
 ⟨16, some 114, .call false s_impl_SameReport p_impl_SameReport D_impl_SameReport [(.t 112), (.t 113)], (some (110, true)), [0, 1, 2, 3, 4, 5, 6, 7, 8, 9, 10, 11, 12, 13, 14, 15]⟩,
 xA 17 115 (.pick (.t 110) (.t 114) (.c (.bool false))) (rg 17),
 xA 18 116 (.mv (.t 115)) (rg 18),
 ⟨19, some 117, .a true (.mv (.t 11)) none, (some (116, true)), [0, 1, 2, 3, 4, 5, 6, 7, 8, 9, 10, 11, 12, 13, 14, 15, 16, 17, 18]⟩,
 ⟨21, some 119, .a true (.mv (.t 3)) none, (some (116, true)), [0, 1, 2, 3, 4, 5, 6, 7, 8, 9, 10, 11, 12, 13, 14, 15, 16, 17, 18]⟩,
 ⟨20, some 118, .call false s_impl_LayersOn p_impl_LayersOn D_impl_LayersOn [(.c (.int .i64 0)), (.t 117)], (some (116, true)), [0, 1, 2, 3, 4, 5, 6, 7, 8, 9, 10, 11, 12, 13, 14, 15, 16, 17, 18, 19]⟩,
 ⟨22, some 120, .call false s_impl_LayersOn p_impl_LayersOn D_impl_LayersOn [(.c (.int .i64 0)), (.t 119)], (some (116, true)), [0, 1, 2, 3, 4, 5, 6, 7, 8, 9, 10, 11, 12, 13, 14, 15, 16, 17, 18, 19, 20, 21]⟩,
 ⟨23, some 121, .a false (.bin .eql (.t 118) (.t 120)) none, (some (116, true)), [0, 1, 2, 3, 4, 5, 6, 7, 8, 9, 10, 11, 12, 13, 14, 15, 16, 17, 18, 19, 20, 21, 22]⟩,
 xA 24 122 (.pick (.t 116) (.t 121) (.c (.bool false))) (rg 24),
 xA 25 2 (.mv (.t 122)) (rg 25)])
  .ret))))))))))
noncomputable def df_laws_FnHeldReports : DFun := ⟨1, 123, 2, true, [.tmp 2], dc_laws_FnHeldReports⟩
noncomputable def pf_laws_FnHeldReports : PFun := df_laws_FnHeldReports.er
noncomputable def f_laws_FnHeldReports : AFun := pf_laws_FnHeldReports.er
@[irreducible] noncomputable def s_laws_FnHeldReports : CallSem := funSem f_laws_FnHeldReports
@[irreducible] noncomputable def p_laws_FnHeldReports : PSem := pfunSem pf_laws_FnHeldReports
theorem sp_laws_FnHeldReports : SoundP s_laws_FnHeldReports p_laws_FnHeldReports := by unfold s_laws_FnHeldReports p_laws_FnHeldReports; exact pfun_sound (f := pf_laws_FnHeldReports) ⟨sp_laws_big, sp_spec_MakeHeld, sp_impl_ReportOf, sp_laws_has, sp_impl_IsHeld, sp_impl_IsReport, sp_impl_ReportOf, sp_impl_SameReport, sp_impl_LayersOn, sp_impl_LayersOn, trivial⟩
def h_laws_FnHeldReports : List HT := [.one .frz (.sl (.one (.int .u8)))]
def q_laws_FnHeldReports : QT := .one (.one .own (.bool))
@[irreducible] noncomputable def v_laws_FnHeldReports (x : List (Int)) : Bool := (shut fun x => fnV df_laws_FnHeldReports h_laws_FnHeldReports q_laws_FnHeldReports x).1 x
@[irreducible] noncomputable def ok_laws_FnHeldReports (x : List (Int)) : Prop := (shut fun x => fnOk df_laws_FnHeldReports h_laws_FnHeldReports q_laws_FnHeldReports x).1 x
theorem vu_laws_FnHeldReports (x : List (Int)) : v_laws_FnHeldReports x = fnV df_laws_FnHeldReports h_laws_FnHeldReports q_laws_FnHeldReports x := by unfold v_laws_FnHeldReports; exact congrFun (shut _).2 x
theorem ou_laws_FnHeldReports (x : List (Int)) : ok_laws_FnHeldReports x = fnOk df_laws_FnHeldReports h_laws_FnHeldReports q_laws_FnHeldReports x := by unfold ok_laws_FnHeldReports; exact congrFun (shut _).2 x
theorem ck_laws_FnHeldReports (x : List (Int)) : fnChk df_laws_FnHeldReports h_laws_FnHeldReports q_laws_FnHeldReports x = true := by kernel_rfl
theorem ob_laws_FnHeldReports : AllD df_laws_FnHeldReports.body.obs := ⟨sd_laws_big, sd_spec_MakeHeld, sd_impl_ReportOf, sd_laws_has, sd_impl_IsHeld, sd_impl_IsReport, sd_impl_ReportOf, sd_impl_SameReport, sd_impl_LayersOn, sd_impl_LayersOn, trivial⟩
theorem st_laws_FnHeldReports : fnSt df_laws_FnHeldReports h_laws_FnHeldReports q_laws_FnHeldReports = true := by kernel_rfl
end
section
set_option maxRecDepth 100000
theorem ve_spec_l24New (x : List (Int) × Int) : v_spec_l24New x = ((v_spec_l1New x.1).1, (v_spec_l1New x.1).2.1, (iAdd Go.IntKind.i64 (v_spec_l1New x.1).2.2 (iMul Go.IntKind.i64 7919 x.2))) := (vu_spec_l24New x).trans (by kernel_rfl)
theorem oe_spec_l24New (x : List (Int) × Int) : ok_spec_l24New x = (ok_spec_l1New x.1) := (ou_spec_l24New x).trans (by kernel_rfl)
noncomputable def ls_spec_l5Draw_1 (x : (List (Int) × Int × Int) × Int) := v_spec_l1Below ((x.1.1, (v_spec_l1Below (x.1, 56)).2), 15)
noncomputable def ls_spec_l5Draw_2 (x : (List (Int) × Int × Int) × Int) := v_spec_l1Once ((x.1.1, (ls_spec_l5Draw_1 x).2), 2)
noncomputable def ls_spec_l5Draw_3 (x : (List (Int) × Int × Int) × Int) := v_spec_l1Below ((x.1.1, (bSel (ls_spec_l5Draw_2 x).1 (ls_spec_l5Draw_2 x).2.1 (ls_spec_l5Draw_2 x).2.1), (bSel (ls_spec_l5Draw_2 x).1 (ls_spec_l5Draw_2 x).2.2 (ls_spec_l5Draw_2 x).2.2)), (iMax 1 (iSub Go.IntKind.i64 x.2 1)))
noncomputable def ls_spec_l5Draw_4 (x : (List (Int) × Int × Int) × Int) := v_spec_l1Below ((x.1.1, (ls_spec_l5Draw_3 x).2), 16)
noncomputable def ls_spec_l5Draw_5 (x : (List (Int) × Int × Int) × Int) := v_spec_l1Below ((x.1.1, (ls_spec_l5Draw_4 x).2), 4)
noncomputable def ls_spec_l5Draw_6 (x : (List (Int) × Int × Int) × Int) := v_spec_l1Below ((x.1.1, (ls_spec_l5Draw_4 x).2), 3)
noncomputable def ls_spec_l5Draw_7 (x : (List (Int) × Int × Int) × Int) := v_spec_l1Below ((x.1.1, (ls_spec_l5Draw_4 x).2), (iMax 1 x.2))
theorem ve_spec_l5Draw (x : (List (Int) × Int × Int) × Int) : v_spec_l5Draw x = (bSel (bAnd (bNot (iEq (ls_spec_l5Draw_4 x).1 0)) (bAnd (bNot (iEq (ls_spec_l5Draw_4 x).1 1)) (bAnd (bNot (bOr (iEq (ls_spec_l5Draw_4 x).1 2) (iEq (ls_spec_l5Draw_4 x).1 3))) (bAnd (bNot (iEq (ls_spec_l5Draw_4 x).1 4)) (bAnd (bNot (iEq (ls_spec_l5Draw_4 x).1 5)) (bAnd (bNot (iEq (ls_spec_l5Draw_4 x).1 6)) (bAnd (bNot (iEq (ls_spec_l5Draw_4 x).1 7)) (bOr (bNot (bOr (iEq (ls_spec_l5Draw_4 x).1 8) (bOr (iEq (ls_spec_l5Draw_4 x).1 9) (iEq (ls_spec_l5Draw_4 x).1 10)))) (bNot (iGt x.2 1)))))))))) ((2, (iAdd Go.IntKind.i64 1 (v_spec_l1Below (x.1, 56)).1), 0, 0), (bSel (bOr (iEq (ls_spec_l5Draw_4 x).1 8) (bOr (iEq (ls_spec_l5Draw_4 x).1 9) (iEq (ls_spec_l5Draw_4 x).1 10))) (ls_spec_l5Draw_4 x).2.1 (ls_spec_l5Draw_4 x).2.1), (bSel (bOr (iEq (ls_spec_l5Draw_4 x).1 8) (bOr (iEq (ls_spec_l5Draw_4 x).1 9) (iEq (ls_spec_l5Draw_4 x).1 10))) (ls_spec_l5Draw_4 x).2.2 (ls_spec_l5Draw_4 x).2.2)) (bSel (iEq (ls_spec_l5Draw_4 x).1 0) ((2, (iAdd Go.IntKind.i64 1 (v_spec_l1Below (x.1, 56)).1), (bSel (ls_spec_l5Draw_2 x).1 2 (iAdd Go.IntKind.i64 1 (ls_spec_l5Draw_1 x).1)), 0), (ls_spec_l5Draw_4 x).2) (bSel (iEq (ls_spec_l5Draw_4 x).1 1) ((2, 0, (bSel (ls_spec_l5Draw_2 x).1 2 (iAdd Go.IntKind.i64 1 (ls_spec_l5Draw_1 x).1)), 0), (ls_spec_l5Draw_4 x).2) (bSel (bOr (iEq (ls_spec_l5Draw_4 x).1 2) (iEq (ls_spec_l5Draw_4 x).1 3)) ((6, (iAdd Go.IntKind.i64 1 (v_spec_l1Below (x.1, 56)).1), (bSel (ls_spec_l5Draw_2 x).1 2 (iAdd Go.IntKind.i64 1 (ls_spec_l5Draw_1 x).1)), 0), (ls_spec_l5Draw_4 x).2) (bSel (iEq (ls_spec_l5Draw_4 x).1 4) ((8, 0, (bSel (ls_spec_l5Draw_2 x).1 2 (iAdd Go.IntKind.i64 1 (ls_spec_l5Draw_1 x).1)), 0), (ls_spec_l5Draw_4 x).2) (bSel (iEq (ls_spec_l5Draw_4 x).1 5) ((9, 0, 0, (ls_spec_l5Draw_5 x).1), (ls_spec_l5Draw_5 x).2) (bSel (iEq (ls_spec_l5Draw_4 x).1 6) ((10, 0, 0, 0), (ls_spec_l5Draw_4 x).2) (bSel (iEq (ls_spec_l5Draw_4 x).1 7) ((5, 0, 0, (ls_spec_l5Draw_7 x).1), (ls_spec_l5Draw_7 x).2) ((lGet [(3, 0, 0, (iAdd Go.IntKind.i64 1 (ls_spec_l5Draw_3 x).1)), (4, 0, 0, (iAdd Go.IntKind.i64 1 (ls_spec_l5Draw_3 x).1)), (7, (iAdd Go.IntKind.i64 1 (v_spec_l1Below (x.1, 56)).1), 0, (iAdd Go.IntKind.i64 1 (ls_spec_l5Draw_3 x).1))] (iNat (ls_spec_l5Draw_6 x).1) (0, 0, 0, 0)), (ls_spec_l5Draw_6 x).2))))))))) := (vu_spec_l5Draw x).trans (by kernel_rfl)
theorem oe_spec_l5Draw (x : (List (Int) × Int × Int) × Int) : ok_spec_l5Draw x = ((ok_spec_l1Below (x.1, 56)) ∧ ((ok_spec_l1Below ((x.1.1, (v_spec_l1Below (x.1, 56)).2), 15)) ∧ ((ok_spec_l1Once ((x.1.1, (ls_spec_l5Draw_1 x).2), 2)) ∧ ((ok_spec_l1Below ((x.1.1, (bSel (ls_spec_l5Draw_2 x).1 (ls_spec_l5Draw_2 x).2.1 (ls_spec_l5Draw_2 x).2.1), (bSel (ls_spec_l5Draw_2 x).1 (ls_spec_l5Draw_2 x).2.2 (ls_spec_l5Draw_2 x).2.2)), (iMax 1 (iSub Go.IntKind.i64 x.2 1)))) ∧ ((ok_spec_l1Below ((x.1.1, (ls_spec_l5Draw_3 x).2), 16)) ∧ (((iEq (ls_spec_l5Draw_4 x).1 0) = true → True) ∧ ((iEq (ls_spec_l5Draw_4 x).1 0) = false → (((iEq (ls_spec_l5Draw_4 x).1 1) = true → True) ∧ ((iEq (ls_spec_l5Draw_4 x).1 1) = false → (((bOr (iEq (ls_spec_l5Draw_4 x).1 2) (iEq (ls_spec_l5Draw_4 x).1 3)) = true → True) ∧ ((bOr (iEq (ls_spec_l5Draw_4 x).1 2) (iEq (ls_spec_l5Draw_4 x).1 3)) = false → (((iEq (ls_spec_l5Draw_4 x).1 4) = true → True) ∧ ((iEq (ls_spec_l5Draw_4 x).1 4) = false → (((iEq (ls_spec_l5Draw_4 x).1 5) = true → (ok_spec_l1Below ((x.1.1, (ls_spec_l5Draw_4 x).2), 4))) ∧ ((iEq (ls_spec_l5Draw_4 x).1 5) = false → (((iEq (ls_spec_l5Draw_4 x).1 6) = true → True) ∧ ((iEq (ls_spec_l5Draw_4 x).1 6) = false → (((iEq (ls_spec_l5Draw_4 x).1 7) = true → (ok_spec_l1Below ((x.1.1, (ls_spec_l5Draw_4 x).2), (iMax 1 x.2)))) ∧ ((iEq (ls_spec_l5Draw_4 x).1 7) = false → (((bOr (iEq (ls_spec_l5Draw_4 x).1 8) (bOr (iEq (ls_spec_l5Draw_4 x).1 9) (iEq (ls_spec_l5Draw_4 x).1 10))) = true → (((iGt x.2 1) = true → ((ok_spec_l1Below ((x.1.1, (ls_spec_l5Draw_4 x).2), 3)) ∧ ((((0 : Int) ≤ (ls_spec_l5Draw_6 x).1) ∧ ((ls_spec_l5Draw_6 x).1 < (((List.length [(3, 0, 0, (iAdd Go.IntKind.i64 1 (ls_spec_l5Draw_3 x).1)), (4, 0, 0, (iAdd Go.IntKind.i64 1 (ls_spec_l5Draw_3 x).1)), (7, (iAdd Go.IntKind.i64 1 (v_spec_l1Below (x.1, 56)).1), 0, (iAdd Go.IntKind.i64 1 (ls_spec_l5Draw_3 x).1))]) : Int)))) ∧ ((iNat (ls_spec_l5Draw_6 x).1) < (List.length [(3, 0, 0, (iAdd Go.IntKind.i64 1 (ls_spec_l5Draw_3 x).1)), (4, 0, 0, (iAdd Go.IntKind.i64 1 (ls_spec_l5Draw_3 x).1)), (7, (iAdd Go.IntKind.i64 1 (v_spec_l1Below (x.1, 56)).1), 0, (iAdd Go.IntKind.i64 1 (ls_spec_l5Draw_3 x).1))]))))) ∧ ((iGt x.2 1) = false → True))) ∧ ((bOr (iEq (ls_spec_l5Draw_4 x).1 8) (bOr (iEq (ls_spec_l5Draw_4 x).1 9) (iEq (ls_spec_l5Draw_4 x).1 10))) = false → True))))))))))))))))))))) := (ou_spec_l5Draw x).trans (by kernel_rfl)
theorem ve_spec_HoldOf (x : Int × Int × Int × Int) : v_spec_HoldOf x = (bSel (bNot (v_spec_IsTapHold x)) x (bSel (iEq x.1 6) (2, 0, x.2.2.1, 0) (3, 0, 0, x.2.2.2))) := (vu_spec_HoldOf x).trans (by kernel_rfl)
theorem oe_spec_HoldOf (x : Int × Int × Int × Int) : ok_spec_HoldOf x = (ok_spec_IsTapHold x) := (ou_spec_HoldOf x).trans (by kernel_rfl)
theorem ve_spec_TapOf (x : Int × Int × Int × Int) : v_spec_TapOf x = (bSel (bNot (v_spec_IsTapHold x)) x (2, x.2.1, 0, 0)) := (vu_spec_TapOf x).trans (by kernel_rfl)
theorem oe_spec_TapOf (x : Int × Int × Int × Int) : ok_spec_TapOf x = (ok_spec_IsTapHold x) := (ou_spec_TapOf x).trans (by kernel_rfl)
noncomputable def ls_spec_l7Draw_1 (x : (List (Int) × Int × Int) × Int) (x0 : ((List (Int × (Int × (Int × (Int × Int))))) × (Int × (Int × Int)))) := v_spec_l5Draw ((x.1.1, (v_spec_l1Once ((x.1.1, x0.2.2), 2)).2), 4)
noncomputable def ls_spec_l7Draw_2 (x : (List (Int) × Int × Int) × Int) (x0 : ((List (Int × (Int × (Int × (Int × Int))))) × (Int × (Int × Int)))) := v_spec_l1Once ((x.1.1, (ls_spec_l7Draw_1 x x0).2), 2)
noncomputable def ls_spec_l7Draw_3 (x : (List (Int) × Int × Int) × Int) (x0 : ((List (Int × (Int × (Int × (Int × Int))))) × (Int × (Int × Int)))) := v_spec_TapOf ((bSel (ls_spec_l7Draw_2 x x0).1 (v_spec_HoldOf (ls_spec_l7Draw_1 x x0).1).1 (ls_spec_l7Draw_1 x x0).1.1), (bSel (ls_spec_l7Draw_2 x x0).1 (v_spec_HoldOf (ls_spec_l7Draw_1 x x0).1).2.1 (ls_spec_l7Draw_1 x x0).1.2.1), (bSel (ls_spec_l7Draw_2 x x0).1 (v_spec_HoldOf (ls_spec_l7Draw_1 x x0).1).2.2.1 (ls_spec_l7Draw_1 x x0).1.2.2.1), (bSel (ls_spec_l7Draw_2 x x0).1 (v_spec_HoldOf (ls_spec_l7Draw_1 x x0).1).2.2.2 (ls_spec_l7Draw_1 x x0).1.2.2.2))
noncomputable def lc_spec_l7Draw_1 (x : (List (Int) × Int × Int) × Int) (x0 : ((List (Int × (Int × (Int × (Int × Int))))) × (Int × (Int × Int)))) : Bool := (iLt x0.2.1 x.2)
noncomputable def lf_spec_l7Draw_1 (x : (List (Int) × Int × Int) × Int) (x0 : ((List (Int × (Int × (Int × (Int × Int))))) × (Int × (Int × Int)))) : ((List (Int × (Int × (Int × (Int × Int))))) × (Int × (Int × Int))) := ((bSel (v_spec_l1Once ((x.1.1, x0.2.2), 2)).1 x0.1 (lApp x0.1 [(x0.2.1, (ls_spec_l7Draw_3 x x0))])), (iAdd Go.IntKind.i64 x0.2.1 1), (bSel (v_spec_l1Once ((x.1.1, x0.2.2), 2)).1 (v_spec_l1Once ((x.1.1, x0.2.2), 2)).2.1 (bSel (ls_spec_l7Draw_2 x x0).1 (ls_spec_l7Draw_2 x x0).2.1 (ls_spec_l7Draw_2 x x0).2.1)), (bSel (v_spec_l1Once ((x.1.1, x0.2.2), 2)).1 (v_spec_l1Once ((x.1.1, x0.2.2), 2)).2.2 (bSel (ls_spec_l7Draw_2 x x0).1 (ls_spec_l7Draw_2 x x0).2.2 (ls_spec_l7Draw_2 x x0).2.2)))
noncomputable def lp_spec_l7Draw_1 (x : (List (Int) × Int × Int) × Int) (x0 : ((List (Int × (Int × (Int × (Int × Int))))) × (Int × (Int × Int)))) : Prop := (((iLt x0.2.1 x.2) = true → ((ok_spec_l1Once ((x.1.1, x0.2.2), 2)) ∧ (((v_spec_l1Once ((x.1.1, x0.2.2), 2)).1 = true → True) ∧ ((v_spec_l1Once ((x.1.1, x0.2.2), 2)).1 = false → ((ok_spec_l5Draw ((x.1.1, (v_spec_l1Once ((x.1.1, x0.2.2), 2)).2), 4)) ∧ (((ok_spec_l1Once ((x.1.1, (ls_spec_l7Draw_1 x x0).2), 2)) ∧ (((ls_spec_l7Draw_2 x x0).1 = true → (ok_spec_HoldOf (ls_spec_l7Draw_1 x x0).1)) ∧ ((ls_spec_l7Draw_2 x x0).1 = false → True))) ∧ ((ok_spec_TapOf ((bSel (ls_spec_l7Draw_2 x x0).1 (v_spec_HoldOf (ls_spec_l7Draw_1 x x0).1).1 (ls_spec_l7Draw_1 x x0).1.1), (bSel (ls_spec_l7Draw_2 x x0).1 (v_spec_HoldOf (ls_spec_l7Draw_1 x x0).1).2.1 (ls_spec_l7Draw_1 x x0).1.2.1), (bSel (ls_spec_l7Draw_2 x x0).1 (v_spec_HoldOf (ls_spec_l7Draw_1 x x0).1).2.2.1 (ls_spec_l7Draw_1 x x0).1.2.2.1), (bSel (ls_spec_l7Draw_2 x x0).1 (v_spec_HoldOf (ls_spec_l7Draw_1 x x0).1).2.2.2 (ls_spec_l7Draw_1 x x0).1.2.2.2))) ∧ (roomy (((List.length x0.1) + (List.length [(x0.2.1, (ls_spec_l7Draw_3 x x0))])) * 5))))))))) ∧ ((iLt x0.2.1 x.2) = false → True))
theorem ve_spec_l7Draw (x : (List (Int) × Int × Int) × Int) : v_spec_l7Draw x = ((loopV (lc_spec_l7Draw_1 x) (lf_spec_l7Draw_1 x) ([], 0, x.1.2)).1, (loopV (lc_spec_l7Draw_1 x) (lf_spec_l7Draw_1 x) ([], 0, x.1.2)).2.2) := (vu_spec_l7Draw x).trans (by kernel_rfl)
theorem oe_spec_l7Draw (x : (List (Int) × Int × Int) × Int) : ok_spec_l7Draw x = (LoopOk (lc_spec_l7Draw_1 x) (lf_spec_l7Draw_1 x) (lp_spec_l7Draw_1 x) ([], 0, x.1.2)) := (ou_spec_l7Draw x).trans (by kernel_rfl)
theorem ve_spec_MakeHeld (x : List (Int)) : v_spec_MakeHeld x = (v_spec_l7Draw ((v_spec_l24New (x, 4)), 6)).1 := (vu_spec_MakeHeld x).trans (by kernel_rfl)
theorem oe_spec_MakeHeld (x : List (Int)) : ok_spec_MakeHeld x = ((ok_spec_l24New (x, 4)) ∧ (ok_spec_l7Draw ((v_spec_l24New (x, 4)), 6))) := (ou_spec_MakeHeld x).trans (by kernel_rfl)
theorem ve_laws_has (x : List (Int) × Int) : v_laws_has x = (iLt (loopV (fun (x0 : Int) => (bAnd (iLt x0 (lLen x.1)) (bNot (iEq (lGet x.1 (iNat x0) 0) x.2)))) (fun (x0 : Int) => (iAdd Go.IntKind.i64 x0 1)) 0) (lLen x.1)) := (vu_laws_has x).trans (by kernel_rfl)
theorem oe_laws_has (x : List (Int) × Int) : ok_laws_has x = (LoopOk (fun (x0 : Int) => (bAnd (iLt x0 (lLen x.1)) (bNot (iEq (lGet x.1 (iNat x0) 0) x.2)))) (fun (x0 : Int) => (iAdd Go.IntKind.i64 x0 1)) (fun (x0 : Int) => (((iLt x0 (lLen x.1)) = true → ((((0 : Int) ≤ x0) ∧ (x0 < (((List.length x.1) : Int)))) ∧ ((iNat x0) < (List.length x.1)))) ∧ ((iLt x0 (lLen x.1)) = false → True))) 0) := (ou_laws_has x).trans (by kernel_rfl)
noncomputable def lc_impl_IsReport_1 (x : Int × List (Int)) (x0 : Int) : Bool := (bAnd (iLt x0 (lLen x.2)) (bNot (bOr (bNot (v_impl_isCode (lGet x.2 (iNat x0) 0))) (bAnd (iGt x0 0) (iGe (lGet x.2 (iNat (iSub Go.IntKind.i64 x0 1)) 0) (lGet x.2 (iNat x0) 0))))))
noncomputable def lf_impl_IsReport_1 (x0 : Int) : Int := (iAdd Go.IntKind.i64 x0 1)
noncomputable def lp_impl_IsReport_1 (x : Int × List (Int)) (x0 : Int) : Prop := (((iLt x0 (lLen x.2)) = true → ((((0 : Int) ≤ x0) ∧ (x0 < (((List.length x.2) : Int)))) ∧ (((iNat x0) < (List.length x.2)) ∧ ((ok_impl_isCode (lGet x.2 (iNat x0) 0)) ∧ (((bNot (v_impl_isCode (lGet x.2 (iNat x0) 0))) = true → True) ∧ ((bNot (v_impl_isCode (lGet x.2 (iNat x0) 0))) = false → (((iGt x0 0) = true → ((((0 : Int) ≤ (iSub Go.IntKind.i64 x0 1)) ∧ ((iSub Go.IntKind.i64 x0 1) < (((List.length x.2) : Int)))) ∧ ((iNat (iSub Go.IntKind.i64 x0 1)) < (List.length x.2)))) ∧ ((iGt x0 0) = false → True)))))))) ∧ ((iLt x0 (lLen x.2)) = false → True))
theorem ve_impl_IsReport (x : Int × List (Int)) : v_impl_IsReport x = (bAnd (bNot (bOr (iLt x.1 0) (iGt x.1 15))) (bNot (iLt (loopV (lc_impl_IsReport_1 x) lf_impl_IsReport_1 0) (lLen x.2)))) := (vu_impl_IsReport x).trans (by kernel_rfl)
theorem oe_impl_IsReport (x : Int × List (Int)) : ok_impl_IsReport x = (((bOr (iLt x.1 0) (iGt x.1 15)) = true → True) ∧ ((bOr (iLt x.1 0) (iGt x.1 15)) = false → (LoopOk (lc_impl_IsReport_1 x) lf_impl_IsReport_1 (lp_impl_IsReport_1 x) 0))) := (ou_impl_IsReport x).trans (by kernel_rfl)
noncomputable def ls_laws_FnHeldReports_1 (x : List (Int)) := v_impl_IsReport (v_impl_ReportOf (v_spec_MakeHeld x))
noncomputable def lc_laws_FnHeldReports_1 (x : List (Int)) (x0 : (Int × Int)) : Bool := (bAnd (iLt x0.2 (lLen (v_spec_MakeHeld x))) (bNot (bAnd (iGt (lGet (v_spec_MakeHeld x) (iNat x0.2) (0, 0, 0, 0, 0)).2.2.1 0) (bNot (v_laws_has ((v_impl_ReportOf (v_spec_MakeHeld x)).2, (lGet (v_spec_MakeHeld x) (iNat x0.2) (0, 0, 0, 0, 0)).2.2.1))))))
noncomputable def lf_laws_FnHeldReports_1 (x : List (Int)) (x0 : (Int × Int)) : (Int × Int) := ((bSel (bOr (iEq (lGet (v_spec_MakeHeld x) (iNat x0.2) (0, 0, 0, 0, 0)).2.1 2) (iEq (lGet (v_spec_MakeHeld x) (iNat x0.2) (0, 0, 0, 0, 0)).2.1 8)) (iOr Go.IntKind.i64 x0.1 (lGet (v_spec_MakeHeld x) (iNat x0.2) (0, 0, 0, 0, 0)).2.2.2.1) x0.1), (iAdd Go.IntKind.i64 x0.2 1))
noncomputable def lc_laws_FnHeldReports_3 (x : List (Int)) (x1 : (Bool × Int)) : Bool := (iLt x1.2 (lLen (v_spec_MakeHeld x)))
noncomputable def lf_laws_FnHeldReports_3 (x : List (Int)) (x0 : Int) (x1 : (Bool × Int)) : (Bool × Int) := ((bOr x1.1 (iEq (lGet (v_spec_MakeHeld x) (iNat x1.2) (0, 0, 0, 0, 0)).2.2.1 (lGet (v_impl_ReportOf (v_spec_MakeHeld x)).2 (iNat x0) 0))), (iAdd Go.IntKind.i64 x1.2 1))
noncomputable def lc_laws_FnHeldReports_2 (x : List (Int)) (x0 : Int) : Bool := (bAnd (iLt x0 (lLen (v_impl_ReportOf (v_spec_MakeHeld x)).2)) (bNot (bNot (loopV (lc_laws_FnHeldReports_3 x) (lf_laws_FnHeldReports_3 x x0) (false, 0)).1)))
noncomputable def lf_laws_FnHeldReports_2 (x0 : Int) : Int := (iAdd Go.IntKind.i64 x0 1)
noncomputable def lc_laws_FnHeldReports_4 (x0 : ((List (Int × (Int × (Int × (Int × Int))))) × Int)) : Bool := (iGe x0.2 0)
noncomputable def lf_laws_FnHeldReports_4 (x : List (Int)) (x0 : ((List (Int × (Int × (Int × (Int × Int))))) × Int)) : ((List (Int × (Int × (Int × (Int × Int))))) × Int) := ((lApp x0.1 [(lGet (v_spec_MakeHeld x) (iNat x0.2) (0, 0, 0, 0, 0))]), (iSub Go.IntKind.i64 x0.2 1))
noncomputable def lp_laws_FnHeldReports_1 (x : List (Int)) (x0 : (Int × Int)) : Prop := (((iLt x0.2 (lLen (v_spec_MakeHeld x))) = true → ((((0 : Int) ≤ x0.2) ∧ (x0.2 < (((List.length (v_spec_MakeHeld x)) : Int)))) ∧ (((iNat x0.2) < (List.length (v_spec_MakeHeld x))) ∧ (((iGt (lGet (v_spec_MakeHeld x) (iNat x0.2) (0, 0, 0, 0, 0)).2.2.1 0) = true → (ok_laws_has ((v_impl_ReportOf (v_spec_MakeHeld x)).2, (lGet (v_spec_MakeHeld x) (iNat x0.2) (0, 0, 0, 0, 0)).2.2.1))) ∧ ((iGt (lGet (v_spec_MakeHeld x) (iNat x0.2) (0, 0, 0, 0, 0)).2.2.1 0) = false → True))))) ∧ ((iLt x0.2 (lLen (v_spec_MakeHeld x))) = false → True))
noncomputable def lp_laws_FnHeldReports_3 (x : List (Int)) (x0 : Int) (x1 : (Bool × Int)) : Prop := (((iLt x1.2 (lLen (v_spec_MakeHeld x))) = true → ((x1.1 = true → True) ∧ (x1.1 = false → ((((0 : Int) ≤ x1.2) ∧ (x1.2 < (((List.length (v_spec_MakeHeld x)) : Int)))) ∧ (((iNat x1.2) < (List.length (v_spec_MakeHeld x))) ∧ ((((0 : Int) ≤ x0) ∧ (x0 < (((List.length (v_impl_ReportOf (v_spec_MakeHeld x)).2) : Int)))) ∧ ((iNat x0) < (List.length (v_impl_ReportOf (v_spec_MakeHeld x)).2)))))))) ∧ ((iLt x1.2 (lLen (v_spec_MakeHeld x))) = false → True))
noncomputable def lp_laws_FnHeldReports_2 (x : List (Int)) (x0 : Int) : Prop := (((iLt x0 (lLen (v_impl_ReportOf (v_spec_MakeHeld x)).2)) = true → (LoopOk (lc_laws_FnHeldReports_3 x) (lf_laws_FnHeldReports_3 x x0) (lp_laws_FnHeldReports_3 x x0) (false, 0))) ∧ ((iLt x0 (lLen (v_impl_ReportOf (v_spec_MakeHeld x)).2)) = false → True))
noncomputable def lp_laws_FnHeldReports_4 (x : List (Int)) (x0 : ((List (Int × (Int × (Int × (Int × Int))))) × Int)) : Prop := (((iGe x0.2 0) = true → ((((0 : Int) ≤ x0.2) ∧ (x0.2 < (((List.length (v_spec_MakeHeld x)) : Int)))) ∧ (((iNat x0.2) < (List.length (v_spec_MakeHeld x))) ∧ (roomy (((List.length x0.1) + (List.length [(lGet (v_spec_MakeHeld x) (iNat x0.2) (0, 0, 0, 0, 0))])) * 5))))) ∧ ((iGe x0.2 0) = false → True))
theorem ve_laws_FnHeldReports (x : List (Int)) : v_laws_FnHeldReports x = (bOr (v_laws_big x) (bAnd (bNot (iLt (loopV (lc_laws_FnHeldReports_1 x) (lf_laws_FnHeldReports_1 x) (0, 0)).2 (lLen (v_spec_MakeHeld x)))) (bAnd (bNot (iLt (loopV (lc_laws_FnHeldReports_2 x) lf_laws_FnHeldReports_2 0) (lLen (v_impl_ReportOf (v_spec_MakeHeld x)).2))) (bAnd (v_impl_IsHeld (v_spec_MakeHeld x)) (bAnd (ls_laws_FnHeldReports_1 x) (bAnd (iEq (v_impl_ReportOf (v_spec_MakeHeld x)).1 (loopV (lc_laws_FnHeldReports_1 x) (lf_laws_FnHeldReports_1 x) (0, 0)).1) (bAnd (v_impl_SameReport ((v_impl_ReportOf (loopV lc_laws_FnHeldReports_4 (lf_laws_FnHeldReports_4 x) ([], (iSub Go.IntKind.i64 (lLen (v_spec_MakeHeld x)) 1))).1), (v_impl_ReportOf (v_spec_MakeHeld x)))) (iEq (v_impl_LayersOn (0, (loopV lc_laws_FnHeldReports_4 (lf_laws_FnHeldReports_4 x) ([], (iSub Go.IntKind.i64 (lLen (v_spec_MakeHeld x)) 1))).1)) (v_impl_LayersOn (0, (v_spec_MakeHeld x))))))))))) := (vu_laws_FnHeldReports x).trans (by kernel_rfl)
theorem oe_laws_FnHeldReports (x : List (Int)) : ok_laws_FnHeldReports x = ((ok_laws_big x) ∧ (((v_laws_big x) = true → True) ∧ ((v_laws_big x) = false → ((ok_spec_MakeHeld x) ∧ ((ok_impl_ReportOf (v_spec_MakeHeld x)) ∧ ((LoopOk (lc_laws_FnHeldReports_1 x) (lf_laws_FnHeldReports_1 x) (lp_laws_FnHeldReports_1 x) (0, 0)) ∧ (((iLt (loopV (lc_laws_FnHeldReports_1 x) (lf_laws_FnHeldReports_1 x) (0, 0)).2 (lLen (v_spec_MakeHeld x))) = true → True) ∧ ((iLt (loopV (lc_laws_FnHeldReports_1 x) (lf_laws_FnHeldReports_1 x) (0, 0)).2 (lLen (v_spec_MakeHeld x))) = false → ((LoopOk (lc_laws_FnHeldReports_2 x) lf_laws_FnHeldReports_2 (lp_laws_FnHeldReports_2 x) 0) ∧ (((iLt (loopV (lc_laws_FnHeldReports_2 x) lf_laws_FnHeldReports_2 0) (lLen (v_impl_ReportOf (v_spec_MakeHeld x)).2)) = true → True) ∧ ((iLt (loopV (lc_laws_FnHeldReports_2 x) lf_laws_FnHeldReports_2 0) (lLen (v_impl_ReportOf (v_spec_MakeHeld x)).2)) = false → ((LoopOk lc_laws_FnHeldReports_4 (lf_laws_FnHeldReports_4 x) (lp_laws_FnHeldReports_4 x) ([], (iSub Go.IntKind.i64 (lLen (v_spec_MakeHeld x)) 1))) ∧ ((ok_impl_IsHeld (v_spec_MakeHeld x)) ∧ (((v_impl_IsHeld (v_spec_MakeHeld x)) = true → ((ok_impl_IsReport (v_impl_ReportOf (v_spec_MakeHeld x))) ∧ (((ls_laws_FnHeldReports_1 x) = true → (((iEq (v_impl_ReportOf (v_spec_MakeHeld x)).1 (loopV (lc_laws_FnHeldReports_1 x) (lf_laws_FnHeldReports_1 x) (0, 0)).1) = true → ((ok_impl_ReportOf (loopV lc_laws_FnHeldReports_4 (lf_laws_FnHeldReports_4 x) ([], (iSub Go.IntKind.i64 (lLen (v_spec_MakeHeld x)) 1))).1) ∧ ((ok_impl_SameReport ((v_impl_ReportOf (loopV lc_laws_FnHeldReports_4 (lf_laws_FnHeldReports_4 x) ([], (iSub Go.IntKind.i64 (lLen (v_spec_MakeHeld x)) 1))).1), (v_impl_ReportOf (v_spec_MakeHeld x)))) ∧ (((v_impl_SameReport ((v_impl_ReportOf (loopV lc_laws_FnHeldReports_4 (lf_laws_FnHeldReports_4 x) ([], (iSub Go.IntKind.i64 (lLen (v_spec_MakeHeld x)) 1))).1), (v_impl_ReportOf (v_spec_MakeHeld x)))) = true → ((ok_impl_LayersOn (0, (loopV lc_laws_FnHeldReports_4 (lf_laws_FnHeldReports_4 x) ([], (iSub Go.IntKind.i64 (lLen (v_spec_MakeHeld x)) 1))).1)) ∧ (ok_impl_LayersOn (0, (v_spec_MakeHeld x))))) ∧ ((v_impl_SameReport ((v_impl_ReportOf (loopV lc_laws_FnHeldReports_4 (lf_laws_FnHeldReports_4 x) ([], (iSub Go.IntKind.i64 (lLen (v_spec_MakeHeld x)) 1))).1), (v_impl_ReportOf (v_spec_MakeHeld x)))) = false → True))))) ∧ ((iEq (v_impl_ReportOf (v_spec_MakeHeld x)).1 (loopV (lc_laws_FnHeldReports_1 x) (lf_laws_FnHeldReports_1 x) (0, 0)).1) = false → True))) ∧ ((ls_laws_FnHeldReports_1 x) = false → True)))) ∧ ((v_impl_IsHeld (v_spec_MakeHeld x)) = false → True))))))))))))))) := (ou_laws_FnHeldReports x).trans (by kernel_rfl)
end
def GoodA (a : Int × Int × Int × Int) : Prop := v_impl_IsAction a = true ∧ a.1 ≠ 1
def HeldA (a : Int × Int × Int × Int) : Prop := GoodA a ∧ a.1 ≠ 6 ∧ a.1 ≠ 7
theorem isA_eq (k c m n : Int) : v_impl_IsAction (k, c, m, n) = true ↔
    ((k = 0 ∨ k = 1 ∨ k = 10) ∧ c = 0 ∧ m = 0 ∧ n = 0) ∨ (k = 2 ∧ n = 0 ∧ 0 ≤ c ∧ c ≤ 56 ∧ 0 ≤ m ∧ m ≤ 15 ∧ (c ≠ 0 ∨ m ≠ 0)) ∨ ((k = 3 ∨ k = 4) ∧ c = 0 ∧ m = 0 ∧ 1 ≤ n ∧ n ≤ 3) ∨ ((k = 5 ∨ k = 9) ∧ c = 0 ∧ m = 0 ∧ 0 ≤ n ∧ n ≤ 3) ∨
    (k = 6 ∧ 1 ≤ c ∧ c ≤ 56 ∧ 1 ≤ m ∧ m ≤ 15 ∧ n = 0) ∨ (k = 7 ∧ 1 ≤ c ∧ c ≤ 56 ∧ m = 0 ∧ 1 ≤ n ∧ n ≤ 3) ∨ (k = 8 ∧ c = 0 ∧ 1 ≤ m ∧ m ≤ 15 ∧ n = 0) := by
  rw [ve_impl_IsAction]
  simp only [bSel_eq, bOr_eq, bAnd_eq, iEq_eq, iNe_eq, ve_impl_isCode, ve_impl_isMods, ve_impl_isUpper, iGe_eq, iLe_eq]
  repeat' split
  all_goals simp only [Bool.and_eq_true, Bool.or_eq_true, Bool.not_eq_true', Bool.not_eq_false', Bool.and_eq_false_iff, Bool.or_eq_false_iff, decide_eq_true_eq, decide_eq_false_iff_not, Bool.not_eq_true, Bool.not_eq_false, beq_iff_eq, beq_eq_false_iff_ne, ne_eq, Bool.not_eq_true, decide_not] at *
  all_goals omega
theorem isTapHold_eq (a : Int × Int × Int × Int) : v_spec_IsTapHold a = (v_impl_IsAction a && (decide (a.1 = 6) || decide (a.1 = 7))) := by
  rw [ve_spec_IsTapHold, isAction_eq, bAnd_eq, bOr_eq, iEq_eq, iEq_eq]
theorem holdOf_good {a : Int × Int × Int × Int} (h : GoodA a) : GoodA (v_spec_HoldOf a) := by
  obtain ⟨k, c, m, n⟩ := a
  obtain ⟨h1, h2⟩ := h
  rw [ve_spec_HoldOf, isTapHold_eq, h1]
  simp only [bNot_eq, bSel_eq, iEq_eq, Bool.true_and] at h2 ⊢
  have h3 := (isA_eq k c m n).1 h1
  split
  · exact ⟨h1, h2⟩
  · next hb =>
    simp only [Bool.not_eq_true', Bool.not_eq_false, Bool.or_eq_true, decide_eq_true_eq] at hb
    split
    · next hk =>
      rw [decide_eq_true_eq] at hk
      exact ⟨(isA_eq _ _ _ _).2 (by omega), by simp⟩
    · next hk =>
      rw [decide_eq_true_eq] at hk
      exact ⟨(isA_eq _ _ _ _).2 (by omega), by simp⟩
theorem tapOf_held {a : Int × Int × Int × Int} (h : GoodA a) : HeldA (v_spec_TapOf a) := by
  obtain ⟨k, c, m, n⟩ := a
  obtain ⟨h1, h2⟩ := h
  rw [ve_spec_TapOf, isTapHold_eq, h1]
  simp only [bNot_eq, bSel_eq, iEq_eq, Bool.true_and] at h2 ⊢
  have h3 := (isA_eq k c m n).1 h1
  split
  · next hb =>
    simp only [Bool.not_eq_true', Bool.or_eq_false_iff, decide_eq_false_iff_not] at hb
    exact ⟨⟨h1, h2⟩, hb⟩
  · next hb =>
    simp only [Bool.not_eq_true', Bool.not_eq_false, Bool.or_eq_true, decide_eq_true_eq] at hb
    exact ⟨⟨(isA_eq _ _ _ _).2 (by omega), by simp⟩, by simp⟩
theorem draw5_ok (c : List Int × Int × Int) (h : CurOk c) : ok_spec_l5Draw (c, 4) ∧ CurOk (c.1, (v_spec_l5Draw (c, 4)).2) ∧ GoodA (v_spec_l5Draw (c, 4)).1 := by
  rw [oe_spec_l5Draw, ve_spec_l5Draw]
  have em : iMax 1 (iSub .i64 4 1) = 3 := by rw [iSub_i64 (by unfold In64; omega), iMax_u]; decide
  have em' : iMax 1 4 = 4 := by rw [iMax_u]; decide
  obtain ⟨a1, a2, _, a4⟩ := below_ok c 56 h
  have a4 := a4 (by omega)
  obtain ⟨b1, b2, _, b4⟩ := below_ok _ 15 a2
  have b4 := b4 (by omega)
  change CurOk (c.1, (ls_spec_l5Draw_1 (c, 4)).2) at b2
  change 0 ≤ (ls_spec_l5Draw_1 (c, 4)).1 ∧ (ls_spec_l5Draw_1 (c, 4)).1 < 15 at b4
  obtain ⟨c1, c2⟩ := once_ok _ 2 b2
  change CurOk (c.1, (ls_spec_l5Draw_2 (c, 4)).2) at c2
  have hc2 : CurOk (c.1, (bSel (ls_spec_l5Draw_2 (c, 4)).1 (ls_spec_l5Draw_2 (c, 4)).2.1 (ls_spec_l5Draw_2 (c, 4)).2.1), (bSel (ls_spec_l5Draw_2 (c, 4)).1 (ls_spec_l5Draw_2 (c, 4)).2.2 (ls_spec_l5Draw_2 (c, 4)).2.2)) := by
    simp only [bSel_eq, ite_self]; exact c2
  obtain ⟨d1, d2, _, d4⟩ := below_ok _ (iMax 1 (iSub .i64 4 1)) hc2
  change CurOk (c.1, (ls_spec_l5Draw_3 (c, 4)).2) at d2
  have d4 : 0 ≤ (ls_spec_l5Draw_3 (c, 4)).1 ∧ (ls_spec_l5Draw_3 (c, 4)).1 < 3 := by
    have := d4 (by rw [em]; omega)
    rw [em] at this
    have e : ls_spec_l5Draw_3 (c, 4) = v_spec_l1Below ((c.1, (bSel (ls_spec_l5Draw_2 (c, 4)).1 (ls_spec_l5Draw_2 (c, 4)).2.1 (ls_spec_l5Draw_2 (c, 4)).2.1), (bSel (ls_spec_l5Draw_2 (c, 4)).1 (ls_spec_l5Draw_2 (c, 4)).2.2 (ls_spec_l5Draw_2 (c, 4)).2.2)), 3) := by unfold ls_spec_l5Draw_3; rw [em]
    rw [e]; exact this
  obtain ⟨e1, e2, _, e4⟩ := below_ok _ 16 d2
  have e4 := e4 (by omega)
  change CurOk (c.1, (ls_spec_l5Draw_4 (c, 4)).2) at e2
  change 0 ≤ (ls_spec_l5Draw_4 (c, 4)).1 ∧ (ls_spec_l5Draw_4 (c, 4)).1 < 16 at e4
  obtain ⟨f1, f2, _, f4⟩ := below_ok _ 4 e2
  have f4 := f4 (by omega)
  change CurOk (c.1, (ls_spec_l5Draw_5 (c, 4)).2) at f2
  change 0 ≤ (ls_spec_l5Draw_5 (c, 4)).1 ∧ (ls_spec_l5Draw_5 (c, 4)).1 < 4 at f4
  obtain ⟨g1, g2, _, g4⟩ := below_ok _ 3 e2
  have g4 := g4 (by omega)
  change CurOk (c.1, (ls_spec_l5Draw_6 (c, 4)).2) at g2
  change 0 ≤ (ls_spec_l5Draw_6 (c, 4)).1 ∧ (ls_spec_l5Draw_6 (c, 4)).1 < 3 at g4
  obtain ⟨i1, i2, _, i4⟩ := below_ok _ (iMax 1 4) e2
  have i4 := i4 (by rw [em']; omega)
  change CurOk (c.1, (ls_spec_l5Draw_7 (c, 4)).2) at i2
  change 0 ≤ (ls_spec_l5Draw_7 (c, 4)).1 ∧ (ls_spec_l5Draw_7 (c, 4)).1 < iMax 1 4 at i4
  rw [em'] at i4
  have hM : 1 ≤ bSel (ls_spec_l5Draw_2 (c, 4)).1 2 (iAdd .i64 1 (ls_spec_l5Draw_1 (c, 4)).1) ∧ bSel (ls_spec_l5Draw_2 (c, 4)).1 2 (iAdd .i64 1 (ls_spec_l5Draw_1 (c, 4)).1) ≤ 15 := by
    rw [bSel_eq, iAdd_i64 (by unfold In64; omega)]
    split <;> omega
  have hC : 1 ≤ iAdd .i64 1 (v_spec_l1Below (c, 56)).1 ∧ iAdd .i64 1 (v_spec_l1Below (c, 56)).1 ≤ 56 := by rw [iAdd_i64 (by unfold In64; omega)]; omega
  have hN : 1 ≤ iAdd .i64 1 (ls_spec_l5Draw_3 (c, 4)).1 ∧ iAdd .i64 1 (ls_spec_l5Draw_3 (c, 4)).1 ≤ 3 := by rw [iAdd_i64 (by unfold In64; omega)]; omega
  refine ⟨?_, ?_⟩
  · refine ⟨a1, b1, c1, d1, e1, fun _ => trivial, fun _ => ⟨fun _ => trivial, fun _ => ⟨fun _ => trivial, fun _ => ⟨fun _ => trivial, fun _ => ⟨fun _ => f1, fun _ => ⟨fun _ => trivial, fun _ => ⟨fun _ => i1, fun _ => ⟨fun _ => ⟨fun _ => ⟨g1, ?_, ?_⟩, fun _ => trivial⟩, fun _ => trivial⟩⟩⟩⟩⟩⟩⟩⟩
    · simp only [List.length_cons, List.length_nil]; omega
    · simp only [List.length_cons, List.length_nil, iNat_eq]; omega
  generalize bSel (ls_spec_l5Draw_2 (c, 4)).1 2 (iAdd .i64 1 (ls_spec_l5Draw_1 (c, 4)).1) = M at hM ⊢
  generalize iAdd .i64 1 (v_spec_l1Below (c, 56)).1 = C at hC ⊢
  generalize iAdd .i64 1 (ls_spec_l5Draw_3 (c, 4)).1 = N at hN ⊢
  generalize ls_spec_l5Draw_7 (c, 4) = s7 at i2 i4 ⊢
  generalize ls_spec_l5Draw_6 (c, 4) = s6 at g2 g4 ⊢
  generalize ls_spec_l5Draw_5 (c, 4) = s5 at f2 f4 ⊢
  generalize ls_spec_l5Draw_4 (c, 4) = s4 at e2 e4 ⊢
  have hL : GoodA (lGet [(3, 0, 0, N), (4, 0, 0, N), (7, C, 0, N)] (iNat s6.1) (0, 0, 0, 0)) := by
    rw [lGet_eq, iNat_eq]
    have : s6.1 = 0 ∨ s6.1 = 1 ∨ s6.1 = 2 := by omega
    rcases this with e | e | e
    · rw [e]; exact ⟨(isA_eq 3 0 0 N).2 (by omega), by simp⟩
    · rw [e]; exact ⟨(isA_eq 4 0 0 N).2 (by omega), by simp⟩
    · rw [e]; exact ⟨(isA_eq 7 C 0 N).2 (by omega), by simp⟩
  generalize lGet [(3, 0, 0, N), (4, 0, 0, N), (7, C, 0, N)] (iNat s6.1) (0, 0, 0, 0) = L at hL ⊢
  have g : ∀ (b : Bool) (p q : (Int × Int × Int × Int) × Int × Int), (CurOk (c.1, p.2) ∧ GoodA p.1) → (CurOk (c.1, q.2) ∧ GoodA q.1) → CurOk (c.1, (bSel b p q).2) ∧ GoodA (bSel b p q).1 := fun b p q hp hq => by
    rw [bSel_eq]; cases b
    · exact hq
    · exact hp
  refine g _ _ _ ⟨?_, (isA_eq _ _ _ _).2 (by omega), by simp⟩ (g _ _ _ ⟨e2, (isA_eq _ _ _ _).2 (by omega), by simp⟩ (g _ _ _ ⟨e2, (isA_eq _ _ _ _).2 (by omega), by simp⟩ (g _ _ _ ⟨e2, (isA_eq _ _ _ _).2 (by omega), by simp⟩ (g _ _ _ ⟨e2, (isA_eq _ _ _ _).2 (by omega), by simp⟩ (g _ _ _ ⟨f2, (isA_eq _ _ _ _).2 (by omega), by simp⟩ (g _ _ _ ⟨e2, (isA_eq _ _ _ _).2 (by omega), by simp⟩ (g _ _ _ ⟨i2, (isA_eq _ _ _ _).2 (by omega), by simp⟩ ⟨g2, hL⟩)))))))
  simp only [bSel_eq, ite_self]
  exact e2
def HeldsOk (n : Int) (l : List (Int × Int × Int × Int × Int)) : Prop := (∀ a ∈ l, HeldOk a) ∧ l.Pairwise (fun a b => a.1 < b.1) ∧ (l.length : Int) ≤ n
theorem draw7_ok (c : List Int × Int × Int) (n : Int) (h : CurOk c) (h0 : 0 ≤ n) (h1 : n ≤ 32) : ok_spec_l7Draw (c, n) ∧ CurOk (c.1, (v_spec_l7Draw (c, n)).2) ∧ HeldsOk n (v_spec_l7Draw (c, n)).1 := by
  rw [oe_spec_l7Draw, ve_spec_l7Draw]
  have key := loop_inv (c := lc_spec_l7Draw_1 (c, n)) (f := lf_spec_l7Draw_1 (c, n)) (p := lp_spec_l7Draw_1 (c, n)) (fun st => CurOk (c.1, st.2.2) ∧ 0 ≤ st.2.1 ∧ st.2.1 ≤ n ∧ HeldsOk st.2.1 st.1 ∧ ∀ a ∈ st.1, a.1 < st.2.1) (fun st => (n - st.2.1).toNat) (fun st hI => by
    obtain ⟨l, k, cu⟩ := st
    obtain ⟨i0, i1, i2, ⟨i3, i4, i5⟩, i6⟩ := hI
    simp only at i0 i1 i2 i3 i4 i5 i6
    have s1 : iAdd .i64 k 1 = k + 1 := iAdd_i64 (by unfold In64; omega)
    obtain ⟨b1, b2⟩ := once_ok (c.1, cu) 2 i0
    obtain ⟨d1, d2, d3⟩ := draw5_ok _ b2
    have eD : ls_spec_l7Draw_1 (c, n) (l, k, cu) = v_spec_l5Draw ((c.1, (v_spec_l1Once ((c.1, cu), 2)).2), 4) := rfl
    have eO : ls_spec_l7Draw_2 (c, n) (l, k, cu) = v_spec_l1Once ((c.1, (ls_spec_l7Draw_1 (c, n) (l, k, cu)).2), 2) := rfl
    obtain ⟨e1, e2⟩ := once_ok _ 2 d2
    simp only at e1 e2
    rw [← eD] at d2 d3 e1 e2
    rw [← eO] at e2
    have hT : HeldA (ls_spec_l7Draw_3 (c, n) (l, k, cu)) := by
      unfold ls_spec_l7Draw_3
      generalize ls_spec_l7Draw_2 (c, n) (l, k, cu) = O
      generalize (ls_spec_l7Draw_1 (c, n) (l, k, cu)).1 = D at d3 ⊢
      have hh := holdOf_good d3
      simp only [bSel_eq]
      cases O.1
      · exact tapOf_held d3
      · exact tapOf_held hh
    refine ⟨?_, fun hc => ?_⟩
    · unfold lp_spec_l7Draw_1
      simp only
      refine ⟨fun hc => ⟨b1, fun _ => trivial, fun _ => ⟨?_, ⟨e1, fun _ => by rw [oe_spec_HoldOf]; exact ok_TapHold _, fun _ => trivial⟩, by rw [oe_spec_TapOf]; exact ok_TapHold _, ?_⟩⟩, fun _ => trivial⟩
      · exact d1
      · unfold roomy; simp only [List.length_cons, List.length_nil]; omega
    · unfold lc_spec_l7Draw_1 at hc
      simp only [iLt_eq, decide_eq_true_eq] at hc
      unfold lf_spec_l7Draw_1
      simp only [s1, lApp_eq]
      generalize ls_spec_l7Draw_3 (c, n) (l, k, cu) = T at hT ⊢
      generalize ls_spec_l7Draw_2 (c, n) (l, k, cu) = O at e2 ⊢
      generalize v_spec_l1Once ((c.1, cu), 2) = B at b2 ⊢
      have hT' : HeldOk (k, T) := ⟨i1, by simp only; omega, hT.1.1, hT.1.2, hT.2⟩
      refine ⟨⟨?_, by omega, by omega, ?_, ?_⟩, by omega⟩
      · simp only [bSel_eq, ite_self]
        cases B.1
        · exact e2
        · exact b2
      · rw [bSel_eq]
        split
        · exact ⟨i3, i4, by omega⟩
        · refine ⟨fun a ha => ?_, List.pairwise_append.2 ⟨i4, List.pairwise_singleton _ _, fun a ha b hb => ?_⟩, by simp only [List.length_append, List.length_cons, List.length_nil]; omega⟩
          · rw [List.mem_append, List.mem_singleton] at ha
            rcases ha with ha | rfl
            · exact i3 a ha
            · exact hT'
          · rw [List.mem_singleton] at hb
            subst hb
            exact i6 a ha
      · intro a ha
        rw [bSel_eq] at ha
        split at ha
        · have := i6 a ha; omega
        · rw [List.mem_append, List.mem_singleton] at ha
          rcases ha with ha | rfl
          · have := i6 a ha; omega
          · simp only; omega) (x0 := ([], 0, c.2)) ⟨h, by simp, h0, ⟨by simp, List.Pairwise.nil, by simp⟩, by simp⟩
  obtain ⟨k1, ⟨k2, k3, k4, ⟨k5, k6, k7⟩, k8⟩, _⟩ := key
  exact ⟨k1, k2, k5, k6, by simp only; omega⟩
theorem new24_ok (x : List Int) (k : Int) (h : x.length ≤ 1048576) : ok_spec_l24New (x, k) ∧ CurOk (v_spec_l24New (x, k)) := by
  rw [oe_spec_l24New, ve_spec_l24New]
  obtain ⟨a1, a2, _⟩ := new_ok x h
  exact ⟨a1, a2⟩
theorem makeHeld_ok (x : List Int) (h : x.length ≤ 1048576) : ok_spec_MakeHeld x ∧ HeldsOk 6 (v_spec_MakeHeld x) := by
  rw [oe_spec_MakeHeld, ve_spec_MakeHeld]
  obtain ⟨a1, a2⟩ := new24_ok x 4 h
  obtain ⟨b1, _, b3⟩ := draw7_ok _ 6 a2 (by omega) (by omega)
  exact ⟨⟨a1, b1⟩, b3⟩
theorem ok_sameReport (a b : Int × List Int) (h : a.2.length ≤ 1048576) : ok_spec_SameReport (a, b) ∧ ok_impl_SameReport (a, b) := by
  obtain ⟨m, a⟩ := a
  obtain ⟨n, b⟩ := b
  rw [oe_spec_SameReport, oe_impl_SameReport, oe_impl_sameInts]
  have h : a.length ≤ 1048576 := h
  have lp : ∀ {c : Int → Bool} {f : Int → Int} {p : Int → Prop}, (∀ st, c st = true → st < a.length) → (∀ st, f st = iAdd .i64 st 1) → (∀ st : Int, 0 ≤ st → st ≤ a.length → p st) → LoopOk c f p 0 := fun hc hf hp =>
    cnt_ok (fun st => st) a.length (by omega) (fun st _ _ h => hc st h) hf hp (by simp) (by simp)
  have cc : ∀ {st : Int} {t : Bool}, bAnd (iLt st (lLen a)) t = true → st < a.length := fun {st t} h => by
    rw [bAnd_eq, iLt_eq, lLen_eq, Bool.and_eq_true, decide_eq_true_eq] at h; exact h.1
  have pp : a.length = b.length → ∀ st : Int, 0 ≤ st → iLt st (lLen a) = true → (((0 : Int) ≤ st ∧ st < (a.length : Int)) ∧ iNat st < a.length ∧ ((0 : Int) ≤ st ∧ st < (b.length : Int)) ∧ iNat st < b.length) := fun hl st h0 h1 => by
    rw [iLt_eq, lLen_eq, decide_eq_true_eq] at h1
    rw [iNat_eq]; omega
  refine ⟨⟨fun _ => trivial, fun hb => ?_⟩, fun _ => ⟨fun _ => trivial, fun hb => ?_⟩, fun _ => trivial⟩
  · simp only [bOr_eq, iNe_eq, lLen_eq, Bool.or_eq_false_iff, Bool.not_eq_false', decide_eq_true_eq] at hb
    exact lp (fun st hc => cc hc) (fun _ => rfl) (fun st h0 h1 => ⟨pp (by omega) st h0, fun _ => trivial⟩)
  · simp only [iNe_eq, lLen_eq, Bool.not_eq_false', decide_eq_true_eq] at hb
    exact lp (fun st hc => cc hc) (fun _ => rfl) (fun st h0 h1 => ⟨pp (by omega) st h0, fun _ => trivial⟩)
end Go.Ag
