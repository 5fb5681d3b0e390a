/- Part 6 of what FnExactReportOf needs. No conditions. -/
import Derived.KernelRfl
import Derived.Test.YthljgcjmaabnoaaLibE
namespace Go.Ag
set_option linter.unusedSimpArgs false
set_option linter.unusedVariables false
section
set_option maxRecDepth 8000
noncomputable def dc_spec_l1In : DCode :=
  (.seq [2, 1, 0] (.region [oa 0 6 (.mv (.c (.bool false)))])
  (.seq [6] (.region [om 0 7 0,
 om 1 8 1,
 oa 2 9 (.bin .geq (.t 7) (.t 8)),
 om 3 10 9,
 og 4 11 (.mv (.t 0)) 10 true,
 og 5 12 (.mv (.t 2)) 10 true,
 og 6 13 (.bin .leq (.t 11) (.t 12)) 10 true,
 oa 7 14 (.pick (.t 10) (.t 13) (.c (.bool false))),
 om 8 6 14])
  .ret))
noncomputable def df_spec_l1In : DFun := ⟨3, 15, 0, true, [.tmp 6], dc_spec_l1In⟩
noncomputable def pf_spec_l1In : PFun := df_spec_l1In.er
noncomputable def f_spec_l1In : AFun := pf_spec_l1In.er
@[irreducible] noncomputable def s_spec_l1In : CallSem := funSem f_spec_l1In
@[irreducible] noncomputable def p_spec_l1In : PSem := pfunSem pf_spec_l1In
theorem sp_spec_l1In : SoundP s_spec_l1In p_spec_l1In := by unfold s_spec_l1In p_spec_l1In; exact pfun_sound (f := pf_spec_l1In) trivial
def h_spec_l1In : List HT := [.one .frz (.int .i64), .one .frz (.int .i64), .one .frz (.int .i64)]
def q_spec_l1In : QT := .one (.one .own (.bool))
@[irreducible] noncomputable def v_spec_l1In (x : Int × Int × Int) : Bool := (shut fun x => fnV df_spec_l1In h_spec_l1In q_spec_l1In x).1 x
@[irreducible] noncomputable def ok_spec_l1In (x : Int × Int × Int) : Prop := (shut fun x => fnOk df_spec_l1In h_spec_l1In q_spec_l1In x).1 x
theorem vu_spec_l1In (x : Int × Int × Int) : v_spec_l1In x = fnV df_spec_l1In h_spec_l1In q_spec_l1In x := by unfold v_spec_l1In; exact congrFun (shut _).2 x
theorem ou_spec_l1In (x : Int × Int × Int) : ok_spec_l1In x = fnOk df_spec_l1In h_spec_l1In q_spec_l1In x := by unfold ok_spec_l1In; exact congrFun (shut _).2 x
noncomputable def D_spec_l1In : DSem := DSemOf h_spec_l1In q_spec_l1In ok_spec_l1In v_spec_l1In
theorem ck_spec_l1In (x : Int × Int × Int) : fnChk df_spec_l1In h_spec_l1In q_spec_l1In x = true := by kernel_rfl
theorem ob_spec_l1In : AllD df_spec_l1In.body.obs := trivial
theorem st_spec_l1In : fnSt df_spec_l1In h_spec_l1In q_spec_l1In = true := by kernel_rfl
theorem sd_spec_l1In : SoundD p_spec_l1In D_spec_l1In := by unfold p_spec_l1In; exact soundD_of (f := df_spec_l1In) (hs := h_spec_l1In) (q := q_spec_l1In) ob_spec_l1In st_spec_l1In ck_spec_l1In (fun x h => Eq.mp (ou_spec_l1In x) h) (fun x => (vu_spec_l1In x).symm)
noncomputable def dc_spec_IsAction : DCode :=
  (.seq [1] (.region [oa 0 1 (.boxB 0 4 (.t 0)),
 oa 1 2 (.mv (.c (.bool false)))])
  (.seq [3, 1] (.region [oa 0 6 (.fieldA 1 (.t 1)),
 oa 1 7 (.loadB 0 none (.t 6)),
 oc 2 8 s_spec_l1In p_spec_l1In D_spec_l1In [(.t 7), (.c (.int .i64 1)), (.c (.int .i64 56))],
 om 3 3 8])
  (.seq [4, 3, 1] (.region [oa 0 9 (.fieldA 2 (.t 1)),
 oa 1 10 (.loadB 0 none (.t 9)),
 oc 2 11 s_spec_l1In p_spec_l1In D_spec_l1In [(.t 10), (.c (.int .i64 1)), (.c (.int .i64 15))],
 om 3 4 11])
  (.seq [5, 4, 3, 1] (.region [oa 0 12 (.fieldA 3 (.t 1)),
 oa 1 13 (.loadB 0 none (.t 12)),
 oc 2 14 s_spec_l1In p_spec_l1In D_spec_l1In [(.t 13), (.c (.int .i64 1)), (.c (.int .i64 3))],
 om 3 5 14])
  (.seq [] (.seq [16, 5, 4, 3, 1] (.region [oa 0 15 (.fieldA 0 (.t 1)),
 oa 1 16 (.loadB 0 none (.t 15))])
  (.block 0 (.seq [17, 16, 5, 4, 3, 1] (.seq [17, 16, 5, 4, 3, 1] (.region [oa 0 18 (.bin .eql (.t 16) (.c (.int .i64 0))),
 om 1 17 18])
  (.cond (.t 17) .skip (.seq [17, 16, 5, 4, 3, 1] (.region [oa 0 19 (.bin .eql (.t 16) (.c (.int .i64 1))),
 om 1 17 19])
  (.cond (.t 17) .skip (.region [oa 0 20 (.bin .eql (.t 16) (.c (.int .i64 10))),
 om 1 17 20])))))
  (.cond (.t 17) (.seq [2] (.region [oa 0 21 (.fieldA 1 (.t 1)),
 oa 1 22 (.loadB 0 none (.t 21)),
 oa 2 23 (.bin .eql (.t 22) (.c (.int .i64 0))),
 om 3 24 23,
 og 4 25 (.fieldA 2 (.t 1)) 24 true,
 og 5 26 (.loadB 0 none (.t 25)) 24 true,
 og 6 27 (.bin .eql (.t 26) (.c (.int .i64 0))) 24 true,
 oa 7 28 (.pick (.t 24) (.t 27) (.c (.bool false))),
 om 8 29 28,
 og 9 30 (.fieldA 3 (.t 1)) 29 true,
 og 10 31 (.loadB 0 none (.t 30)) 29 true,
 og 11 32 (.bin .eql (.t 31) (.c (.int .i64 0))) 29 true,
 oa 12 33 (.pick (.t 29) (.t 32) (.c (.bool false))),
 om 13 2 33])
  .ret) (.seq [34, 16, 5, 4, 3, 1] (.region [oa 0 35 (.bin .eql (.t 16) (.c (.int .i64 2))),
 om 1 34 35])
  (.cond (.t 34) (.seq [2] (.region [oa 0 36 (.fieldA 3 (.t 1)),
 oa 1 37 (.loadB 0 none (.t 36)),
 oa 2 38 (.bin .eql (.t 37) (.c (.int .i64 0))),
 om 3 39 38,
 og 4 40 (.mv (.t 3)) 39 true,
 og 5 41 (.mv (.t 40)) 39 true,
 og 6 42 (.fieldA 1 (.t 1)) 41 false,
 og 7 43 (.loadB 0 none (.t 42)) 41 false,
 og 8 44 (.bin .eql (.t 43) (.c (.int .i64 0))) 41 false,
 og 9 45 (.mv (.t 44)) 41 false,
 og 10 46 (.mv (.t 4)) 45 true,
 og 11 47 (.pick (.t 45) (.t 46) (.c (.bool false))) 41 false,
 og 12 48 (.pick (.t 41) (.c (.bool true)) (.t 47)) 39 true,
 oa 13 49 (.pick (.t 39) (.t 48) (.c (.bool false))),
 om 14 50 49,
 og 15 51 (.mv (.t 4)) 50 true,
 og 16 52 (.mv (.t 51)) 50 true,
 og 17 53 (.fieldA 2 (.t 1)) 52 false,
 og 18 54 (.loadB 0 none (.t 53)) 52 false,
 og 19 55 (.bin .eql (.t 54) (.c (.int .i64 0))) 52 false,
 og 20 56 (.pick (.t 52) (.c (.bool true)) (.t 55)) 50 true,
 oa 21 57 (.pick (.t 50) (.t 56) (.c (.bool false))),
 om 22 2 57])
  .ret) (.seq [58, 16, 5, 4, 3, 1] (.seq [58, 16, 5, 4, 3, 1] (.region [oa 0 59 (.bin .eql (.t 16) (.c (.int .i64 3))),
 om 1 58 59])
  (.cond (.t 58) .skip (.region [oa 0 60 (.bin .eql (.t 16) (.c (.int .i64 4))),
 om 1 58 60])))
  (.cond (.t 58) (.seq [2] (.region [om 0 61 5,
 om 1 62 61,
 og 2 63 (.fieldA 1 (.t 1)) 62 true,
 og 3 64 (.loadB 0 none (.t 63)) 62 true,
 og 4 65 (.bin .eql (.t 64) (.c (.int .i64 0))) 62 true,
 oa 5 66 (.pick (.t 62) (.t 65) (.c (.bool false))),
 om 6 67 66,
 og 7 68 (.fieldA 2 (.t 1)) 67 true,
 og 8 69 (.loadB 0 none (.t 68)) 67 true,
 og 9 70 (.bin .eql (.t 69) (.c (.int .i64 0))) 67 true,
 oa 10 71 (.pick (.t 67) (.t 70) (.c (.bool false))),
 om 11 2 71])
  .ret) (.seq [72, 16, 5, 4, 3, 1] (.seq [72, 16, 5, 4, 3, 1] (.region [oa 0 73 (.bin .eql (.t 16) (.c (.int .i64 5))),
 om 1 72 73])
  (.cond (.t 72) .skip (.region [oa 0 74 (.bin .eql (.t 16) (.c (.int .i64 9))),
 om 1 72 74])))
  (.cond (.t 72) (.seq [2] (.region [oa 0 75 (.fieldA 3 (.t 1)),
 oa 1 76 (.loadB 0 none (.t 75)),
 oc 2 77 s_spec_l1In p_spec_l1In D_spec_l1In [(.t 76), (.c (.int .i64 0)), (.c (.int .i64 3))],
 om 3 78 77,
 og 4 79 (.fieldA 1 (.t 1)) 78 true,
 og 5 80 (.loadB 0 none (.t 79)) 78 true,
 og 6 81 (.bin .eql (.t 80) (.c (.int .i64 0))) 78 true,
 oa 7 82 (.pick (.t 78) (.t 81) (.c (.bool false))),
 om 8 83 82,
 og 9 84 (.fieldA 2 (.t 1)) 83 true,
 og 10 85 (.loadB 0 none (.t 84)) 83 true,
 og 11 86 (.bin .eql (.t 85) (.c (.int .i64 0))) 83 true,
 oa 12 87 (.pick (.t 83) (.t 86) (.c (.bool false))),
 om 13 2 87])
  .ret) (.seq [88, 16, 5, 4, 3, 1] (.region [oa 0 89 (.bin .eql (.t 16) (.c (.int .i64 6))),
 om 1 88 89])
  (.cond (.t 88) (.seq [2] (.region [om 0 90 3,
 om 1 91 90,
 og 2 92 (.mv (.t 4)) 91 true,
 oa 3 93 (.pick (.t 91) (.t 92) (.c (.bool false))),
 om 4 94 93,
 og 5 95 (.fieldA 3 (.t 1)) 94 true,
 og 6 96 (.loadB 0 none (.t 95)) 94 true,
 og 7 97 (.bin .eql (.t 96) (.c (.int .i64 0))) 94 true,
 oa 8 98 (.pick (.t 94) (.t 97) (.c (.bool false))),
 om 9 2 98])
  .ret) (.seq [99, 16, 5, 4, 3, 1] (.region [oa 0 100 (.bin .eql (.t 16) (.c (.int .i64 7))),
 om 1 99 100])
  (.cond (.t 99) (.seq [2] (.region [om 0 101 3,
 om 1 102 101,
 og 2 103 (.mv (.t 5)) 102 true,
 oa 3 104 (.pick (.t 102) (.t 103) (.c (.bool false))),
 om 4 105 104,
 og 5 106 (.fieldA 2 (.t 1)) 105 true,
 og 6 107 (.loadB 0 none (.t 106)) 105 true,
 og 7 108 (.bin .eql (.t 107) (.c (.int .i64 0))) 105 true,
 oa 8 109 (.pick (.t 105) (.t 108) (.c (.bool false))),
 om 9 2 109])
  .ret) (.seq [110, 4, 1] (.region [oa 0 111 (.bin .eql (.t 16) (.c (.int .i64 8))),
 om 1 110 111])
  (.cond (.t 110) (.seq [2] (.region [om 0 112 4,
 om 1 113 112,
 og 2 114 (.fieldA 1 (.t 1)) 113 true,
 og 3 115 (.loadB 0 none (.t 114)) 113 true,
 og 4 116 (.bin .eql (.t 115) (.c (.int .i64 0))) 113 true,
 oa 5 117 (.pick (.t 113) (.t 116) (.c (.bool false))),
 om 6 118 117,
 og 7 119 (.fieldA 3 (.t 1)) 118 true,
 og 8 120 (.loadB 0 none (.t 119)) 118 true,
 og 9 121 (.bin .eql (.t 120) (.c (.int .i64 0))) 118 true,
 oa 10 122 (.pick (.t 118) (.t 121) (.c (.bool false))),
 om 11 2 122])
  .ret) .skip))))))))))))))))
  (.seq [2] (.region [oa 0 2 (.mv (.c (.bool false)))])
  .ret))))))
noncomputable def df_spec_IsAction : DFun := ⟨1, 123, 1, true, [.tmp 2], dc_spec_IsAction⟩
noncomputable def pf_spec_IsAction : PFun := df_spec_IsAction.er
noncomputable def f_spec_IsAction : AFun := pf_spec_IsAction.er
@[irreducible] noncomputable def s_spec_IsAction : CallSem := funSem f_spec_IsAction
@[irreducible] noncomputable def p_spec_IsAction : PSem := pfunSem pf_spec_IsAction
theorem sp_spec_IsAction : SoundP s_spec_IsAction p_spec_IsAction := by unfold s_spec_IsAction p_spec_IsAction; exact pfun_sound (f := pf_spec_IsAction) ⟨sp_spec_l1In, sp_spec_l1In, sp_spec_l1In, sp_spec_l1In, trivial⟩
def h_spec_IsAction : List HT := [.agg [(.frz, .int .i64), (.frz, .int .i64), (.frz, .int .i64), (.frz, .int .i64)]]
def q_spec_IsAction : QT := .one (.one .own (.bool))
@[irreducible] noncomputable def v_spec_IsAction (x : Int × Int × Int × Int) : Bool := (shut fun x => fnV df_spec_IsAction h_spec_IsAction q_spec_IsAction x).1 x
@[irreducible] noncomputable def ok_spec_IsAction (x : Int × Int × Int × Int) : Prop := (shut fun x => fnOk df_spec_IsAction h_spec_IsAction q_spec_IsAction x).1 x
theorem vu_spec_IsAction (x : Int × Int × Int × Int) : v_spec_IsAction x = fnV df_spec_IsAction h_spec_IsAction q_spec_IsAction x := by unfold v_spec_IsAction; exact congrFun (shut _).2 x
theorem ou_spec_IsAction (x : Int × Int × Int × Int) : ok_spec_IsAction x = fnOk df_spec_IsAction h_spec_IsAction q_spec_IsAction x := by unfold ok_spec_IsAction; exact congrFun (shut _).2 x
noncomputable def D_spec_IsAction : DSem := DSemOf h_spec_IsAction q_spec_IsAction ok_spec_IsAction v_spec_IsAction
theorem ck_spec_IsAction (x : Int × Int × Int × Int) : fnChk df_spec_IsAction h_spec_IsAction q_spec_IsAction x = true := by kernel_rfl
theorem ob_spec_IsAction : AllD df_spec_IsAction.body.obs := ⟨sd_spec_l1In, sd_spec_l1In, sd_spec_l1In, sd_spec_l1In, trivial⟩
theorem st_spec_IsAction : fnSt df_spec_IsAction h_spec_IsAction q_spec_IsAction = true := by kernel_rfl
theorem sd_spec_IsAction : SoundD p_spec_IsAction D_spec_IsAction := by unfold p_spec_IsAction; exact soundD_of (f := df_spec_IsAction) (hs := h_spec_IsAction) (q := q_spec_IsAction) ob_spec_IsAction st_spec_IsAction ck_spec_IsAction (fun x h => Eq.mp (ou_spec_IsAction x) h) (fun x => (vu_spec_IsAction x).symm)
noncomputable def dc_impl_isCode : DCode :=
  (.seq [0] (.region [oa 0 2 (.mv (.c (.bool false)))])
  (.seq [2] (.region [om 0 3 0,
 oa 1 4 (.bin .geq (.t 3) (.c (.int .i64 1))),
 om 2 5 4,
 og 3 6 (.mv (.t 0)) 5 true,
 og 4 7 (.bin .leq (.t 6) (.c (.int .i64 56))) 5 true,
 oa 5 8 (.pick (.t 5) (.t 7) (.c (.bool false))),
 om 6 2 8])
  .ret))
noncomputable def df_impl_isCode : DFun := ⟨1, 9, 0, true, [.tmp 2], dc_impl_isCode⟩
noncomputable def pf_impl_isCode : PFun := df_impl_isCode.er
noncomputable def f_impl_isCode : AFun := pf_impl_isCode.er
@[irreducible] noncomputable def s_impl_isCode : CallSem := funSem f_impl_isCode
@[irreducible] noncomputable def p_impl_isCode : PSem := pfunSem pf_impl_isCode
theorem sp_impl_isCode : SoundP s_impl_isCode p_impl_isCode := by unfold s_impl_isCode p_impl_isCode; exact pfun_sound (f := pf_impl_isCode) trivial
def h_impl_isCode : List HT := [.one .frz (.int .i64)]
def q_impl_isCode : QT := .one (.one .own (.bool))
@[irreducible] noncomputable def v_impl_isCode (x : Int) : Bool := (shut fun x => fnV df_impl_isCode h_impl_isCode q_impl_isCode x).1 x
@[irreducible] noncomputable def ok_impl_isCode (x : Int) : Prop := (shut fun x => fnOk df_impl_isCode h_impl_isCode q_impl_isCode x).1 x
theorem vu_impl_isCode (x : Int) : v_impl_isCode x = fnV df_impl_isCode h_impl_isCode q_impl_isCode x := by unfold v_impl_isCode; exact congrFun (shut _).2 x
theorem ou_impl_isCode (x : Int) : ok_impl_isCode x = fnOk df_impl_isCode h_impl_isCode q_impl_isCode x := by unfold ok_impl_isCode; exact congrFun (shut _).2 x
noncomputable def D_impl_isCode : DSem := DSemOf h_impl_isCode q_impl_isCode ok_impl_isCode v_impl_isCode
theorem ck_impl_isCode (x : Int) : fnChk df_impl_isCode h_impl_isCode q_impl_isCode x = true := by kernel_rfl
theorem ob_impl_isCode : AllD df_impl_isCode.body.obs := trivial
theorem st_impl_isCode : fnSt df_impl_isCode h_impl_isCode q_impl_isCode = true := by kernel_rfl
theorem sd_impl_isCode : SoundD p_impl_isCode D_impl_isCode := by unfold p_impl_isCode; exact soundD_of (f := df_impl_isCode) (hs := h_impl_isCode) (q := q_impl_isCode) ob_impl_isCode st_impl_isCode ck_impl_isCode (fun x h => Eq.mp (ou_impl_isCode x) h) (fun x => (vu_impl_isCode x).symm)
noncomputable def dc_impl_isMods : DCode :=
  (.seq [0] (.region [oa 0 2 (.mv (.c (.bool false)))])
  (.seq [2] (.region [om 0 3 0,
 oa 1 4 (.bin .geq (.t 3) (.c (.int .i64 1))),
 om 2 5 4,
 og 3 6 (.mv (.t 0)) 5 true,
 og 4 7 (.bin .leq (.t 6) (.c (.int .i64 15))) 5 true,
 oa 5 8 (.pick (.t 5) (.t 7) (.c (.bool false))),
 om 6 2 8])
  .ret))
noncomputable def df_impl_isMods : DFun := ⟨1, 9, 0, true, [.tmp 2], dc_impl_isMods⟩
noncomputable def pf_impl_isMods : PFun := df_impl_isMods.er
noncomputable def f_impl_isMods : AFun := pf_impl_isMods.er
@[irreducible] noncomputable def s_impl_isMods : CallSem := funSem f_impl_isMods
@[irreducible] noncomputable def p_impl_isMods : PSem := pfunSem pf_impl_isMods
theorem sp_impl_isMods : SoundP s_impl_isMods p_impl_isMods := by unfold s_impl_isMods p_impl_isMods; exact pfun_sound (f := pf_impl_isMods) trivial
def h_impl_isMods : List HT := [.one .frz (.int .i64)]
def q_impl_isMods : QT := .one (.one .own (.bool))
@[irreducible] noncomputable def v_impl_isMods (x : Int) : Bool := (shut fun x => fnV df_impl_isMods h_impl_isMods q_impl_isMods x).1 x
@[irreducible] noncomputable def ok_impl_isMods (x : Int) : Prop := (shut fun x => fnOk df_impl_isMods h_impl_isMods q_impl_isMods x).1 x
theorem vu_impl_isMods (x : Int) : v_impl_isMods x = fnV df_impl_isMods h_impl_isMods q_impl_isMods x := by unfold v_impl_isMods; exact congrFun (shut _).2 x
theorem ou_impl_isMods (x : Int) : ok_impl_isMods x = fnOk df_impl_isMods h_impl_isMods q_impl_isMods x := by unfold ok_impl_isMods; exact congrFun (shut _).2 x
noncomputable def D_impl_isMods : DSem := DSemOf h_impl_isMods q_impl_isMods ok_impl_isMods v_impl_isMods
theorem ck_impl_isMods (x : Int) : fnChk df_impl_isMods h_impl_isMods q_impl_isMods x = true := by kernel_rfl
theorem ob_impl_isMods : AllD df_impl_isMods.body.obs := trivial
theorem st_impl_isMods : fnSt df_impl_isMods h_impl_isMods q_impl_isMods = true := by kernel_rfl
theorem sd_impl_isMods : SoundD p_impl_isMods D_impl_isMods := by unfold p_impl_isMods; exact soundD_of (f := df_impl_isMods) (hs := h_impl_isMods) (q := q_impl_isMods) ob_impl_isMods st_impl_isMods ck_impl_isMods (fun x h => Eq.mp (ou_impl_isMods x) h) (fun x => (vu_impl_isMods x).symm)
noncomputable def dc_impl_isUpper : DCode :=
  (.seq [0] (.region [oa 0 2 (.mv (.c (.bool false)))])
  (.seq [2] (.region [om 0 3 0,
 oa 1 4 (.bin .geq (.t 3) (.c (.int .i64 1))),
 om 2 5 4,
 og 3 6 (.mv (.t 0)) 5 true,
 og 4 7 (.bin .leq (.t 6) (.c (.int .i64 3))) 5 true,
 oa 5 8 (.pick (.t 5) (.t 7) (.c (.bool false))),
 om 6 2 8])
  .ret))
noncomputable def df_impl_isUpper : DFun := ⟨1, 9, 0, true, [.tmp 2], dc_impl_isUpper⟩
noncomputable def pf_impl_isUpper : PFun := df_impl_isUpper.er
noncomputable def f_impl_isUpper : AFun := pf_impl_isUpper.er
@[irreducible] noncomputable def s_impl_isUpper : CallSem := funSem f_impl_isUpper
@[irreducible] noncomputable def p_impl_isUpper : PSem := pfunSem pf_impl_isUpper
theorem sp_impl_isUpper : SoundP s_impl_isUpper p_impl_isUpper := by unfold s_impl_isUpper p_impl_isUpper; exact pfun_sound (f := pf_impl_isUpper) trivial
def h_impl_isUpper : List HT := [.one .frz (.int .i64)]
def q_impl_isUpper : QT := .one (.one .own (.bool))
@[irreducible] noncomputable def v_impl_isUpper (x : Int) : Bool := (shut fun x => fnV df_impl_isUpper h_impl_isUpper q_impl_isUpper x).1 x
@[irreducible] noncomputable def ok_impl_isUpper (x : Int) : Prop := (shut fun x => fnOk df_impl_isUpper h_impl_isUpper q_impl_isUpper x).1 x
theorem vu_impl_isUpper (x : Int) : v_impl_isUpper x = fnV df_impl_isUpper h_impl_isUpper q_impl_isUpper x := by unfold v_impl_isUpper; exact congrFun (shut _).2 x
theorem ou_impl_isUpper (x : Int) : ok_impl_isUpper x = fnOk df_impl_isUpper h_impl_isUpper q_impl_isUpper x := by unfold ok_impl_isUpper; exact congrFun (shut _).2 x
noncomputable def D_impl_isUpper : DSem := DSemOf h_impl_isUpper q_impl_isUpper ok_impl_isUpper v_impl_isUpper
theorem ck_impl_isUpper (x : Int) : fnChk df_impl_isUpper h_impl_isUpper q_impl_isUpper x = true := by kernel_rfl
theorem ob_impl_isUpper : AllD df_impl_isUpper.body.obs := trivial
theorem st_impl_isUpper : fnSt df_impl_isUpper h_impl_isUpper q_impl_isUpper = true := by kernel_rfl
theorem sd_impl_isUpper : SoundD p_impl_isUpper D_impl_isUpper := by unfold p_impl_isUpper; exact soundD_of (f := df_impl_isUpper) (hs := h_impl_isUpper) (q := q_impl_isUpper) ob_impl_isUpper st_impl_isUpper ck_impl_isUpper (fun x h => Eq.mp (ou_impl_isUpper x) h) (fun x => (vu_impl_isUpper x).symm)
noncomputable def dc_impl_IsAction : DCode :=
  (.seq [1] (.region [oa 0 1 (.boxB 0 4 (.t 0)),
 oa 1 2 (.mv (.c (.bool false)))])
  (.seq [] (.seq [4, 1] (.region [oa 0 3 (.fieldA 0 (.t 1)),
 oa 1 4 (.loadB 0 none (.t 3))])
  (.block 0 (.seq [5, 4, 1] (.seq [5, 4, 1] (.region [oa 0 6 (.bin .eql (.t 4) (.c (.int .i64 0))),
 om 1 5 6])
  (.cond (.t 5) .skip (.seq [5, 4, 1] (.region [oa 0 7 (.bin .eql (.t 4) (.c (.int .i64 1))),
 om 1 5 7])
  (.cond (.t 5) .skip (.region [oa 0 8 (.bin .eql (.t 4) (.c (.int .i64 10))),
 om 1 5 8])))))
  (.cond (.t 5) (.seq [2] (.region [oa 0 9 (.fieldA 1 (.t 1)),
 oa 1 10 (.loadB 0 none (.t 9)),
 oa 2 11 (.bin .eql (.t 10) (.c (.int .i64 0))),
 om 3 12 11,
 og 4 13 (.fieldA 2 (.t 1)) 12 true,
 og 5 14 (.loadB 0 none (.t 13)) 12 true,
 og 6 15 (.bin .eql (.t 14) (.c (.int .i64 0))) 12 true,
 oa 7 16 (.pick (.t 12) (.t 15) (.c (.bool false))),
 om 8 17 16,
 og 9 18 (.fieldA 3 (.t 1)) 17 true,
 og 10 19 (.loadB 0 none (.t 18)) 17 true,
 og 11 20 (.bin .eql (.t 19) (.c (.int .i64 0))) 17 true,
 oa 12 21 (.pick (.t 17) (.t 20) (.c (.bool false))),
 om 13 2 21])
  .ret) (.seq [22, 4, 1] (.region [oa 0 23 (.bin .eql (.t 4) (.c (.int .i64 2))),
 om 1 22 23])
  (.cond (.t 22) (.seq [2] (.region [oa 0 24 (.fieldA 3 (.t 1)),
 oa 1 25 (.loadB 0 none (.t 24)),
 oa 2 26 (.bin .eql (.t 25) (.c (.int .i64 0))),
 om 3 27 26,
 og 4 28 (.fieldA 1 (.t 1)) 27 true,
 og 5 29 (.loadB 0 none (.t 28)) 27 true,
 og 6 30 (.bin .eql (.t 29) (.c (.int .i64 0))) 27 true,
 og 7 31 (.mv (.t 30)) 27 true,
 og 8 32 (.fieldA 1 (.t 1)) 31 false,
 og 9 33 (.loadB 0 none (.t 32)) 31 false,
 ⟨10, some 34, .call false s_impl_isCode p_impl_isCode D_impl_isCode [(.t 33)], (some (31, false)), []⟩,
 og 11 35 (.pick (.t 31) (.c (.bool true)) (.t 34)) 27 true,
 oa 12 36 (.pick (.t 27) (.t 35) (.c (.bool false))),
 om 13 37 36,
 og 14 38 (.fieldA 2 (.t 1)) 37 true,
 og 15 39 (.loadB 0 none (.t 38)) 37 true,
 og 16 40 (.bin .eql (.t 39) (.c (.int .i64 0))) 37 true,
 og 17 41 (.mv (.t 40)) 37 true,
 og 18 42 (.fieldA 2 (.t 1)) 41 false,
 og 19 43 (.loadB 0 none (.t 42)) 41 false,
 ⟨20, some 44, .call false s_impl_isMods p_impl_isMods D_impl_isMods [(.t 43)], (some (41, false)), []⟩,
 og 21 45 (.pick (.t 41) (.c (.bool true)) (.t 44)) 37 true,
 oa 22 46 (.pick (.t 37) (.t 45) (.c (.bool false))),
 om 23 47 46,
 og 24 48 (.fieldA 1 (.t 1)) 47 true,
 og 25 49 (.loadB 0 none (.t 48)) 47 true,
 og 26 50 (.bin .neq (.t 49) (.c (.int .i64 0))) 47 true,
 og 27 51 (.mv (.t 50)) 47 true,
 og 28 52 (.fieldA 2 (.t 1)) 51 false,
 og 29 53 (.loadB 0 none (.t 52)) 51 false,
 og 30 54 (.bin .neq (.t 53) (.c (.int .i64 0))) 51 false,
 og 31 55 (.pick (.t 51) (.c (.bool true)) (.t 54)) 47 true,
 oa 32 56 (.pick (.t 47) (.t 55) (.c (.bool false))),
 om 33 2 56])
  .ret) (.seq [57, 4, 1] (.seq [57, 4, 1] (.region [oa 0 58 (.bin .eql (.t 4) (.c (.int .i64 3))),
 om 1 57 58])
  (.cond (.t 57) .skip (.region [oa 0 59 (.bin .eql (.t 4) (.c (.int .i64 4))),
 om 1 57 59])))
  (.cond (.t 57) (.seq [2] (.region [oa 0 60 (.fieldA 1 (.t 1)),
 oa 1 61 (.loadB 0 none (.t 60)),
 oa 2 62 (.bin .eql (.t 61) (.c (.int .i64 0))),
 om 3 63 62,
 og 4 64 (.fieldA 2 (.t 1)) 63 true,
 og 5 65 (.loadB 0 none (.t 64)) 63 true,
 og 6 66 (.bin .eql (.t 65) (.c (.int .i64 0))) 63 true,
 oa 7 67 (.pick (.t 63) (.t 66) (.c (.bool false))),
 om 8 68 67,
 og 9 69 (.fieldA 3 (.t 1)) 68 true,
 og 10 70 (.loadB 0 none (.t 69)) 68 true,
 ⟨11, some 71, .call false s_impl_isUpper p_impl_isUpper D_impl_isUpper [(.t 70)], (some (68, true)), []⟩,
 oa 12 72 (.pick (.t 68) (.t 71) (.c (.bool false))),
 om 13 2 72])
  .ret) (.seq [73, 4, 1] (.region [oa 0 74 (.bin .eql (.t 4) (.c (.int .i64 5))),
 om 1 73 74])
  (.cond (.t 73) (.seq [2] (.region [oa 0 75 (.fieldA 1 (.t 1)),
 oa 1 76 (.loadB 0 none (.t 75)),
 oa 2 77 (.bin .eql (.t 76) (.c (.int .i64 0))),
 om 3 78 77,
 og 4 79 (.fieldA 2 (.t 1)) 78 true,
 og 5 80 (.loadB 0 none (.t 79)) 78 true,
 og 6 81 (.bin .eql (.t 80) (.c (.int .i64 0))) 78 true,
 oa 7 82 (.pick (.t 78) (.t 81) (.c (.bool false))),
 om 8 83 82,
 og 9 84 (.fieldA 3 (.t 1)) 83 true,
 og 10 85 (.loadB 0 none (.t 84)) 83 true,
 og 11 86 (.bin .geq (.t 85) (.c (.int .i64 0))) 83 true,
 oa 12 87 (.pick (.t 83) (.t 86) (.c (.bool false))),
 om 13 88 87,
 og 14 89 (.fieldA 3 (.t 1)) 88 true,
 og 15 90 (.loadB 0 none (.t 89)) 88 true,
 og 16 91 (.bin .leq (.t 90) (.c (.int .i64 3))) 88 true,
 oa 17 92 (.pick (.t 88) (.t 91) (.c (.bool false))),
 om 18 2 92])
  .ret) (.seq [93, 4, 1] (.region [oa 0 94 (.bin .eql (.t 4) (.c (.int .i64 9))),
 om 1 93 94])
  (.cond (.t 93) (.seq [2] (.region [oa 0 95 (.fieldA 1 (.t 1)),
 oa 1 96 (.loadB 0 none (.t 95)),
 oa 2 97 (.bin .eql (.t 96) (.c (.int .i64 0))),
 om 3 98 97,
 og 4 99 (.fieldA 2 (.t 1)) 98 true,
 og 5 100 (.loadB 0 none (.t 99)) 98 true,
 og 6 101 (.bin .eql (.t 100) (.c (.int .i64 0))) 98 true,
 oa 7 102 (.pick (.t 98) (.t 101) (.c (.bool false))),
 om 8 103 102,
 og 9 104 (.fieldA 3 (.t 1)) 103 true,
 og 10 105 (.loadB 0 none (.t 104)) 103 true,
 og 11 106 (.bin .geq (.t 105) (.c (.int .i64 0))) 103 true,
 oa 12 107 (.pick (.t 103) (.t 106) (.c (.bool false))),
 om 13 108 107,
 og 14 109 (.fieldA 3 (.t 1)) 108 true,
 og 15 110 (.loadB 0 none (.t 109)) 108 true,
 og 16 111 (.bin .leq (.t 110) (.c (.int .i64 3))) 108 true,
 oa 17 112 (.pick (.t 108) (.t 111) (.c (.bool false))),
 om 18 2 112])
  .ret) (.seq [113, 4, 1] (.region [oa 0 114 (.bin .eql (.t 4) (.c (.int .i64 6))),
 om 1 113 114])
  (.cond (.t 113) (.seq [2] (.region [oa 0 115 (.fieldA 1 (.t 1)),
 oa 1 116 (.loadB 0 none (.t 115)),
 oc 2 117 s_impl_isCode p_impl_isCode D_impl_isCode [(.t 116)],
 om 3 118 117,
 og 4 119 (.fieldA 2 (.t 1)) 118 true,
 og 5 120 (.loadB 0 none (.t 119)) 118 true,
 ⟨6, some 121, .call false s_impl_isMods p_impl_isMods D_impl_isMods [(.t 120)], (some (118, true)), []⟩,
 oa 7 122 (.pick (.t 118) (.t 121) (.c (.bool false))),
 om 8 123 122,
 og 9 124 (.fieldA 3 (.t 1)) 123 true,
 og 10 125 (.loadB 0 none (.t 124)) 123 true,
 og 11 126 (.bin .eql (.t 125) (.c (.int .i64 0))) 123 true,
 oa 12 127 (.pick (.t 123) (.t 126) (.c (.bool false))),
 om 13 2 127])
  .ret) (.seq [128, 4, 1] (.region [oa 0 129 (.bin .eql (.t 4) (.c (.int .i64 7))),
 om 1 128 129])
  (.cond (.t 128) (.seq [2] (.region [oa 0 130 (.fieldA 1 (.t 1)),
 oa 1 131 (.loadB 0 none (.t 130)),
 oc 2 132 s_impl_isCode p_impl_isCode D_impl_isCode [(.t 131)],
 om 3 133 132,
 og 4 134 (.fieldA 2 (.t 1)) 133 true,
 og 5 135 (.loadB 0 none (.t 134)) 133 true,
 og 6 136 (.bin .eql (.t 135) (.c (.int .i64 0))) 133 true,
 oa 7 137 (.pick (.t 133) (.t 136) (.c (.bool false))),
 om 8 138 137,
 og 9 139 (.fieldA 3 (.t 1)) 138 true,
 og 10 140 (.loadB 0 none (.t 139)) 138 true,
 ⟨11, some 141, .call false s_impl_isUpper p_impl_isUpper D_impl_isUpper [(.t 140)], (some (138, true)), []⟩,
 oa 12 142 (.pick (.t 138) (.t 141) (.c (.bool false))),
 om 13 2 142])
  .ret) (.seq [143, 1] (.region [oa 0 144 (.bin .eql (.t 4) (.c (.int .i64 8))),
 om 1 143 144])
  (.cond (.t 143) (.seq [2] (.region [oa 0 145 (.fieldA 1 (.t 1)),
 oa 1 146 (.loadB 0 none (.t 145)),
 oa 2 147 (.bin .eql (.t 146) (.c (.int .i64 0))),
 om 3 148 147,
 og 4 149 (.fieldA 2 (.t 1)) 148 true,
 og 5 150 (.loadB 0 none (.t 149)) 148 true,
 ⟨6, some 151, .call false s_impl_isMods p_impl_isMods D_impl_isMods [(.t 150)], (some (148, true)), []⟩,
 oa 7 152 (.pick (.t 148) (.t 151) (.c (.bool false))),
 om 8 153 152,
 og 9 154 (.fieldA 3 (.t 1)) 153 true,
 og 10 155 (.loadB 0 none (.t 154)) 153 true,
 og 11 156 (.bin .eql (.t 155) (.c (.int .i64 0))) 153 true,
 oa 12 157 (.pick (.t 153) (.t 156) (.c (.bool false))),
 om 13 2 157])
  .ret) .skip))))))))))))))))))
  (.seq [2] (.region [oa 0 2 (.mv (.c (.bool false)))])
  .ret)))
noncomputable def df_impl_IsAction : DFun := ⟨1, 158, 1, true, [.tmp 2], dc_impl_IsAction⟩
noncomputable def pf_impl_IsAction : PFun := df_impl_IsAction.er
noncomputable def f_impl_IsAction : AFun := pf_impl_IsAction.er
@[irreducible] noncomputable def s_impl_IsAction : CallSem := funSem f_impl_IsAction
@[irreducible] noncomputable def p_impl_IsAction : PSem := pfunSem pf_impl_IsAction
theorem sp_impl_IsAction : SoundP s_impl_IsAction p_impl_IsAction := by unfold s_impl_IsAction p_impl_IsAction; exact pfun_sound (f := pf_impl_IsAction) ⟨sp_impl_isCode, sp_impl_isMods, sp_impl_isUpper, sp_impl_isCode, sp_impl_isMods, sp_impl_isCode, sp_impl_isUpper, sp_impl_isMods, trivial⟩
def h_impl_IsAction : List HT := [.agg [(.frz, .int .i64), (.frz, .int .i64), (.frz, .int .i64), (.frz, .int .i64)]]
def q_impl_IsAction : QT := .one (.one .own (.bool))
@[irreducible] noncomputable def v_impl_IsAction (x : Int × Int × Int × Int) : Bool := (shut fun x => fnV df_impl_IsAction h_impl_IsAction q_impl_IsAction x).1 x
@[irreducible] noncomputable def ok_impl_IsAction (x : Int × Int × Int × Int) : Prop := (shut fun x => fnOk df_impl_IsAction h_impl_IsAction q_impl_IsAction x).1 x
theorem vu_impl_IsAction (x : Int × Int × Int × Int) : v_impl_IsAction x = fnV df_impl_IsAction h_impl_IsAction q_impl_IsAction x := by unfold v_impl_IsAction; exact congrFun (shut _).2 x
theorem ou_impl_IsAction (x : Int × Int × Int × Int) : ok_impl_IsAction x = fnOk df_impl_IsAction h_impl_IsAction q_impl_IsAction x := by unfold ok_impl_IsAction; exact congrFun (shut _).2 x
noncomputable def D_impl_IsAction : DSem := DSemOf h_impl_IsAction q_impl_IsAction ok_impl_IsAction v_impl_IsAction
theorem ck_impl_IsAction (x : Int × Int × Int × Int) : fnChk df_impl_IsAction h_impl_IsAction q_impl_IsAction x = true := by kernel_rfl
theorem ob_impl_IsAction : AllD df_impl_IsAction.body.obs := ⟨sd_impl_isCode, sd_impl_isMods, sd_impl_isUpper, sd_impl_isCode, sd_impl_isMods, sd_impl_isCode, sd_impl_isUpper, sd_impl_isMods, trivial⟩
theorem st_impl_IsAction : fnSt df_impl_IsAction h_impl_IsAction q_impl_IsAction = true := by kernel_rfl
theorem sd_impl_IsAction : SoundD p_impl_IsAction D_impl_IsAction := by unfold p_impl_IsAction; exact soundD_of (f := df_impl_IsAction) (hs := h_impl_IsAction) (q := q_impl_IsAction) ob_impl_IsAction st_impl_IsAction ck_impl_IsAction (fun x h => Eq.mp (ou_impl_IsAction x) h) (fun x => (vu_impl_IsAction x).symm)
noncomputable def dc_laws_eqAction : DCode :=
  (.seq [3, 2] (.region [oa 0 2 (.boxB 0 4 (.t 0)),
 oa 1 3 (.boxB 1 4 (.t 1)),
 oa 2 4 (.mv (.c (.bool false)))])
  (.seq [3, 2] (.seq [9, 3, 2] (.region [oa 0 5 (.fieldA 0 (.t 2)),
 oa 1 6 (.loadB 0 none (.t 5)),
 oa 2 7 (.fieldA 0 (.t 3)),
 oa 3 8 (.loadB 1 none (.t 7)),
 oa 4 9 (.bin .neq (.t 6) (.t 8))])
  (.cond (.t 9) (.seq [4] (.region [oa 0 4 (.mv (.c (.bool false)))])
  .ret) .skip))
  (.seq [3, 2] (.seq [14, 3, 2] (.region [oa 0 10 (.fieldA 1 (.t 2)),
 oa 1 11 (.loadB 0 none (.t 10)),
 oa 2 12 (.fieldA 1 (.t 3)),
 oa 3 13 (.loadB 1 none (.t 12)),
 oa 4 14 (.bin .neq (.t 11) (.t 13))])
  (.cond (.t 14) (.seq [4] (.region [oa 0 4 (.mv (.c (.bool false)))])
  .ret) .skip))
  (.seq [3, 2] (.seq [19, 3, 2] (.region [oa 0 15 (.fieldA 2 (.t 2)),
 oa 1 16 (.loadB 0 none (.t 15)),
 oa 2 17 (.fieldA 2 (.t 3)),
 oa 3 18 (.loadB 1 none (.t 17)),
 oa 4 19 (.bin .neq (.t 16) (.t 18))])
  (.cond (.t 19) (.seq [4] (.region [oa 0 4 (.mv (.c (.bool false)))])
  .ret) .skip))
  (.seq [] (.seq [24] (.region [oa 0 20 (.fieldA 3 (.t 2)),
 oa 1 21 (.loadB 0 none (.t 20)),
 oa 2 22 (.fieldA 3 (.t 3)),
 oa 3 23 (.loadB 1 none (.t 22)),
 oa 4 24 (.bin .neq (.t 21) (.t 23))])
  (.cond (.t 24) (.seq [4] (.region [oa 0 4 (.mv (.c (.bool false)))])
  .ret) .skip))
  (.seq [4] (.region [oa 0 4 (.mv (.c (.bool true)))])
  .ret))))))
noncomputable def df_laws_eqAction : DFun := ⟨2, 25, 2, true, [.tmp 4], dc_laws_eqAction⟩
noncomputable def pf_laws_eqAction : PFun := df_laws_eqAction.er
noncomputable def f_laws_eqAction : AFun := pf_laws_eqAction.er
@[irreducible] noncomputable def s_laws_eqAction : CallSem := funSem f_laws_eqAction
@[irreducible] noncomputable def p_laws_eqAction : PSem := pfunSem pf_laws_eqAction
theorem sp_laws_eqAction : SoundP s_laws_eqAction p_laws_eqAction := by unfold s_laws_eqAction p_laws_eqAction; exact pfun_sound (f := pf_laws_eqAction) trivial
def h_laws_eqAction : List HT := [.agg [(.frz, .int .i64), (.frz, .int .i64), (.frz, .int .i64), (.frz, .int .i64)], .agg [(.frz, .int .i64), (.frz, .int .i64), (.frz, .int .i64), (.frz, .int .i64)]]
def q_laws_eqAction : QT := .one (.one .own (.bool))
@[irreducible] noncomputable def v_laws_eqAction (x : (Int × Int × Int × Int) × (Int × Int × Int × Int)) : Bool := (shut fun x => fnV df_laws_eqAction h_laws_eqAction q_laws_eqAction x).1 x
@[irreducible] noncomputable def ok_laws_eqAction (x : (Int × Int × Int × Int) × (Int × Int × Int × Int)) : Prop := (shut fun x => fnOk df_laws_eqAction h_laws_eqAction q_laws_eqAction x).1 x
theorem vu_laws_eqAction (x : (Int × Int × Int × Int) × (Int × Int × Int × Int)) : v_laws_eqAction x = fnV df_laws_eqAction h_laws_eqAction q_laws_eqAction x := by unfold v_laws_eqAction; exact congrFun (shut _).2 x
theorem ou_laws_eqAction (x : (Int × Int × Int × Int) × (Int × Int × Int × Int)) : ok_laws_eqAction x = fnOk df_laws_eqAction h_laws_eqAction q_laws_eqAction x := by unfold ok_laws_eqAction; exact congrFun (shut _).2 x
noncomputable def D_laws_eqAction : DSem := DSemOf h_laws_eqAction q_laws_eqAction ok_laws_eqAction v_laws_eqAction
theorem ck_laws_eqAction (x : (Int × Int × Int × Int) × (Int × Int × Int × Int)) : fnChk df_laws_eqAction h_laws_eqAction q_laws_eqAction x = true := by kernel_rfl
theorem ob_laws_eqAction : AllD df_laws_eqAction.body.obs := trivial
theorem st_laws_eqAction : fnSt df_laws_eqAction h_laws_eqAction q_laws_eqAction = true := by kernel_rfl
theorem sd_laws_eqAction : SoundD p_laws_eqAction D_laws_eqAction := by unfold p_laws_eqAction; exact soundD_of (f := df_laws_eqAction) (hs := h_laws_eqAction) (q := q_laws_eqAction) ob_laws_eqAction st_laws_eqAction ck_laws_eqAction (fun x h => Eq.mp (ou_laws_eqAction x) h) (fun x => (vu_laws_eqAction x).symm)
end
section
set_option maxRecDepth 100000
theorem ve_spec_l1In (x : Int × Int × Int) : v_spec_l1In x = (bAnd (iGe x.1 x.2.1) (iLe x.1 x.2.2)) := (vu_spec_l1In x).trans (by kernel_rfl)
theorem oe_spec_l1In (x : Int × Int × Int) : ok_spec_l1In x = True := (ou_spec_l1In x).trans (by kernel_rfl)
theorem ve_spec_IsAction (x : Int × Int × Int × Int) : v_spec_IsAction x = (bSel (bOr (iEq x.1 0) (bOr (iEq x.1 1) (iEq x.1 10))) (bAnd (iEq x.2.1 0) (bAnd (iEq x.2.2.1 0) (iEq x.2.2.2 0))) (bSel (iEq x.1 2) (bAnd (iEq x.2.2.2 0) (bSel (v_spec_l1In (x.2.1, 1, 56)) (bOr (v_spec_l1In (x.2.2.1, 1, 15)) (iEq x.2.2.1 0)) (bAnd (iEq x.2.1 0) (bAnd (v_spec_l1In (x.2.2.1, 1, 15)) (bOr (v_spec_l1In (x.2.2.1, 1, 15)) (iEq x.2.2.1 0)))))) (bSel (bOr (iEq x.1 3) (iEq x.1 4)) (bAnd (v_spec_l1In (x.2.2.2, 1, 3)) (bAnd (iEq x.2.1 0) (iEq x.2.2.1 0))) (bSel (bOr (iEq x.1 5) (iEq x.1 9)) (bAnd (v_spec_l1In (x.2.2.2, 0, 3)) (bAnd (iEq x.2.1 0) (iEq x.2.2.1 0))) (bSel (iEq x.1 6) (bAnd (v_spec_l1In (x.2.1, 1, 56)) (bAnd (v_spec_l1In (x.2.2.1, 1, 15)) (iEq x.2.2.2 0))) (bSel (iEq x.1 7) (bAnd (v_spec_l1In (x.2.1, 1, 56)) (bAnd (v_spec_l1In (x.2.2.2, 1, 3)) (iEq x.2.2.1 0))) (bAnd (iEq x.1 8) (bAnd (v_spec_l1In (x.2.2.1, 1, 15)) (bAnd (iEq x.2.1 0) (iEq x.2.2.2 0)))))))))) := (vu_spec_IsAction x).trans (by kernel_rfl)
theorem oe_spec_IsAction (x : Int × Int × Int × Int) : ok_spec_IsAction x = ((ok_spec_l1In (x.2.1, 1, 56)) ∧ ((ok_spec_l1In (x.2.2.1, 1, 15)) ∧ ((ok_spec_l1In (x.2.2.2, 1, 3)) ∧ (((bOr (iEq x.1 0) (bOr (iEq x.1 1) (iEq x.1 10))) = true → True) ∧ ((bOr (iEq x.1 0) (bOr (iEq x.1 1) (iEq x.1 10))) = false → (((iEq x.1 2) = true → True) ∧ ((iEq x.1 2) = false → (((bOr (iEq x.1 3) (iEq x.1 4)) = true → True) ∧ ((bOr (iEq x.1 3) (iEq x.1 4)) = false → (((bOr (iEq x.1 5) (iEq x.1 9)) = true → (ok_spec_l1In (x.2.2.2, 0, 3))) ∧ ((bOr (iEq x.1 5) (iEq x.1 9)) = false → True))))))))))) := (ou_spec_IsAction x).trans (by kernel_rfl)
theorem ve_impl_isCode (x : Int) : v_impl_isCode x = (bAnd (iGe x 1) (iLe x 56)) := (vu_impl_isCode x).trans (by kernel_rfl)
theorem oe_impl_isCode (x : Int) : ok_impl_isCode x = True := (ou_impl_isCode x).trans (by kernel_rfl)
theorem ve_impl_isMods (x : Int) : v_impl_isMods x = (bAnd (iGe x 1) (iLe x 15)) := (vu_impl_isMods x).trans (by kernel_rfl)
theorem oe_impl_isMods (x : Int) : ok_impl_isMods x = True := (ou_impl_isMods x).trans (by kernel_rfl)
theorem ve_impl_isUpper (x : Int) : v_impl_isUpper x = (bAnd (iGe x 1) (iLe x 3)) := (vu_impl_isUpper x).trans (by kernel_rfl)
theorem oe_impl_isUpper (x : Int) : ok_impl_isUpper x = True := (ou_impl_isUpper x).trans (by kernel_rfl)
theorem ve_impl_IsAction (x : Int × Int × Int × Int) : v_impl_IsAction x = (bSel (bOr (iEq x.1 0) (bOr (iEq x.1 1) (iEq x.1 10))) (bAnd (iEq x.2.1 0) (bAnd (iEq x.2.2.1 0) (iEq x.2.2.2 0))) (bSel (iEq x.1 2) (bAnd (iEq x.2.2.2 0) (bSel (iEq x.2.1 0) (bSel (iEq x.2.2.1 0) (bOr (iNe x.2.1 0) (iNe x.2.2.1 0)) (bAnd (v_impl_isMods x.2.2.1) (bOr (iNe x.2.1 0) (iNe x.2.2.1 0)))) (bAnd (v_impl_isCode x.2.1) (bSel (iEq x.2.2.1 0) (bOr (iNe x.2.1 0) (iNe x.2.2.1 0)) (bAnd (v_impl_isMods x.2.2.1) (bOr (iNe x.2.1 0) (iNe x.2.2.1 0))))))) (bSel (bOr (iEq x.1 3) (iEq x.1 4)) (bAnd (iEq x.2.1 0) (bAnd (iEq x.2.2.1 0) (v_impl_isUpper x.2.2.2))) (bSel (iEq x.1 5) (bAnd (iEq x.2.1 0) (bAnd (iEq x.2.2.1 0) (bAnd (iGe x.2.2.2 0) (iLe x.2.2.2 3)))) (bSel (iEq x.1 9) (bAnd (iEq x.2.1 0) (bAnd (iEq x.2.2.1 0) (bAnd (iGe x.2.2.2 0) (iLe x.2.2.2 3)))) (bSel (iEq x.1 6) (bAnd (v_impl_isCode x.2.1) (bAnd (v_impl_isMods x.2.2.1) (iEq x.2.2.2 0))) (bSel (iEq x.1 7) (bAnd (v_impl_isCode x.2.1) (bAnd (iEq x.2.2.1 0) (v_impl_isUpper x.2.2.2))) (bAnd (iEq x.1 8) (bAnd (iEq x.2.1 0) (bAnd (v_impl_isMods x.2.2.1) (iEq x.2.2.2 0))))))))))) := (vu_impl_IsAction x).trans (by kernel_rfl)
theorem oe_impl_IsAction (x : Int × Int × Int × Int) : ok_impl_IsAction x = (((bOr (iEq x.1 0) (bOr (iEq x.1 1) (iEq x.1 10))) = true → True) ∧ ((bOr (iEq x.1 0) (bOr (iEq x.1 1) (iEq x.1 10))) = false → (((iEq x.1 2) = true → (((iEq x.2.2.2 0) = true → (((iEq x.2.1 0) = true → (((iEq x.2.2.1 0) = true → True) ∧ ((iEq x.2.2.1 0) = false → (ok_impl_isMods x.2.2.1)))) ∧ ((iEq x.2.1 0) = false → ((ok_impl_isCode x.2.1) ∧ (((v_impl_isCode x.2.1) = true → (((iEq x.2.2.1 0) = true → True) ∧ ((iEq x.2.2.1 0) = false → (ok_impl_isMods x.2.2.1)))) ∧ ((v_impl_isCode x.2.1) = false → True)))))) ∧ ((iEq x.2.2.2 0) = false → True))) ∧ ((iEq x.1 2) = false → (((bOr (iEq x.1 3) (iEq x.1 4)) = true → (((iEq x.2.1 0) = true → (((iEq x.2.2.1 0) = true → (ok_impl_isUpper x.2.2.2)) ∧ ((iEq x.2.2.1 0) = false → True))) ∧ ((iEq x.2.1 0) = false → True))) ∧ ((bOr (iEq x.1 3) (iEq x.1 4)) = false → (((iEq x.1 5) = true → True) ∧ ((iEq x.1 5) = false → (((iEq x.1 9) = true → True) ∧ ((iEq x.1 9) = false → (((iEq x.1 6) = true → ((ok_impl_isCode x.2.1) ∧ (((v_impl_isCode x.2.1) = true → (ok_impl_isMods x.2.2.1)) ∧ ((v_impl_isCode x.2.1) = false → True)))) ∧ ((iEq x.1 6) = false → (((iEq x.1 7) = true → ((ok_impl_isCode x.2.1) ∧ (((v_impl_isCode x.2.1) = true → (((iEq x.2.2.1 0) = true → (ok_impl_isUpper x.2.2.2)) ∧ ((iEq x.2.2.1 0) = false → True))) ∧ ((v_impl_isCode x.2.1) = false → True)))) ∧ ((iEq x.1 7) = false → (((iEq x.1 8) = true → (((iEq x.2.1 0) = true → (ok_impl_isMods x.2.2.1)) ∧ ((iEq x.2.1 0) = false → True))) ∧ ((iEq x.1 8) = false → True)))))))))))))))) := (ou_impl_IsAction x).trans (by kernel_rfl)
theorem ve_laws_eqAction (x : (Int × Int × Int × Int) × (Int × Int × Int × Int)) : v_laws_eqAction x = (bAnd (bNot (iNe x.1.1 x.2.1)) (bAnd (bNot (iNe x.1.2.1 x.2.2.1)) (bAnd (bNot (iNe x.1.2.2.1 x.2.2.2.1)) (bNot (iNe x.1.2.2.2 x.2.2.2.2))))) := (vu_laws_eqAction x).trans (by kernel_rfl)
theorem oe_laws_eqAction (x : (Int × Int × Int × Int) × (Int × Int × Int × Int)) : ok_laws_eqAction x = True := (ou_laws_eqAction x).trans (by kernel_rfl)
end
theorem isAction_eq (x : Int × Int × Int × Int) : v_spec_IsAction x = v_impl_IsAction x := by
  simp only [ve_spec_IsAction, ve_impl_IsAction, ve_spec_l1In, ve_impl_isCode, ve_impl_isMods, ve_impl_isUpper, bNot_eq, bAnd_eq, bOr_eq, bIff_eq, bSel_eq, iEq_eq, iNe_eq, iLt_eq, iLe_eq, iGt_eq, iGe_eq, sEq_eq, sNe_eq, lLen_eq, lN_eq, lGet_eq, lSet_eq, lSub_eq, lTake_eq, lApp_eq, lRep_eq, iNat_eq, sAdd_eq]
  rw [Bool.eq_iff_iff]
  repeat' split
  all_goals simp only [Bool.and_eq_true, Bool.or_eq_true, Bool.not_eq_true', Bool.not_eq_false', Bool.and_eq_false_iff, Bool.or_eq_false_iff, decide_eq_true_eq, decide_eq_false_iff_not, Bool.not_eq_true, Bool.not_eq_false, beq_iff_eq, beq_eq_false_iff_ne] at *
  all_goals omega
theorem ok_spec_IsAction_t (x : Int × Int × Int × Int) : ok_spec_IsAction x := by
  have h : ∀ y, ok_spec_l1In y := fun y => by rw [oe_spec_l1In]; trivial
  rw [oe_spec_IsAction]
  simp [h]
theorem ok_impl_IsAction_t (x : Int × Int × Int × Int) : ok_impl_IsAction x := by
  have h1 : ∀ y, ok_impl_isCode y := fun y => by rw [oe_impl_isCode]; trivial
  have h2 : ∀ y, ok_impl_isMods y := fun y => by rw [oe_impl_isMods]; trivial
  have h3 : ∀ y, ok_impl_isUpper y := fun y => by rw [oe_impl_isUpper]; trivial
  rw [oe_impl_IsAction]
  simp [h1, h2, h3]
theorem l1In_eq (a b c : Int) : v_spec_l1In (a, b, c) = (decide (b ≤ a) && decide (a ≤ c)) := by rw [ve_spec_l1In]; simp only [bAnd_eq, iGe_eq, iLe_eq]
theorem ok_l1In (x) : ok_spec_l1In x := by rw [oe_spec_l1In]; trivial
section
set_option maxRecDepth 8000
noncomputable def dc_laws_szHeldS : DCode :=
  (.seq [1, 0] (.region [oi 0 4 0])
  (.seq [1] (.region [om 0 5 1,
 on 1 6 0,
 oa 2 7 (.len (.t 6)),
 oa 3 8 (.bin .sub (.t 5) (.t 7)),
 om 4 1 8])
  (.seq [1] (.seq [10, 1] (.region [om 0 9 1,
 oa 1 10 (.bin .lss (.t 9) (.c (.int .i64 0)))])
  (.cond (.t 10) (.seq [4] (.region [oi 0 4 (-1)])
  .ret) .skip))
  (.seq [4] (.region [om 0 11 1,
 om 1 4 11])
  .ret))))
noncomputable def df_laws_szHeldS : DFun := ⟨2, 12, 0, true, [.tmp 4], dc_laws_szHeldS⟩
noncomputable def pf_laws_szHeldS : PFun := df_laws_szHeldS.er
noncomputable def f_laws_szHeldS : AFun := pf_laws_szHeldS.er
@[irreducible] noncomputable def s_laws_szHeldS : CallSem := funSem f_laws_szHeldS
@[irreducible] noncomputable def p_laws_szHeldS : PSem := pfunSem pf_laws_szHeldS
theorem sp_laws_szHeldS : SoundP s_laws_szHeldS p_laws_szHeldS := by unfold s_laws_szHeldS p_laws_szHeldS; exact pfun_sound (f := pf_laws_szHeldS) trivial
def h_laws_szHeldS : List HT := [.one .frz (.sl (.cons (.int .i64) (.cons (.int .i64) (.cons (.int .i64) (.cons (.int .i64) (.one (.int .i64))))))), .one .frz (.int .i64)]
def q_laws_szHeldS : QT := .one (.one .own (.int .i64))
@[irreducible] noncomputable def v_laws_szHeldS (x : (List (Int × Int × Int × Int × Int)) × Int) : Int := (shut fun x => fnV df_laws_szHeldS h_laws_szHeldS q_laws_szHeldS x).1 x
@[irreducible] noncomputable def ok_laws_szHeldS (x : (List (Int × Int × Int × Int × Int)) × Int) : Prop := (shut fun x => fnOk df_laws_szHeldS h_laws_szHeldS q_laws_szHeldS x).1 x
theorem vu_laws_szHeldS (x : (List (Int × Int × Int × Int × Int)) × Int) : v_laws_szHeldS x = fnV df_laws_szHeldS h_laws_szHeldS q_laws_szHeldS x := by unfold v_laws_szHeldS; exact congrFun (shut _).2 x
theorem ou_laws_szHeldS (x : (List (Int × Int × Int × Int × Int)) × Int) : ok_laws_szHeldS x = fnOk df_laws_szHeldS h_laws_szHeldS q_laws_szHeldS x := by unfold ok_laws_szHeldS; exact congrFun (shut _).2 x
noncomputable def D_laws_szHeldS : DSem := DSemOf h_laws_szHeldS q_laws_szHeldS ok_laws_szHeldS v_laws_szHeldS
theorem ck_laws_szHeldS (x : (List (Int × Int × Int × Int × Int)) × Int) : fnChk df_laws_szHeldS h_laws_szHeldS q_laws_szHeldS x = true := by kernel_rfl
theorem ob_laws_szHeldS : AllD df_laws_szHeldS.body.obs := trivial
theorem st_laws_szHeldS : fnSt df_laws_szHeldS h_laws_szHeldS q_laws_szHeldS = true := by kernel_rfl
theorem sd_laws_szHeldS : SoundD p_laws_szHeldS D_laws_szHeldS := by unfold p_laws_szHeldS; exact soundD_of (f := df_laws_szHeldS) (hs := h_laws_szHeldS) (q := q_laws_szHeldS) ob_laws_szHeldS st_laws_szHeldS ck_laws_szHeldS (fun x h => Eq.mp (ou_laws_szHeldS x) h) (fun x => (vu_laws_szHeldS x).symm)
noncomputable def dc_laws_toAction : DCode :=
  (.seq [2, 1] (.region [oa 0 1 (.boxB 0 4 (.t 0)),
 oa 1 2 (.allocB 1 [(.int .i64 0), (.int .i64 0), (.int .i64 0), (.int .i64 0)])])
  (.seq [3, 2, 1] (.region [oa 0 3 (.allocB 2 [(.int .i64 0), (.int .i64 0), (.int .i64 0), (.int .i64 0)])])
  (.seq [3, 2, 1] (.region [oa 0 4 (.fieldA 0 (.t 1)),
 ob 1 5 (.loadB 0 none (.t 4)),
 oa 2 6 (.fieldA 0 (.t 3)),
 os 3 (.storeB 2 1 (.t 6) (.t 5))])
  (.seq [3, 2, 1] (.region [oa 0 7 (.fieldA 1 (.t 1)),
 ob 1 8 (.loadB 0 none (.t 7)),
 oa 2 9 (.fieldA 1 (.t 3)),
 os 3 (.storeB 2 1 (.t 9) (.t 8))])
  (.seq [3, 2, 1] (.region [oa 0 10 (.fieldA 2 (.t 1)),
 ob 1 11 (.loadB 0 none (.t 10)),
 oa 2 12 (.fieldA 2 (.t 3)),
 os 3 (.storeB 2 1 (.t 12) (.t 11))])
  (.seq [3, 2] (.region [oa 0 13 (.fieldA 3 (.t 1)),
 ob 1 14 (.loadB 0 none (.t 13)),
 oa 2 15 (.fieldA 3 (.t 3)),
 os 3 (.storeB 2 1 (.t 15) (.t 14))])
  (.seq [2] (.region [ob 0 16 (.loadB 2 (some 4) (.t 3)),
 os 1 (.storeB 1 4 (.t 2) (.t 16))])
  .ret)))))))
noncomputable def df_laws_toAction : DFun := ⟨1, 17, 3, true, [.cell 2 (some 4)], dc_laws_toAction⟩
noncomputable def pf_laws_toAction : PFun := df_laws_toAction.er
noncomputable def f_laws_toAction : AFun := pf_laws_toAction.er
@[irreducible] noncomputable def s_laws_toAction : CallSem := funSem f_laws_toAction
@[irreducible] noncomputable def p_laws_toAction : PSem := pfunSem pf_laws_toAction
theorem sp_laws_toAction : SoundP s_laws_toAction p_laws_toAction := by unfold s_laws_toAction p_laws_toAction; exact pfun_sound (f := pf_laws_toAction) trivial
def h_laws_toAction : List HT := [.agg [(.frz, .int .i64), (.frz, .int .i64), (.frz, .int .i64), (.frz, .int .i64)]]
def q_laws_toAction : QT := .one (.agg [(.own, .int .i64), (.own, .int .i64), (.own, .int .i64), (.own, .int .i64)])
@[irreducible] noncomputable def v_laws_toAction (x : Int × Int × Int × Int) : Int × Int × Int × Int := (shut fun x => fnV df_laws_toAction h_laws_toAction q_laws_toAction x).1 x
@[irreducible] noncomputable def ok_laws_toAction (x : Int × Int × Int × Int) : Prop := (shut fun x => fnOk df_laws_toAction h_laws_toAction q_laws_toAction x).1 x
theorem vu_laws_toAction (x : Int × Int × Int × Int) : v_laws_toAction x = fnV df_laws_toAction h_laws_toAction q_laws_toAction x := by unfold v_laws_toAction; exact congrFun (shut _).2 x
theorem ou_laws_toAction (x : Int × Int × Int × Int) : ok_laws_toAction x = fnOk df_laws_toAction h_laws_toAction q_laws_toAction x := by unfold ok_laws_toAction; exact congrFun (shut _).2 x
noncomputable def D_laws_toAction : DSem := DSemOf h_laws_toAction q_laws_toAction ok_laws_toAction v_laws_toAction
theorem ck_laws_toAction (x : Int × Int × Int × Int) : fnChk df_laws_toAction h_laws_toAction q_laws_toAction x = true := by kernel_rfl
theorem ob_laws_toAction : AllD df_laws_toAction.body.obs := trivial
theorem st_laws_toAction : fnSt df_laws_toAction h_laws_toAction q_laws_toAction = true := by kernel_rfl
theorem sd_laws_toAction : SoundD p_laws_toAction D_laws_toAction := by unfold p_laws_toAction; exact soundD_of (f := df_laws_toAction) (hs := h_laws_toAction) (q := q_laws_toAction) ob_laws_toAction st_laws_toAction ck_laws_toAction (fun x h => Eq.mp (ou_laws_toAction x) h) (fun x => (vu_laws_toAction x).symm)
noncomputable def dc_laws_toHeld : DCode :=
  (.seq [2, 1] (.region [oa 0 1 (.boxB 0 5 (.t 0)),
 oa 1 2 (.allocB 1 [(.int .i64 0), (.int .i64 0), (.int .i64 0), (.int .i64 0), (.int .i64 0)])])
  (.seq [3, 2, 1] (.region [oa 0 3 (.allocB 2 [(.int .i64 0), (.int .i64 0), (.int .i64 0), (.int .i64 0), (.int .i64 0)])])
  (.seq [3, 2, 1] (.region [oa 0 4 (.fieldA 0 (.t 1)),
 ob 1 5 (.loadB 0 none (.t 4)),
 oa 2 6 (.fieldA 0 (.t 3)),
 os 3 (.storeB 2 1 (.t 6) (.t 5))])
  (.seq [3, 2] (.region [oa 0 7 (.fieldA 1 (.t 1)),
 oa 1 8 (.loadB 0 (some 4) (.t 7)),
 oc 2 9 s_laws_toAction p_laws_toAction D_laws_toAction [(.t 8)],
 oa 3 10 (.fieldA 1 (.t 3)),
 os 4 (.storeB 2 4 (.t 10) (.t 9))])
  (.seq [2] (.region [ob 0 11 (.loadB 2 (some 5) (.t 3)),
 os 1 (.storeB 1 5 (.t 2) (.t 11))])
  .ret)))))
noncomputable def df_laws_toHeld : DFun := ⟨1, 12, 3, true, [.cell 2 (some 5)], dc_laws_toHeld⟩
noncomputable def pf_laws_toHeld : PFun := df_laws_toHeld.er
noncomputable def f_laws_toHeld : AFun := pf_laws_toHeld.er
@[irreducible] noncomputable def s_laws_toHeld : CallSem := funSem f_laws_toHeld
@[irreducible] noncomputable def p_laws_toHeld : PSem := pfunSem pf_laws_toHeld
theorem sp_laws_toHeld : SoundP s_laws_toHeld p_laws_toHeld := by unfold s_laws_toHeld p_laws_toHeld; exact pfun_sound (f := pf_laws_toHeld) ⟨sp_laws_toAction, trivial⟩
def h_laws_toHeld : List HT := [.agg [(.frz, .int .i64), (.frz, .int .i64), (.frz, .int .i64), (.frz, .int .i64), (.frz, .int .i64)]]
def q_laws_toHeld : QT := .one (.agg [(.own, .int .i64), (.own, .int .i64), (.own, .int .i64), (.own, .int .i64), (.own, .int .i64)])
@[irreducible] noncomputable def v_laws_toHeld (x : Int × Int × Int × Int × Int) : Int × Int × Int × Int × Int := (shut fun x => fnV df_laws_toHeld h_laws_toHeld q_laws_toHeld x).1 x
@[irreducible] noncomputable def ok_laws_toHeld (x : Int × Int × Int × Int × Int) : Prop := (shut fun x => fnOk df_laws_toHeld h_laws_toHeld q_laws_toHeld x).1 x
theorem vu_laws_toHeld (x : Int × Int × Int × Int × Int) : v_laws_toHeld x = fnV df_laws_toHeld h_laws_toHeld q_laws_toHeld x := by unfold v_laws_toHeld; exact congrFun (shut _).2 x
theorem ou_laws_toHeld (x : Int × Int × Int × Int × Int) : ok_laws_toHeld x = fnOk df_laws_toHeld h_laws_toHeld q_laws_toHeld x := by unfold ok_laws_toHeld; exact congrFun (shut _).2 x
noncomputable def D_laws_toHeld : DSem := DSemOf h_laws_toHeld q_laws_toHeld ok_laws_toHeld v_laws_toHeld
theorem ck_laws_toHeld (x : Int × Int × Int × Int × Int) : fnChk df_laws_toHeld h_laws_toHeld q_laws_toHeld x = true := by kernel_rfl
theorem ob_laws_toHeld : AllD df_laws_toHeld.body.obs := ⟨sd_laws_toAction, trivial⟩
theorem st_laws_toHeld : fnSt df_laws_toHeld h_laws_toHeld q_laws_toHeld = true := by kernel_rfl
theorem sd_laws_toHeld : SoundD p_laws_toHeld D_laws_toHeld := by unfold p_laws_toHeld; exact soundD_of (f := df_laws_toHeld) (hs := h_laws_toHeld) (q := q_laws_toHeld) ob_laws_toHeld st_laws_toHeld ck_laws_toHeld (fun x h => Eq.mp (ou_laws_toHeld x) h) (fun x => (vu_laws_toHeld x).symm)
noncomputable def dc_laws_toHeldS : DCode :=
  (.seq [0] (.region [oa 0 2 (.mv (.c .nils))])
  (.seq [3, 0] (.region [on 0 5 0,
 oa 1 6 (.len (.t 5)),
 ⟨2, some 7, .a false (.mkSlice 5 [(.int .i64 0), (.int .i64 0), (.int .i64 0), (.int .i64 0), (.int .i64 0)] (.t 6)) (some (.cons (.int .i64) (.cons (.int .i64) (.cons (.int .i64) (.cons (.int .i64) (.one (.int .i64))))))), none, []⟩,
 om 3 3 7])
  (.seq [3] (.seq [4, 3, 0] (.region [oi 0 4 0])
  (.block 0 (.loop [0, 3, 4] 1 (.seq [4, 3, 0] (.seq [11, 4, 3, 0] (.region [om 0 8 4,
 on 1 9 0,
 oa 2 10 (.len (.t 9)),
 oa 3 11 (.bin .lss (.t 8) (.t 10))])
  (.cond (.t 11) .skip (.exit 0)))
  (.seq [4, 3, 0] (.block 1 (.region [on 0 14 3,
 om 1 15 4,
 on 2 16 0,
 om 3 17 4,
 oa 4 18 (.indexA 5 (.t 16) (.t 17)),
 oa 5 19 (.loadH (some 5) (.t 18)),
 oc 6 20 s_laws_toHeld p_laws_toHeld D_laws_toHeld [(.t 19)],
 oa 7 21 (.indexA 5 (.t 14) (.t 15)),
 os 8 (.storeH 5 (.t 21) (.t 20))]))
  (.region [om 0 12 4,
 oa 1 13 (.bin .add (.t 12) (.c (.int .i64 1))),
 om 2 4 13]))))))
  (.seq [2] (.region [om 0 22 3,
 om 1 2 22])
  .ret))))
noncomputable def df_laws_toHeldS : DFun := ⟨1, 23, 0, false, [.tmp 2], dc_laws_toHeldS⟩
noncomputable def pf_laws_toHeldS : PFun := df_laws_toHeldS.er
noncomputable def f_laws_toHeldS : AFun := pf_laws_toHeldS.er
@[irreducible] noncomputable def s_laws_toHeldS : CallSem := funSem f_laws_toHeldS
@[irreducible] noncomputable def p_laws_toHeldS : PSem := pfunSem pf_laws_toHeldS
theorem sp_laws_toHeldS : SoundP s_laws_toHeldS p_laws_toHeldS := by unfold s_laws_toHeldS p_laws_toHeldS; exact pfun_sound (f := pf_laws_toHeldS) ⟨sp_laws_toHeld, trivial⟩
def h_laws_toHeldS : List HT := [.one .frz (.sl (.cons (.int .i64) (.cons (.int .i64) (.cons (.int .i64) (.cons (.int .i64) (.one (.int .i64)))))))]
def q_laws_toHeldS : QT := .one (.one .own (.sl (.cons (.int .i64) (.cons (.int .i64) (.cons (.int .i64) (.cons (.int .i64) (.one (.int .i64))))))))
@[irreducible] noncomputable def v_laws_toHeldS (x : List (Int × Int × Int × Int × Int)) : List (Int × Int × Int × Int × Int) := (shut fun x => fnV df_laws_toHeldS h_laws_toHeldS q_laws_toHeldS x).1 x
@[irreducible] noncomputable def ok_laws_toHeldS (x : List (Int × Int × Int × Int × Int)) : Prop := (shut fun x => fnOk df_laws_toHeldS h_laws_toHeldS q_laws_toHeldS x).1 x
theorem vu_laws_toHeldS (x : List (Int × Int × Int × Int × Int)) : v_laws_toHeldS x = fnV df_laws_toHeldS h_laws_toHeldS q_laws_toHeldS x := by unfold v_laws_toHeldS; exact congrFun (shut _).2 x
theorem ou_laws_toHeldS (x : List (Int × Int × Int × Int × Int)) : ok_laws_toHeldS x = fnOk df_laws_toHeldS h_laws_toHeldS q_laws_toHeldS x := by unfold ok_laws_toHeldS; exact congrFun (shut _).2 x
noncomputable def D_laws_toHeldS : DSem := DSemOf h_laws_toHeldS q_laws_toHeldS ok_laws_toHeldS v_laws_toHeldS
theorem ck_laws_toHeldS (x : List (Int × Int × Int × Int × Int)) : fnChk df_laws_toHeldS h_laws_toHeldS q_laws_toHeldS x = true := by kernel_rfl
theorem ob_laws_toHeldS : AllD df_laws_toHeldS.body.obs := ⟨sd_laws_toHeld, trivial⟩
theorem st_laws_toHeldS : fnSt df_laws_toHeldS h_laws_toHeldS q_laws_toHeldS = true := by kernel_rfl
theorem sd_laws_toHeldS : SoundD p_laws_toHeldS D_laws_toHeldS := by unfold p_laws_toHeldS; exact soundD_of (f := df_laws_toHeldS) (hs := h_laws_toHeldS) (q := q_laws_toHeldS) ob_laws_toHeldS st_laws_toHeldS ck_laws_toHeldS (fun x h => Eq.mp (ou_laws_toHeldS x) h) (fun x => (vu_laws_toHeldS x).symm)
noncomputable def dc_spec_IsTapHold : DCode :=
  (.seq [1] (.region [oa 0 1 (.boxB 0 4 (.t 0)),
 oa 1 2 (.mv (.c (.bool false)))])
  (.seq [2] (.region [oa 0 3 (.loadB 0 (some 4) (.t 1)),
 oc 1 4 s_spec_IsAction p_spec_IsAction D_spec_IsAction [(.t 3)],
 om 2 5 4,
 og 3 6 (.fieldA 0 (.t 1)) 5 true,
 og 4 7 (.loadB 0 none (.t 6)) 5 true,
 og 5 8 (.bin .eql (.t 7) (.c (.int .i64 6))) 5 true,
 og 6 9 (.mv (.t 8)) 5 true,
 og 7 10 (.fieldA 0 (.t 1)) 9 false,
 og 8 11 (.loadB 0 none (.t 10)) 9 false,
 og 9 12 (.bin .eql (.t 11) (.c (.int .i64 7))) 9 false,
 og 10 13 (.pick (.t 9) (.c (.bool true)) (.t 12)) 5 true,
 oa 11 14 (.pick (.t 5) (.t 13) (.c (.bool false))),
 om 12 2 14])
  .ret))
noncomputable def df_spec_IsTapHold : DFun := ⟨1, 15, 1, true, [.tmp 2], dc_spec_IsTapHold⟩
noncomputable def pf_spec_IsTapHold : PFun := df_spec_IsTapHold.er
noncomputable def f_spec_IsTapHold : AFun := pf_spec_IsTapHold.er
@[irreducible] noncomputable def s_spec_IsTapHold : CallSem := funSem f_spec_IsTapHold
@[irreducible] noncomputable def p_spec_IsTapHold : PSem := pfunSem pf_spec_IsTapHold
theorem sp_spec_IsTapHold : SoundP s_spec_IsTapHold p_spec_IsTapHold := by unfold s_spec_IsTapHold p_spec_IsTapHold; exact pfun_sound (f := pf_spec_IsTapHold) ⟨sp_spec_IsAction, trivial⟩
def h_spec_IsTapHold : List HT := [.agg [(.frz, .int .i64), (.frz, .int .i64), (.frz, .int .i64), (.frz, .int .i64)]]
def q_spec_IsTapHold : QT := .one (.one .own (.bool))
@[irreducible] noncomputable def v_spec_IsTapHold (x : Int × Int × Int × Int) : Bool := (shut fun x => fnV df_spec_IsTapHold h_spec_IsTapHold q_spec_IsTapHold x).1 x
@[irreducible] noncomputable def ok_spec_IsTapHold (x : Int × Int × Int × Int) : Prop := (shut fun x => fnOk df_spec_IsTapHold h_spec_IsTapHold q_spec_IsTapHold x).1 x
theorem vu_spec_IsTapHold (x : Int × Int × Int × Int) : v_spec_IsTapHold x = fnV df_spec_IsTapHold h_spec_IsTapHold q_spec_IsTapHold x := by unfold v_spec_IsTapHold; exact congrFun (shut _).2 x
theorem ou_spec_IsTapHold (x : Int × Int × Int × Int) : ok_spec_IsTapHold x = fnOk df_spec_IsTapHold h_spec_IsTapHold q_spec_IsTapHold x := by unfold ok_spec_IsTapHold; exact congrFun (shut _).2 x
noncomputable def D_spec_IsTapHold : DSem := DSemOf h_spec_IsTapHold q_spec_IsTapHold ok_spec_IsTapHold v_spec_IsTapHold
theorem ck_spec_IsTapHold (x : Int × Int × Int × Int) : fnChk df_spec_IsTapHold h_spec_IsTapHold q_spec_IsTapHold x = true := by kernel_rfl
theorem ob_spec_IsTapHold : AllD df_spec_IsTapHold.body.obs := ⟨sd_spec_IsAction, trivial⟩
theorem st_spec_IsTapHold : fnSt df_spec_IsTapHold h_spec_IsTapHold q_spec_IsTapHold = true := by kernel_rfl
theorem sd_spec_IsTapHold : SoundD p_spec_IsTapHold D_spec_IsTapHold := by unfold p_spec_IsTapHold; exact soundD_of (f := df_spec_IsTapHold) (hs := h_spec_IsTapHold) (q := q_spec_IsTapHold) ob_spec_IsTapHold st_spec_IsTapHold ck_spec_IsTapHold (fun x h => Eq.mp (ou_spec_IsTapHold x) h) (fun x => (vu_spec_IsTapHold x).symm)
noncomputable def dc_spec_IsHeld : DCode :=
  (.seq [0] (.region [oa 0 2 (.mv (.c (.bool false)))])
  (.seq [3, 0] (.region [oi 0 3 0])
  (.seq [] (.seq [4, 3, 0] (.region [oi 0 4 0])
  (.block 0 (.loop [0, 3, 4] 1 (.seq [4, 3, 0] (.seq [9, 4, 3, 0] (.region [om 0 6 4,
 on 1 7 0,
 oa 2 8 (.len (.t 7)),
 oa 3 9 (.bin .lss (.t 6) (.t 8))])
  (.cond (.t 9) .skip (.exit 0)))
  (.seq [4, 3, 0] (.block 1 (.seq [5, 4, 3, 0] (.region [on 0 12 0,
 om 1 13 4,
 oa 2 14 (.indexA 5 (.t 12) (.t 13)),
 oa 3 15 (.fieldA 1 (.t 14)),
 ob 4 16 (.loadH (some 4) (.t 15)),
 oa 5 5 (.allocB 0 [(.int .i64 0), (.int .i64 0), (.int .i64 0), (.int .i64 0)]),
 os 6 (.storeB 0 4 (.t 5) (.t 16))])
  (.seq [4, 3, 0] (.seq [48, 4, 3, 0] (.region [on 0 17 0,
 om 1 18 4,
 oa 2 19 (.indexA 5 (.t 17) (.t 18)),
 oa 3 20 (.fieldA 0 (.t 19)),
 oa 4 21 (.loadH none (.t 20)),
 oc 5 22 s_spec_l1In p_spec_l1In D_spec_l1In [(.t 21), (.c (.int .i64 0)), (.c (.int .i64 31))],
 oa 6 23 (.un .not (.t 22)),
 om 7 24 23,
 og 8 25 (.mv (.t 3)) 24 false,
 ⟨9, some 26, .a true (.mv (.t 0)) none, (some (24, false)), []⟩,
 og 10 27 (.mv (.t 4)) 24 false,
 og 11 28 (.indexA 5 (.t 26) (.t 27)) 24 false,
 og 12 29 (.fieldA 0 (.t 28)) 24 false,
 og 13 30 (.loadH none (.t 29)) 24 false,
 og 14 31 (.bin .shr (.t 25) (.t 30)) 24 false,
 og 15 32 (.bin .and (.t 31) (.c (.int .i64 1))) 24 false,
 og 16 33 (.bin .eql (.t 32) (.c (.int .i64 1))) 24 false,
 oa 17 34 (.pick (.t 24) (.c (.bool true)) (.t 33)),
 om 18 35 34,
 og 19 36 (.loadB 0 (some 4) (.t 5)) 35 false,
 ⟨20, some 37, .call false s_spec_IsAction p_spec_IsAction D_spec_IsAction [(.t 36)], (some (35, false)), []⟩,
 og 21 38 (.un .not (.t 37)) 35 false,
 oa 22 39 (.pick (.t 35) (.c (.bool true)) (.t 38)),
 om 23 40 39,
 og 24 41 (.fieldA 0 (.t 5)) 40 false,
 og 25 42 (.loadB 0 none (.t 41)) 40 false,
 og 26 43 (.bin .eql (.t 42) (.c (.int .i64 1))) 40 false,
 oa 27 44 (.pick (.t 40) (.c (.bool true)) (.t 43)),
 om 28 45 44,
 og 29 46 (.loadB 0 (some 4) (.t 5)) 45 false,
 ⟨30, some 47, .call false s_spec_IsTapHold p_spec_IsTapHold D_spec_IsTapHold [(.t 46)], (some (45, false)), []⟩,
 oa 31 48 (.pick (.t 45) (.c (.bool true)) (.t 47))])
  (.cond (.t 48) (.seq [2] (.region [oa 0 2 (.mv (.c (.bool false)))])
  .ret) .skip))
  (.region [om 0 49 3,
 on 1 50 0,
 om 2 51 4,
 oa 3 52 (.indexA 5 (.t 50) (.t 51)),
 oa 4 53 (.fieldA 0 (.t 52)),
 oa 5 54 (.loadH none (.t 53)),
 oa 6 55 (.bin .shl (.c (.int .i64 1)) (.t 54)),
 oa 7 56 (.bin .or (.t 49) (.t 55)),
 om 8 3 56]))))
  (.region [om 0 10 4,
 oa 1 11 (.bin .add (.t 10) (.c (.int .i64 1))),
 om 2 4 11]))))))
  (.seq [2] (.region [oa 0 2 (.mv (.c (.bool true)))])
  .ret))))
noncomputable def df_spec_IsHeld : DFun := ⟨1, 57, 1, true, [.tmp 2], dc_spec_IsHeld⟩
noncomputable def pf_spec_IsHeld : PFun := df_spec_IsHeld.er
noncomputable def f_spec_IsHeld : AFun := pf_spec_IsHeld.er
@[irreducible] noncomputable def s_spec_IsHeld : CallSem := funSem f_spec_IsHeld
@[irreducible] noncomputable def p_spec_IsHeld : PSem := pfunSem pf_spec_IsHeld
theorem sp_spec_IsHeld : SoundP s_spec_IsHeld p_spec_IsHeld := by unfold s_spec_IsHeld p_spec_IsHeld; exact pfun_sound (f := pf_spec_IsHeld) ⟨sp_spec_l1In, sp_spec_IsAction, sp_spec_IsTapHold, trivial⟩
def h_spec_IsHeld : List HT := [.one .frz (.sl (.cons (.int .i64) (.cons (.int .i64) (.cons (.int .i64) (.cons (.int .i64) (.one (.int .i64)))))))]
def q_spec_IsHeld : QT := .one (.one .own (.bool))
@[irreducible] noncomputable def v_spec_IsHeld (x : List (Int × Int × Int × Int × Int)) : Bool := (shut fun x => fnV df_spec_IsHeld h_spec_IsHeld q_spec_IsHeld x).1 x
@[irreducible] noncomputable def ok_spec_IsHeld (x : List (Int × Int × Int × Int × Int)) : Prop := (shut fun x => fnOk df_spec_IsHeld h_spec_IsHeld q_spec_IsHeld x).1 x
theorem vu_spec_IsHeld (x : List (Int × Int × Int × Int × Int)) : v_spec_IsHeld x = fnV df_spec_IsHeld h_spec_IsHeld q_spec_IsHeld x := by unfold v_spec_IsHeld; exact congrFun (shut _).2 x
theorem ou_spec_IsHeld (x : List (Int × Int × Int × Int × Int)) : ok_spec_IsHeld x = fnOk df_spec_IsHeld h_spec_IsHeld q_spec_IsHeld x := by unfold ok_spec_IsHeld; exact congrFun (shut _).2 x
noncomputable def D_spec_IsHeld : DSem := DSemOf h_spec_IsHeld q_spec_IsHeld ok_spec_IsHeld v_spec_IsHeld
theorem ck_spec_IsHeld (x : List (Int × Int × Int × Int × Int)) : fnChk df_spec_IsHeld h_spec_IsHeld q_spec_IsHeld x = true := by kernel_rfl
theorem ob_spec_IsHeld : AllD df_spec_IsHeld.body.obs := ⟨sd_spec_l1In, sd_spec_IsAction, sd_spec_IsTapHold, trivial⟩
theorem st_spec_IsHeld : fnSt df_spec_IsHeld h_spec_IsHeld q_spec_IsHeld = true := by kernel_rfl
theorem sd_spec_IsHeld : SoundD p_spec_IsHeld D_spec_IsHeld := by unfold p_spec_IsHeld; exact soundD_of (f := df_spec_IsHeld) (hs := h_spec_IsHeld) (q := q_spec_IsHeld) ob_spec_IsHeld st_spec_IsHeld ck_spec_IsHeld (fun x h => Eq.mp (ou_spec_IsHeld x) h) (fun x => (vu_spec_IsHeld x).symm)
noncomputable def dc_impl_bit : DCode :=
  (.seq [1, 0] (.region [oi 0 4 0])
  (.seq [4] (.region [om 0 5 0,
 om 1 6 1,
 oa 2 7 (.bin .shr (.t 5) (.t 6)),
 oa 3 8 (.bin .and (.t 7) (.c (.int .i64 1))),
 om 4 4 8])
  .ret))
noncomputable def df_impl_bit : DFun := ⟨2, 9, 0, true, [.tmp 4], dc_impl_bit⟩
noncomputable def pf_impl_bit : PFun := df_impl_bit.er
noncomputable def f_impl_bit : AFun := pf_impl_bit.er
@[irreducible] noncomputable def s_impl_bit : CallSem := funSem f_impl_bit
@[irreducible] noncomputable def p_impl_bit : PSem := pfunSem pf_impl_bit
theorem sp_impl_bit : SoundP s_impl_bit p_impl_bit := by unfold s_impl_bit p_impl_bit; exact pfun_sound (f := pf_impl_bit) trivial
def h_impl_bit : List HT := [.one .frz (.int .i64), .one .frz (.int .i64)]
def q_impl_bit : QT := .one (.one .own (.int .i64))
@[irreducible] noncomputable def v_impl_bit (x : Int × Int) : Int := (shut fun x => fnV df_impl_bit h_impl_bit q_impl_bit x).1 x
@[irreducible] noncomputable def ok_impl_bit (x : Int × Int) : Prop := (shut fun x => fnOk df_impl_bit h_impl_bit q_impl_bit x).1 x
theorem vu_impl_bit (x : Int × Int) : v_impl_bit x = fnV df_impl_bit h_impl_bit q_impl_bit x := by unfold v_impl_bit; exact congrFun (shut _).2 x
theorem ou_impl_bit (x : Int × Int) : ok_impl_bit x = fnOk df_impl_bit h_impl_bit q_impl_bit x := by unfold ok_impl_bit; exact congrFun (shut _).2 x
noncomputable def D_impl_bit : DSem := DSemOf h_impl_bit q_impl_bit ok_impl_bit v_impl_bit
theorem ck_impl_bit (x : Int × Int) : fnChk df_impl_bit h_impl_bit q_impl_bit x = true := by kernel_rfl
theorem ob_impl_bit : AllD df_impl_bit.body.obs := trivial
theorem st_impl_bit : fnSt df_impl_bit h_impl_bit q_impl_bit = true := by kernel_rfl
theorem sd_impl_bit : SoundD p_impl_bit D_impl_bit := by unfold p_impl_bit; exact soundD_of (f := df_impl_bit) (hs := h_impl_bit) (q := q_impl_bit) ob_impl_bit st_impl_bit ck_impl_bit (fun x h => Eq.mp (ou_impl_bit x) h) (fun x => (vu_impl_bit x).symm)
noncomputable def dc_impl_IsHeld : DCode :=
  (.seq [0] (.region [oa 0 2 (.mv (.c (.bool false)))])
  (.seq [3, 0] (.region [oi 0 3 0])
  (.seq [] (.seq [8, 7, 6, 3] (.region [on 0 6 0,
 oa 1 7 (.len (.t 6)),
 oi 2 8 0])
  (.block 0 (.loop [3, 6, 7, 8] 1 (.seq [9, 8, 7, 6, 3] (.region [oa 0 9 (.bin .lss (.t 8) (.t 7))])
  (.seq [8, 7, 6, 3] (.cond (.t 9) .skip (.exit 0))
  (.seq [8, 7, 6, 3] (.block 1 (.seq [8, 7, 6, 5, 3] (.region [oa 0 10 (.indexA 5 (.t 6) (.t 8)),
 ob 1 11 (.loadH (some 5) (.t 10)),
 oa 2 5 (.allocB 0 [(.int .i64 0), (.int .i64 0), (.int .i64 0), (.int .i64 0), (.int .i64 0)]),
 os 3 (.storeB 0 5 (.t 5) (.t 11))])
  (.seq [8, 7, 6, 5, 3] (.seq [32, 8, 7, 6, 5, 3] (.region [oa 0 12 (.fieldA 0 (.t 5)),
 oa 1 13 (.loadB 0 none (.t 12)),
 oa 2 14 (.bin .lss (.t 13) (.c (.int .i64 0))),
 om 3 15 14,
 og 4 16 (.fieldA 0 (.t 5)) 15 false,
 og 5 17 (.loadB 0 none (.t 16)) 15 false,
 og 6 18 (.bin .gtr (.t 17) (.c (.int .i64 31))) 15 false,
 oa 7 19 (.pick (.t 15) (.c (.bool true)) (.t 18)),
 om 8 20 19,
 og 9 21 (.mv (.t 3)) 20 false,
 og 10 22 (.fieldA 0 (.t 5)) 20 false,
 og 11 23 (.loadB 0 none (.t 22)) 20 false,
 ⟨12, some 24, .call false s_impl_bit p_impl_bit D_impl_bit [(.t 21), (.t 23)], (some (20, false)), []⟩,
 og 13 25 (.bin .eql (.t 24) (.c (.int .i64 1))) 20 false,
 oa 14 26 (.pick (.t 20) (.c (.bool true)) (.t 25)),
 om 15 27 26,
 og 16 28 (.fieldA 1 (.t 5)) 27 false,
 og 17 29 (.loadB 0 (some 4) (.t 28)) 27 false,
 ⟨18, some 30, .call false s_impl_IsAction p_impl_IsAction D_impl_IsAction [(.t 29)], (some (27, false)), []⟩,
 og 19 31 (.un .not (.t 30)) 27 false,
 oa 20 32 (.pick (.t 27) (.c (.bool true)) (.t 31))])
  (.cond (.t 32) (.seq [2] (.region [oa 0 2 (.mv (.c (.bool false)))])
  .ret) .skip))
  (.seq [8, 7, 6, 5, 3] (.seq [35, 8, 7, 6, 5, 3] (.region [oa 0 33 (.fieldA 1 (.t 5)),
 oa 1 34 (.fieldA 0 (.t 33)),
 oa 2 35 (.loadB 0 none (.t 34))])
  (.block 2 (.seq [36, 8, 7, 6, 5, 3] (.seq [36, 35, 8, 7, 6, 5, 3] (.region [oa 0 37 (.bin .eql (.t 35) (.c (.int .i64 1))),
 om 1 36 37])
  (.cond (.t 36) .skip (.seq [36, 35, 8, 7, 6, 5, 3] (.region [oa 0 38 (.bin .eql (.t 35) (.c (.int .i64 6))),
 om 1 36 38])
  (.cond (.t 36) .skip (.region [oa 0 39 (.bin .eql (.t 35) (.c (.int .i64 7))),
 om 1 36 39])))))
  (.cond (.t 36) (.seq [2] (.region [oa 0 2 (.mv (.c (.bool false)))])
  .ret) .skip))))
  (.region [om 0 40 3,
 oa 1 41 (.fieldA 0 (.t 5)),
 oa 2 42 (.loadB 0 none (.t 41)),
 oa 3 43 (.bin .shl (.c (.int .i64 1)) (.t 42)),
 oa 4 44 (.bin .or (.t 40) (.t 43)),
 om 5 3 44])))))
  (.region [oa 0 45 (.bin .add (.t 8) (.c (.int .i64 1))),
 om 1 8 45])))))))
  (.seq [2] (.region [oa 0 2 (.mv (.c (.bool true)))])
  .ret))))
noncomputable def df_impl_IsHeld : DFun := ⟨1, 46, 1, true, [.tmp 2], dc_impl_IsHeld⟩
noncomputable def pf_impl_IsHeld : PFun := df_impl_IsHeld.er
noncomputable def f_impl_IsHeld : AFun := pf_impl_IsHeld.er
@[irreducible] noncomputable def s_impl_IsHeld : CallSem := funSem f_impl_IsHeld
@[irreducible] noncomputable def p_impl_IsHeld : PSem := pfunSem pf_impl_IsHeld
theorem sp_impl_IsHeld : SoundP s_impl_IsHeld p_impl_IsHeld := by unfold s_impl_IsHeld p_impl_IsHeld; exact pfun_sound (f := pf_impl_IsHeld) ⟨sp_impl_bit, sp_impl_IsAction, trivial⟩
def h_impl_IsHeld : List HT := [.one .frz (.sl (.cons (.int .i64) (.cons (.int .i64) (.cons (.int .i64) (.cons (.int .i64) (.one (.int .i64)))))))]
def q_impl_IsHeld : QT := .one (.one .own (.bool))
@[irreducible] noncomputable def v_impl_IsHeld (x : List (Int × Int × Int × Int × Int)) : Bool := (shut fun x => fnV df_impl_IsHeld h_impl_IsHeld q_impl_IsHeld x).1 x
@[irreducible] noncomputable def ok_impl_IsHeld (x : List (Int × Int × Int × Int × Int)) : Prop := (shut fun x => fnOk df_impl_IsHeld h_impl_IsHeld q_impl_IsHeld x).1 x
theorem vu_impl_IsHeld (x : List (Int × Int × Int × Int × Int)) : v_impl_IsHeld x = fnV df_impl_IsHeld h_impl_IsHeld q_impl_IsHeld x := by unfold v_impl_IsHeld; exact congrFun (shut _).2 x
theorem ou_impl_IsHeld (x : List (Int × Int × Int × Int × Int)) : ok_impl_IsHeld x = fnOk df_impl_IsHeld h_impl_IsHeld q_impl_IsHeld x := by unfold ok_impl_IsHeld; exact congrFun (shut _).2 x
noncomputable def D_impl_IsHeld : DSem := DSemOf h_impl_IsHeld q_impl_IsHeld ok_impl_IsHeld v_impl_IsHeld
theorem ck_impl_IsHeld (x : List (Int × Int × Int × Int × Int)) : fnChk df_impl_IsHeld h_impl_IsHeld q_impl_IsHeld x = true := by kernel_rfl
theorem ob_impl_IsHeld : AllD df_impl_IsHeld.body.obs := ⟨sd_impl_bit, sd_impl_IsAction, trivial⟩
theorem st_impl_IsHeld : fnSt df_impl_IsHeld h_impl_IsHeld q_impl_IsHeld = true := by kernel_rfl
theorem sd_impl_IsHeld : SoundD p_impl_IsHeld D_impl_IsHeld := by unfold p_impl_IsHeld; exact soundD_of (f := df_impl_IsHeld) (hs := h_impl_IsHeld) (q := q_impl_IsHeld) ob_impl_IsHeld st_impl_IsHeld ck_impl_IsHeld (fun x h => Eq.mp (ou_impl_IsHeld x) h) (fun x => (vu_impl_IsHeld x).symm)
noncomputable def dc_laws_eqHeld : DCode :=
  (.seq [3, 2] (.region [oa 0 2 (.boxB 0 5 (.t 0)),
 oa 1 3 (.boxB 1 5 (.t 1)),
 oa 2 4 (.mv (.c (.bool false)))])
  (.seq [3, 2] (.seq [9, 3, 2] (.region [oa 0 5 (.fieldA 0 (.t 2)),
 oa 1 6 (.loadB 0 none (.t 5)),
 oa 2 7 (.fieldA 0 (.t 3)),
 oa 3 8 (.loadB 1 none (.t 7)),
 oa 4 9 (.bin .neq (.t 6) (.t 8))])
  (.cond (.t 9) (.seq [4] (.region [oa 0 4 (.mv (.c (.bool false)))])
  .ret) .skip))
  (.seq [] (.seq [15] (.region [oa 0 10 (.fieldA 1 (.t 2)),
 oa 1 11 (.loadB 0 (some 4) (.t 10)),
 oa 2 12 (.fieldA 1 (.t 3)),
 oa 3 13 (.loadB 1 (some 4) (.t 12)),
 oc 4 14 s_laws_eqAction p_laws_eqAction D_laws_eqAction [(.t 11), (.t 13)],
 oa 5 15 (.un .not (.t 14))])
  (.cond (.t 15) (.seq [4] (.region [oa 0 4 (.mv (.c (.bool false)))])
  .ret) .skip))
  (.seq [4] (.region [oa 0 4 (.mv (.c (.bool true)))])
  .ret))))
noncomputable def df_laws_eqHeld : DFun := ⟨2, 16, 2, true, [.tmp 4], dc_laws_eqHeld⟩
noncomputable def pf_laws_eqHeld : PFun := df_laws_eqHeld.er
noncomputable def f_laws_eqHeld : AFun := pf_laws_eqHeld.er
@[irreducible] noncomputable def s_laws_eqHeld : CallSem := funSem f_laws_eqHeld
@[irreducible] noncomputable def p_laws_eqHeld : PSem := pfunSem pf_laws_eqHeld
theorem sp_laws_eqHeld : SoundP s_laws_eqHeld p_laws_eqHeld := by unfold s_laws_eqHeld p_laws_eqHeld; exact pfun_sound (f := pf_laws_eqHeld) ⟨sp_laws_eqAction, trivial⟩
def h_laws_eqHeld : List HT := [.agg [(.frz, .int .i64), (.frz, .int .i64), (.frz, .int .i64), (.frz, .int .i64), (.frz, .int .i64)], .agg [(.frz, .int .i64), (.frz, .int .i64), (.frz, .int .i64), (.frz, .int .i64), (.frz, .int .i64)]]
def q_laws_eqHeld : QT := .one (.one .own (.bool))
@[irreducible] noncomputable def v_laws_eqHeld (x : (Int × Int × Int × Int × Int) × (Int × Int × Int × Int × Int)) : Bool := (shut fun x => fnV df_laws_eqHeld h_laws_eqHeld q_laws_eqHeld x).1 x
@[irreducible] noncomputable def ok_laws_eqHeld (x : (Int × Int × Int × Int × Int) × (Int × Int × Int × Int × Int)) : Prop := (shut fun x => fnOk df_laws_eqHeld h_laws_eqHeld q_laws_eqHeld x).1 x
theorem vu_laws_eqHeld (x : (Int × Int × Int × Int × Int) × (Int × Int × Int × Int × Int)) : v_laws_eqHeld x = fnV df_laws_eqHeld h_laws_eqHeld q_laws_eqHeld x := by unfold v_laws_eqHeld; exact congrFun (shut _).2 x
theorem ou_laws_eqHeld (x : (Int × Int × Int × Int × Int) × (Int × Int × Int × Int × Int)) : ok_laws_eqHeld x = fnOk df_laws_eqHeld h_laws_eqHeld q_laws_eqHeld x := by unfold ok_laws_eqHeld; exact congrFun (shut _).2 x
noncomputable def D_laws_eqHeld : DSem := DSemOf h_laws_eqHeld q_laws_eqHeld ok_laws_eqHeld v_laws_eqHeld
theorem ck_laws_eqHeld (x : (Int × Int × Int × Int × Int) × (Int × Int × Int × Int × Int)) : fnChk df_laws_eqHeld h_laws_eqHeld q_laws_eqHeld x = true := by kernel_rfl
theorem ob_laws_eqHeld : AllD df_laws_eqHeld.body.obs := ⟨sd_laws_eqAction, trivial⟩
theorem st_laws_eqHeld : fnSt df_laws_eqHeld h_laws_eqHeld q_laws_eqHeld = true := by kernel_rfl
theorem sd_laws_eqHeld : SoundD p_laws_eqHeld D_laws_eqHeld := by unfold p_laws_eqHeld; exact soundD_of (f := df_laws_eqHeld) (hs := h_laws_eqHeld) (q := q_laws_eqHeld) ob_laws_eqHeld st_laws_eqHeld ck_laws_eqHeld (fun x h => Eq.mp (ou_laws_eqHeld x) h) (fun x => (vu_laws_eqHeld x).symm)
noncomputable def dc_laws_eqHeldS : DCode :=
  (.seq [1, 0] (.region [oa 0 4 (.mv (.c (.bool false)))])
  (.seq [1, 0] (.seq [10, 1, 0] (.region [on 0 6 0,
 oa 1 7 (.len (.t 6)),
 on 2 8 1,
 oa 3 9 (.len (.t 8)),
 oa 4 10 (.bin .neq (.t 7) (.t 9))])
  (.cond (.t 10) (.seq [4] (.region [oa 0 4 (.mv (.c (.bool false)))])
  .ret) .skip))
  (.seq [] (.seq [5, 1, 0] (.region [oi 0 5 0])
  (.block 0 (.loop [0, 1, 5] 1 (.seq [5, 1, 0] (.seq [14, 5, 1, 0] (.region [om 0 11 5,
 on 1 12 0,
 oa 2 13 (.len (.t 12)),
 oa 3 14 (.bin .lss (.t 11) (.t 13))])
  (.cond (.t 14) .skip (.exit 0)))
  (.seq [5, 1, 0] (.block 1 (.seq [26, 5, 1, 0] (.region [on 0 17 0,
 om 1 18 5,
 xA 2 19 (.indexA 5 (.t 17) (.t 18)) (rg 2),
 xA 3 20 (.loadH (some 5) (.t 19)) (rg 3),
 on 4 21 1,
 om 5 22 5,
 xA 6 23 (.indexA 5 (.t 21) (.t 22)) [4, 5],
 xA 7 24 (.loadH (some 5) (.t 23)) [4, 5, 6],
 xC 8 25 s_laws_eqHeld p_laws_eqHeld D_laws_eqHeld [(.t 20), (.t 24)] (rg 8),
 xA 9 26 (.un .not (.t 25)) (rg 9)])
  (.cond (.t 26) (.seq [4] (.region [oa 0 4 (.mv (.c (.bool false)))])
  .ret) .skip)))
  (.region [om 0 15 5,
 oa 1 16 (.bin .add (.t 15) (.c (.int .i64 1))),
 om 2 5 16]))))))
  (.seq [4] (.region [oa 0 4 (.mv (.c (.bool true)))])
  .ret))))
noncomputable def df_laws_eqHeldS : DFun := ⟨2, 27, 0, true, [.tmp 4], dc_laws_eqHeldS⟩
noncomputable def pf_laws_eqHeldS : PFun := df_laws_eqHeldS.er
noncomputable def f_laws_eqHeldS : AFun := pf_laws_eqHeldS.er
@[irreducible] noncomputable def s_laws_eqHeldS : CallSem := funSem f_laws_eqHeldS
@[irreducible] noncomputable def p_laws_eqHeldS : PSem := pfunSem pf_laws_eqHeldS
theorem sp_laws_eqHeldS : SoundP s_laws_eqHeldS p_laws_eqHeldS := by unfold s_laws_eqHeldS p_laws_eqHeldS; exact pfun_sound (f := pf_laws_eqHeldS) ⟨sp_laws_eqHeld, trivial⟩
def h_laws_eqHeldS : List HT := [.one .frz (.sl (.cons (.int .i64) (.cons (.int .i64) (.cons (.int .i64) (.cons (.int .i64) (.one (.int .i64))))))), .one .frz (.sl (.cons (.int .i64) (.cons (.int .i64) (.cons (.int .i64) (.cons (.int .i64) (.one (.int .i64)))))))]
def q_laws_eqHeldS : QT := .one (.one .own (.bool))
@[irreducible] noncomputable def v_laws_eqHeldS (x : (List (Int × Int × Int × Int × Int)) × (List (Int × Int × Int × Int × Int))) : Bool := (shut fun x => fnV df_laws_eqHeldS h_laws_eqHeldS q_laws_eqHeldS x).1 x
@[irreducible] noncomputable def ok_laws_eqHeldS (x : (List (Int × Int × Int × Int × Int)) × (List (Int × Int × Int × Int × Int))) : Prop := (shut fun x => fnOk df_laws_eqHeldS h_laws_eqHeldS q_laws_eqHeldS x).1 x
theorem vu_laws_eqHeldS (x : (List (Int × Int × Int × Int × Int)) × (List (Int × Int × Int × Int × Int))) : v_laws_eqHeldS x = fnV df_laws_eqHeldS h_laws_eqHeldS q_laws_eqHeldS x := by unfold v_laws_eqHeldS; exact congrFun (shut _).2 x
theorem ou_laws_eqHeldS (x : (List (Int × Int × Int × Int × Int)) × (List (Int × Int × Int × Int × Int))) : ok_laws_eqHeldS x = fnOk df_laws_eqHeldS h_laws_eqHeldS q_laws_eqHeldS x := by unfold ok_laws_eqHeldS; exact congrFun (shut _).2 x
noncomputable def D_laws_eqHeldS : DSem := DSemOf h_laws_eqHeldS q_laws_eqHeldS ok_laws_eqHeldS v_laws_eqHeldS
theorem ck_laws_eqHeldS (x : (List (Int × Int × Int × Int × Int)) × (List (Int × Int × Int × Int × Int))) : fnChk df_laws_eqHeldS h_laws_eqHeldS q_laws_eqHeldS x = true := by kernel_rfl
theorem ob_laws_eqHeldS : AllD df_laws_eqHeldS.body.obs := ⟨sd_laws_eqHeld, trivial⟩
theorem st_laws_eqHeldS : fnSt df_laws_eqHeldS h_laws_eqHeldS q_laws_eqHeldS = true := by kernel_rfl
theorem sd_laws_eqHeldS : SoundD p_laws_eqHeldS D_laws_eqHeldS := by unfold p_laws_eqHeldS; exact soundD_of (f := df_laws_eqHeldS) (hs := h_laws_eqHeldS) (q := q_laws_eqHeldS) ob_laws_eqHeldS st_laws_eqHeldS ck_laws_eqHeldS (fun x h => Eq.mp (ou_laws_eqHeldS x) h) (fun x => (vu_laws_eqHeldS x).symm)
end
section
set_option maxRecDepth 100000
theorem ve_laws_szHeldS (x : (List (Int × Int × Int × Int × Int)) × Int) : v_laws_szHeldS x = (bSel (iLt (iSub Go.IntKind.i64 x.2 (lLen x.1)) 0) (-1) (iSub Go.IntKind.i64 x.2 (lLen x.1))) := (vu_laws_szHeldS x).trans (by kernel_rfl)
theorem oe_laws_szHeldS (x : (List (Int × Int × Int × Int × Int)) × Int) : ok_laws_szHeldS x = True := (ou_laws_szHeldS x).trans (by kernel_rfl)
theorem ve_laws_toAction (x : Int × Int × Int × Int) : v_laws_toAction x = (x.1, x.2.1, x.2.2.1, x.2.2.2) := (vu_laws_toAction x).trans (by kernel_rfl)
theorem oe_laws_toAction (x : Int × Int × Int × Int) : ok_laws_toAction x = True := (ou_laws_toAction x).trans (by kernel_rfl)
theorem ve_laws_toHeld (x : Int × Int × Int × Int × Int) : v_laws_toHeld x = (x.1, (v_laws_toAction (x.2.1, x.2.2.1, x.2.2.2.1, x.2.2.2.2)).1, (v_laws_toAction (x.2.1, x.2.2.1, x.2.2.2.1, x.2.2.2.2)).2.1, (v_laws_toAction (x.2.1, x.2.2.1, x.2.2.2.1, x.2.2.2.2)).2.2.1, (v_laws_toAction (x.2.1, x.2.2.1, x.2.2.2.1, x.2.2.2.2)).2.2.2) := (vu_laws_toHeld x).trans (by kernel_rfl)
theorem oe_laws_toHeld (x : Int × Int × Int × Int × Int) : ok_laws_toHeld x = (ok_laws_toAction (x.2.1, x.2.2.1, x.2.2.2.1, x.2.2.2.2)) := (ou_laws_toHeld x).trans (by kernel_rfl)
theorem ve_laws_toHeldS (x : List (Int × Int × Int × Int × Int)) : v_laws_toHeldS x = (loopV (fun (x0 : ((List (Int × (Int × (Int × (Int × Int))))) × Int)) => (iLt x0.2 (lLen x))) (fun (x0 : ((List (Int × (Int × (Int × (Int × Int))))) × Int)) => ((lSet x0.1 (iNat x0.2) ((v_laws_toHeld ((lGet x (iNat x0.2) (0, 0, 0, 0, 0)).1, (lGet x (iNat x0.2) (0, 0, 0, 0, 0)).2.1, (lGet x (iNat x0.2) (0, 0, 0, 0, 0)).2.2.1, (lGet x (iNat x0.2) (0, 0, 0, 0, 0)).2.2.2.1, (lGet x (iNat x0.2) (0, 0, 0, 0, 0)).2.2.2.2)).1, (v_laws_toHeld ((lGet x (iNat x0.2) (0, 0, 0, 0, 0)).1, (lGet x (iNat x0.2) (0, 0, 0, 0, 0)).2.1, (lGet x (iNat x0.2) (0, 0, 0, 0, 0)).2.2.1, (lGet x (iNat x0.2) (0, 0, 0, 0, 0)).2.2.2.1, (lGet x (iNat x0.2) (0, 0, 0, 0, 0)).2.2.2.2)).2.1, (v_laws_toHeld ((lGet x (iNat x0.2) (0, 0, 0, 0, 0)).1, (lGet x (iNat x0.2) (0, 0, 0, 0, 0)).2.1, (lGet x (iNat x0.2) (0, 0, 0, 0, 0)).2.2.1, (lGet x (iNat x0.2) (0, 0, 0, 0, 0)).2.2.2.1, (lGet x (iNat x0.2) (0, 0, 0, 0, 0)).2.2.2.2)).2.2.1, (v_laws_toHeld ((lGet x (iNat x0.2) (0, 0, 0, 0, 0)).1, (lGet x (iNat x0.2) (0, 0, 0, 0, 0)).2.1, (lGet x (iNat x0.2) (0, 0, 0, 0, 0)).2.2.1, (lGet x (iNat x0.2) (0, 0, 0, 0, 0)).2.2.2.1, (lGet x (iNat x0.2) (0, 0, 0, 0, 0)).2.2.2.2)).2.2.2.1, (v_laws_toHeld ((lGet x (iNat x0.2) (0, 0, 0, 0, 0)).1, (lGet x (iNat x0.2) (0, 0, 0, 0, 0)).2.1, (lGet x (iNat x0.2) (0, 0, 0, 0, 0)).2.2.1, (lGet x (iNat x0.2) (0, 0, 0, 0, 0)).2.2.2.1, (lGet x (iNat x0.2) (0, 0, 0, 0, 0)).2.2.2.2)).2.2.2.2)), (iAdd Go.IntKind.i64 x0.2 1))) ((lRep (lLen x) (0, 0, 0, 0, 0)), 0)).1 := (vu_laws_toHeldS x).trans (by kernel_rfl)
theorem oe_laws_toHeldS (x : List (Int × Int × Int × Int × Int)) : ok_laws_toHeldS x = ((((0 : Int) ≤ (lLen x)) ∧ (roomy ((Int.toNat (lLen x)) * 5))) ∧ (LoopOk (fun (x0 : ((List (Int × (Int × (Int × (Int × Int))))) × Int)) => (iLt x0.2 (lLen x))) (fun (x0 : ((List (Int × (Int × (Int × (Int × Int))))) × Int)) => ((lSet x0.1 (iNat x0.2) ((v_laws_toHeld ((lGet x (iNat x0.2) (0, 0, 0, 0, 0)).1, (lGet x (iNat x0.2) (0, 0, 0, 0, 0)).2.1, (lGet x (iNat x0.2) (0, 0, 0, 0, 0)).2.2.1, (lGet x (iNat x0.2) (0, 0, 0, 0, 0)).2.2.2.1, (lGet x (iNat x0.2) (0, 0, 0, 0, 0)).2.2.2.2)).1, (v_laws_toHeld ((lGet x (iNat x0.2) (0, 0, 0, 0, 0)).1, (lGet x (iNat x0.2) (0, 0, 0, 0, 0)).2.1, (lGet x (iNat x0.2) (0, 0, 0, 0, 0)).2.2.1, (lGet x (iNat x0.2) (0, 0, 0, 0, 0)).2.2.2.1, (lGet x (iNat x0.2) (0, 0, 0, 0, 0)).2.2.2.2)).2.1, (v_laws_toHeld ((lGet x (iNat x0.2) (0, 0, 0, 0, 0)).1, (lGet x (iNat x0.2) (0, 0, 0, 0, 0)).2.1, (lGet x (iNat x0.2) (0, 0, 0, 0, 0)).2.2.1, (lGet x (iNat x0.2) (0, 0, 0, 0, 0)).2.2.2.1, (lGet x (iNat x0.2) (0, 0, 0, 0, 0)).2.2.2.2)).2.2.1, (v_laws_toHeld ((lGet x (iNat x0.2) (0, 0, 0, 0, 0)).1, (lGet x (iNat x0.2) (0, 0, 0, 0, 0)).2.1, (lGet x (iNat x0.2) (0, 0, 0, 0, 0)).2.2.1, (lGet x (iNat x0.2) (0, 0, 0, 0, 0)).2.2.2.1, (lGet x (iNat x0.2) (0, 0, 0, 0, 0)).2.2.2.2)).2.2.2.1, (v_laws_toHeld ((lGet x (iNat x0.2) (0, 0, 0, 0, 0)).1, (lGet x (iNat x0.2) (0, 0, 0, 0, 0)).2.1, (lGet x (iNat x0.2) (0, 0, 0, 0, 0)).2.2.1, (lGet x (iNat x0.2) (0, 0, 0, 0, 0)).2.2.2.1, (lGet x (iNat x0.2) (0, 0, 0, 0, 0)).2.2.2.2)).2.2.2.2)), (iAdd Go.IntKind.i64 x0.2 1))) (fun (x0 : ((List (Int × (Int × (Int × (Int × Int))))) × Int)) => (((iLt x0.2 (lLen x)) = true → ((((0 : Int) ≤ x0.2) ∧ (x0.2 < (((List.length x) : Int)))) ∧ (((iNat x0.2) < (List.length x)) ∧ ((ok_laws_toHeld ((lGet x (iNat x0.2) (0, 0, 0, 0, 0)).1, (lGet x (iNat x0.2) (0, 0, 0, 0, 0)).2.1, (lGet x (iNat x0.2) (0, 0, 0, 0, 0)).2.2.1, (lGet x (iNat x0.2) (0, 0, 0, 0, 0)).2.2.2.1, (lGet x (iNat x0.2) (0, 0, 0, 0, 0)).2.2.2.2)) ∧ ((((0 : Int) ≤ x0.2) ∧ (x0.2 < (((List.length x0.1) : Int)))) ∧ ((iNat x0.2) < (List.length x0.1))))))) ∧ ((iLt x0.2 (lLen x)) = false → True))) ((lRep (lLen x) (0, 0, 0, 0, 0)), 0))) := (ou_laws_toHeldS x).trans (by kernel_rfl)
theorem ve_spec_IsTapHold (x : Int × Int × Int × Int) : v_spec_IsTapHold x = (bAnd (v_spec_IsAction (x.1, x.2.1, x.2.2.1, x.2.2.2)) (bOr (iEq x.1 6) (iEq x.1 7))) := (vu_spec_IsTapHold x).trans (by kernel_rfl)
theorem oe_spec_IsTapHold (x : Int × Int × Int × Int) : ok_spec_IsTapHold x = (ok_spec_IsAction (x.1, x.2.1, x.2.2.1, x.2.2.2)) := (ou_spec_IsTapHold x).trans (by kernel_rfl)
theorem ve_spec_IsHeld (x : List (Int × Int × Int × Int × Int)) : v_spec_IsHeld x = (bNot (iLt (loopV (fun (x0 : (Int × Int)) => (bAnd (iLt x0.2 (lLen x)) (bNot (bOr (bNot (v_spec_l1In ((lGet x (iNat x0.2) (0, 0, 0, 0, 0)).1, 0, 31))) (bOr (iEq (iAnd Go.IntKind.i64 (iShr Go.IntKind.i64 x0.1 (lGet x (iNat x0.2) (0, 0, 0, 0, 0)).1) 1) 1) (bOr (bNot (v_spec_IsAction ((lGet x (iNat x0.2) (0, 0, 0, 0, 0)).2.1, (lGet x (iNat x0.2) (0, 0, 0, 0, 0)).2.2.1, (lGet x (iNat x0.2) (0, 0, 0, 0, 0)).2.2.2.1, (lGet x (iNat x0.2) (0, 0, 0, 0, 0)).2.2.2.2))) (bOr (iEq (lGet x (iNat x0.2) (0, 0, 0, 0, 0)).2.1 1) (v_spec_IsTapHold ((lGet x (iNat x0.2) (0, 0, 0, 0, 0)).2.1, (lGet x (iNat x0.2) (0, 0, 0, 0, 0)).2.2.1, (lGet x (iNat x0.2) (0, 0, 0, 0, 0)).2.2.2.1, (lGet x (iNat x0.2) (0, 0, 0, 0, 0)).2.2.2.2))))))))) (fun (x0 : (Int × Int)) => ((iOr Go.IntKind.i64 x0.1 (iShl Go.IntKind.i64 1 (lGet x (iNat x0.2) (0, 0, 0, 0, 0)).1)), (iAdd Go.IntKind.i64 x0.2 1))) (0, 0)).2 (lLen x))) := (vu_spec_IsHeld x).trans (by kernel_rfl)
theorem oe_spec_IsHeld (x : List (Int × Int × Int × Int × Int)) : ok_spec_IsHeld x = (LoopOk (fun (x0 : (Int × Int)) => (bAnd (iLt x0.2 (lLen x)) (bNot (bOr (bNot (v_spec_l1In ((lGet x (iNat x0.2) (0, 0, 0, 0, 0)).1, 0, 31))) (bOr (iEq (iAnd Go.IntKind.i64 (iShr Go.IntKind.i64 x0.1 (lGet x (iNat x0.2) (0, 0, 0, 0, 0)).1) 1) 1) (bOr (bNot (v_spec_IsAction ((lGet x (iNat x0.2) (0, 0, 0, 0, 0)).2.1, (lGet x (iNat x0.2) (0, 0, 0, 0, 0)).2.2.1, (lGet x (iNat x0.2) (0, 0, 0, 0, 0)).2.2.2.1, (lGet x (iNat x0.2) (0, 0, 0, 0, 0)).2.2.2.2))) (bOr (iEq (lGet x (iNat x0.2) (0, 0, 0, 0, 0)).2.1 1) (v_spec_IsTapHold ((lGet x (iNat x0.2) (0, 0, 0, 0, 0)).2.1, (lGet x (iNat x0.2) (0, 0, 0, 0, 0)).2.2.1, (lGet x (iNat x0.2) (0, 0, 0, 0, 0)).2.2.2.1, (lGet x (iNat x0.2) (0, 0, 0, 0, 0)).2.2.2.2))))))))) (fun (x0 : (Int × Int)) => ((iOr Go.IntKind.i64 x0.1 (iShl Go.IntKind.i64 1 (lGet x (iNat x0.2) (0, 0, 0, 0, 0)).1)), (iAdd Go.IntKind.i64 x0.2 1))) (fun (x0 : (Int × Int)) => (((iLt x0.2 (lLen x)) = true → ((((0 : Int) ≤ x0.2) ∧ (x0.2 < (((List.length x) : Int)))) ∧ (((iNat x0.2) < (List.length x)) ∧ (((((0 : Int) ≤ x0.2) ∧ (x0.2 < (((List.length x) : Int)))) ∧ (((iNat x0.2) < (List.length x)) ∧ ((ok_spec_l1In ((lGet x (iNat x0.2) (0, 0, 0, 0, 0)).1, 0, 31)) ∧ (((bNot (v_spec_l1In ((lGet x (iNat x0.2) (0, 0, 0, 0, 0)).1, 0, 31))) = true → True) ∧ ((bNot (v_spec_l1In ((lGet x (iNat x0.2) (0, 0, 0, 0, 0)).1, 0, 31))) = false → ((((0 : Int) ≤ x0.2) ∧ (x0.2 < (((List.length x) : Int)))) ∧ (((iNat x0.2) < (List.length x)) ∧ (((0 : Int) ≤ (lGet x (iNat x0.2) (0, 0, 0, 0, 0)).1) ∧ (((iEq (iAnd Go.IntKind.i64 (iShr Go.IntKind.i64 x0.1 (lGet x (iNat x0.2) (0, 0, 0, 0, 0)).1) 1) 1) = true → True) ∧ ((iEq (iAnd Go.IntKind.i64 (iShr Go.IntKind.i64 x0.1 (lGet x (iNat x0.2) (0, 0, 0, 0, 0)).1) 1) 1) = false → ((ok_spec_IsAction ((lGet x (iNat x0.2) (0, 0, 0, 0, 0)).2.1, (lGet x (iNat x0.2) (0, 0, 0, 0, 0)).2.2.1, (lGet x (iNat x0.2) (0, 0, 0, 0, 0)).2.2.2.1, (lGet x (iNat x0.2) (0, 0, 0, 0, 0)).2.2.2.2)) ∧ (((bNot (v_spec_IsAction ((lGet x (iNat x0.2) (0, 0, 0, 0, 0)).2.1, (lGet x (iNat x0.2) (0, 0, 0, 0, 0)).2.2.1, (lGet x (iNat x0.2) (0, 0, 0, 0, 0)).2.2.2.1, (lGet x (iNat x0.2) (0, 0, 0, 0, 0)).2.2.2.2))) = true → True) ∧ ((bNot (v_spec_IsAction ((lGet x (iNat x0.2) (0, 0, 0, 0, 0)).2.1, (lGet x (iNat x0.2) (0, 0, 0, 0, 0)).2.2.1, (lGet x (iNat x0.2) (0, 0, 0, 0, 0)).2.2.2.1, (lGet x (iNat x0.2) (0, 0, 0, 0, 0)).2.2.2.2))) = false → (((iEq (lGet x (iNat x0.2) (0, 0, 0, 0, 0)).2.1 1) = true → True) ∧ ((iEq (lGet x (iNat x0.2) (0, 0, 0, 0, 0)).2.1 1) = false → (ok_spec_IsTapHold ((lGet x (iNat x0.2) (0, 0, 0, 0, 0)).2.1, (lGet x (iNat x0.2) (0, 0, 0, 0, 0)).2.2.1, (lGet x (iNat x0.2) (0, 0, 0, 0, 0)).2.2.2.1, (lGet x (iNat x0.2) (0, 0, 0, 0, 0)).2.2.2.2))))))))))))))))) ∧ (((bOr (bNot (v_spec_l1In ((lGet x (iNat x0.2) (0, 0, 0, 0, 0)).1, 0, 31))) (bOr (iEq (iAnd Go.IntKind.i64 (iShr Go.IntKind.i64 x0.1 (lGet x (iNat x0.2) (0, 0, 0, 0, 0)).1) 1) 1) (bOr (bNot (v_spec_IsAction ((lGet x (iNat x0.2) (0, 0, 0, 0, 0)).2.1, (lGet x (iNat x0.2) (0, 0, 0, 0, 0)).2.2.1, (lGet x (iNat x0.2) (0, 0, 0, 0, 0)).2.2.2.1, (lGet x (iNat x0.2) (0, 0, 0, 0, 0)).2.2.2.2))) (bOr (iEq (lGet x (iNat x0.2) (0, 0, 0, 0, 0)).2.1 1) (v_spec_IsTapHold ((lGet x (iNat x0.2) (0, 0, 0, 0, 0)).2.1, (lGet x (iNat x0.2) (0, 0, 0, 0, 0)).2.2.1, (lGet x (iNat x0.2) (0, 0, 0, 0, 0)).2.2.2.1, (lGet x (iNat x0.2) (0, 0, 0, 0, 0)).2.2.2.2)))))) = true → True) ∧ ((bOr (bNot (v_spec_l1In ((lGet x (iNat x0.2) (0, 0, 0, 0, 0)).1, 0, 31))) (bOr (iEq (iAnd Go.IntKind.i64 (iShr Go.IntKind.i64 x0.1 (lGet x (iNat x0.2) (0, 0, 0, 0, 0)).1) 1) 1) (bOr (bNot (v_spec_IsAction ((lGet x (iNat x0.2) (0, 0, 0, 0, 0)).2.1, (lGet x (iNat x0.2) (0, 0, 0, 0, 0)).2.2.1, (lGet x (iNat x0.2) (0, 0, 0, 0, 0)).2.2.2.1, (lGet x (iNat x0.2) (0, 0, 0, 0, 0)).2.2.2.2))) (bOr (iEq (lGet x (iNat x0.2) (0, 0, 0, 0, 0)).2.1 1) (v_spec_IsTapHold ((lGet x (iNat x0.2) (0, 0, 0, 0, 0)).2.1, (lGet x (iNat x0.2) (0, 0, 0, 0, 0)).2.2.1, (lGet x (iNat x0.2) (0, 0, 0, 0, 0)).2.2.2.1, (lGet x (iNat x0.2) (0, 0, 0, 0, 0)).2.2.2.2)))))) = false → ((((0 : Int) ≤ x0.2) ∧ (x0.2 < (((List.length x) : Int)))) ∧ (((iNat x0.2) < (List.length x)) ∧ ((0 : Int) ≤ (lGet x (iNat x0.2) (0, 0, 0, 0, 0)).1))))))))) ∧ ((iLt x0.2 (lLen x)) = false → True))) (0, 0)) := (ou_spec_IsHeld x).trans (by kernel_rfl)
theorem ve_impl_bit (x : Int × Int) : v_impl_bit x = (iAnd Go.IntKind.i64 (iShr Go.IntKind.i64 x.1 x.2) 1) := (vu_impl_bit x).trans (by kernel_rfl)
theorem oe_impl_bit (x : Int × Int) : ok_impl_bit x = ((0 : Int) ≤ x.2) := (ou_impl_bit x).trans (by kernel_rfl)
theorem ve_impl_IsHeld (x : List (Int × Int × Int × Int × Int)) : v_impl_IsHeld x = (bNot (iLt (loopV (fun (x0 : (Int × Int)) => (bAnd (iLt x0.2 (lLen x)) (bAnd (bNot (bOr (iLt (lGet x (iNat x0.2) (0, 0, 0, 0, 0)).1 0) (bOr (iGt (lGet x (iNat x0.2) (0, 0, 0, 0, 0)).1 31) (bOr (iEq (v_impl_bit (x0.1, (lGet x (iNat x0.2) (0, 0, 0, 0, 0)).1)) 1) (bNot (v_impl_IsAction ((lGet x (iNat x0.2) (0, 0, 0, 0, 0)).2.1, (lGet x (iNat x0.2) (0, 0, 0, 0, 0)).2.2.1, (lGet x (iNat x0.2) (0, 0, 0, 0, 0)).2.2.2.1, (lGet x (iNat x0.2) (0, 0, 0, 0, 0)).2.2.2.2))))))) (bNot (bOr (iEq (lGet x (iNat x0.2) (0, 0, 0, 0, 0)).2.1 1) (bOr (iEq (lGet x (iNat x0.2) (0, 0, 0, 0, 0)).2.1 6) (iEq (lGet x (iNat x0.2) (0, 0, 0, 0, 0)).2.1 7))))))) (fun (x0 : (Int × Int)) => ((iOr Go.IntKind.i64 x0.1 (iShl Go.IntKind.i64 1 (lGet x (iNat x0.2) (0, 0, 0, 0, 0)).1)), (iAdd Go.IntKind.i64 x0.2 1))) (0, 0)).2 (lLen x))) := (vu_impl_IsHeld x).trans (by kernel_rfl)
theorem oe_impl_IsHeld (x : List (Int × Int × Int × Int × Int)) : ok_impl_IsHeld x = (LoopOk (fun (x0 : (Int × Int)) => (bAnd (iLt x0.2 (lLen x)) (bAnd (bNot (bOr (iLt (lGet x (iNat x0.2) (0, 0, 0, 0, 0)).1 0) (bOr (iGt (lGet x (iNat x0.2) (0, 0, 0, 0, 0)).1 31) (bOr (iEq (v_impl_bit (x0.1, (lGet x (iNat x0.2) (0, 0, 0, 0, 0)).1)) 1) (bNot (v_impl_IsAction ((lGet x (iNat x0.2) (0, 0, 0, 0, 0)).2.1, (lGet x (iNat x0.2) (0, 0, 0, 0, 0)).2.2.1, (lGet x (iNat x0.2) (0, 0, 0, 0, 0)).2.2.2.1, (lGet x (iNat x0.2) (0, 0, 0, 0, 0)).2.2.2.2))))))) (bNot (bOr (iEq (lGet x (iNat x0.2) (0, 0, 0, 0, 0)).2.1 1) (bOr (iEq (lGet x (iNat x0.2) (0, 0, 0, 0, 0)).2.1 6) (iEq (lGet x (iNat x0.2) (0, 0, 0, 0, 0)).2.1 7))))))) (fun (x0 : (Int × Int)) => ((iOr Go.IntKind.i64 x0.1 (iShl Go.IntKind.i64 1 (lGet x (iNat x0.2) (0, 0, 0, 0, 0)).1)), (iAdd Go.IntKind.i64 x0.2 1))) (fun (x0 : (Int × Int)) => (((iLt x0.2 (lLen x)) = true → ((((0 : Int) ≤ x0.2) ∧ (x0.2 < (((List.length x) : Int)))) ∧ (((iNat x0.2) < (List.length x)) ∧ ((((iLt (lGet x (iNat x0.2) (0, 0, 0, 0, 0)).1 0) = true → True) ∧ ((iLt (lGet x (iNat x0.2) (0, 0, 0, 0, 0)).1 0) = false → (((iGt (lGet x (iNat x0.2) (0, 0, 0, 0, 0)).1 31) = true → True) ∧ ((iGt (lGet x (iNat x0.2) (0, 0, 0, 0, 0)).1 31) = false → ((ok_impl_bit (x0.1, (lGet x (iNat x0.2) (0, 0, 0, 0, 0)).1)) ∧ (((iEq (v_impl_bit (x0.1, (lGet x (iNat x0.2) (0, 0, 0, 0, 0)).1)) 1) = true → True) ∧ ((iEq (v_impl_bit (x0.1, (lGet x (iNat x0.2) (0, 0, 0, 0, 0)).1)) 1) = false → (ok_impl_IsAction ((lGet x (iNat x0.2) (0, 0, 0, 0, 0)).2.1, (lGet x (iNat x0.2) (0, 0, 0, 0, 0)).2.2.1, (lGet x (iNat x0.2) (0, 0, 0, 0, 0)).2.2.2.1, (lGet x (iNat x0.2) (0, 0, 0, 0, 0)).2.2.2.2))))))))) ∧ (((bOr (iLt (lGet x (iNat x0.2) (0, 0, 0, 0, 0)).1 0) (bOr (iGt (lGet x (iNat x0.2) (0, 0, 0, 0, 0)).1 31) (bOr (iEq (v_impl_bit (x0.1, (lGet x (iNat x0.2) (0, 0, 0, 0, 0)).1)) 1) (bNot (v_impl_IsAction ((lGet x (iNat x0.2) (0, 0, 0, 0, 0)).2.1, (lGet x (iNat x0.2) (0, 0, 0, 0, 0)).2.2.1, (lGet x (iNat x0.2) (0, 0, 0, 0, 0)).2.2.2.1, (lGet x (iNat x0.2) (0, 0, 0, 0, 0)).2.2.2.2)))))) = true → True) ∧ ((bOr (iLt (lGet x (iNat x0.2) (0, 0, 0, 0, 0)).1 0) (bOr (iGt (lGet x (iNat x0.2) (0, 0, 0, 0, 0)).1 31) (bOr (iEq (v_impl_bit (x0.1, (lGet x (iNat x0.2) (0, 0, 0, 0, 0)).1)) 1) (bNot (v_impl_IsAction ((lGet x (iNat x0.2) (0, 0, 0, 0, 0)).2.1, (lGet x (iNat x0.2) (0, 0, 0, 0, 0)).2.2.1, (lGet x (iNat x0.2) (0, 0, 0, 0, 0)).2.2.2.1, (lGet x (iNat x0.2) (0, 0, 0, 0, 0)).2.2.2.2)))))) = false → (((bOr (iEq (lGet x (iNat x0.2) (0, 0, 0, 0, 0)).2.1 1) (bOr (iEq (lGet x (iNat x0.2) (0, 0, 0, 0, 0)).2.1 6) (iEq (lGet x (iNat x0.2) (0, 0, 0, 0, 0)).2.1 7))) = true → True) ∧ ((bOr (iEq (lGet x (iNat x0.2) (0, 0, 0, 0, 0)).2.1 1) (bOr (iEq (lGet x (iNat x0.2) (0, 0, 0, 0, 0)).2.1 6) (iEq (lGet x (iNat x0.2) (0, 0, 0, 0, 0)).2.1 7))) = false → ((0 : Int) ≤ (lGet x (iNat x0.2) (0, 0, 0, 0, 0)).1))))))))) ∧ ((iLt x0.2 (lLen x)) = false → True))) (0, 0)) := (ou_impl_IsHeld x).trans (by kernel_rfl)
theorem ve_laws_eqHeld (x : (Int × Int × Int × Int × Int) × (Int × Int × Int × Int × Int)) : v_laws_eqHeld x = (bAnd (bNot (iNe x.1.1 x.2.1)) (bNot (bNot (v_laws_eqAction ((x.1.2.1, x.1.2.2.1, x.1.2.2.2.1, x.1.2.2.2.2), x.2.2.1, x.2.2.2.1, x.2.2.2.2.1, x.2.2.2.2.2))))) := (vu_laws_eqHeld x).trans (by kernel_rfl)
theorem oe_laws_eqHeld (x : (Int × Int × Int × Int × Int) × (Int × Int × Int × Int × Int)) : ok_laws_eqHeld x = (((iNe x.1.1 x.2.1) = true → True) ∧ ((iNe x.1.1 x.2.1) = false → (ok_laws_eqAction ((x.1.2.1, x.1.2.2.1, x.1.2.2.2.1, x.1.2.2.2.2), x.2.2.1, x.2.2.2.1, x.2.2.2.2.1, x.2.2.2.2.2)))) := (ou_laws_eqHeld x).trans (by kernel_rfl)
theorem ve_laws_eqHeldS (x : (List (Int × Int × Int × Int × Int)) × (List (Int × Int × Int × Int × Int))) : v_laws_eqHeldS x = (bAnd (bNot (iNe (lLen x.1) (lLen x.2))) (bNot (iLt (loopV (fun (x0 : Int) => (bAnd (iLt x0 (lLen x.1)) (bNot (bNot (v_laws_eqHeld (((lGet x.1 (iNat x0) (0, 0, 0, 0, 0)).1, (lGet x.1 (iNat x0) (0, 0, 0, 0, 0)).2.1, (lGet x.1 (iNat x0) (0, 0, 0, 0, 0)).2.2.1, (lGet x.1 (iNat x0) (0, 0, 0, 0, 0)).2.2.2.1, (lGet x.1 (iNat x0) (0, 0, 0, 0, 0)).2.2.2.2), (lGet x.2 (iNat x0) (0, 0, 0, 0, 0)).1, (lGet x.2 (iNat x0) (0, 0, 0, 0, 0)).2.1, (lGet x.2 (iNat x0) (0, 0, 0, 0, 0)).2.2.1, (lGet x.2 (iNat x0) (0, 0, 0, 0, 0)).2.2.2.1, (lGet x.2 (iNat x0) (0, 0, 0, 0, 0)).2.2.2.2)))))) (fun (x0 : Int) => (iAdd Go.IntKind.i64 x0 1)) 0) (lLen x.1)))) := (vu_laws_eqHeldS x).trans (by kernel_rfl)
theorem oe_laws_eqHeldS (x : (List (Int × Int × Int × Int × Int)) × (List (Int × Int × Int × Int × Int))) : ok_laws_eqHeldS x = (((iNe (lLen x.1) (lLen x.2)) = true → True) ∧ ((iNe (lLen x.1) (lLen x.2)) = false → (LoopOk (fun (x0 : Int) => (bAnd (iLt x0 (lLen x.1)) (bNot (bNot (v_laws_eqHeld (((lGet x.1 (iNat x0) (0, 0, 0, 0, 0)).1, (lGet x.1 (iNat x0) (0, 0, 0, 0, 0)).2.1, (lGet x.1 (iNat x0) (0, 0, 0, 0, 0)).2.2.1, (lGet x.1 (iNat x0) (0, 0, 0, 0, 0)).2.2.2.1, (lGet x.1 (iNat x0) (0, 0, 0, 0, 0)).2.2.2.2), (lGet x.2 (iNat x0) (0, 0, 0, 0, 0)).1, (lGet x.2 (iNat x0) (0, 0, 0, 0, 0)).2.1, (lGet x.2 (iNat x0) (0, 0, 0, 0, 0)).2.2.1, (lGet x.2 (iNat x0) (0, 0, 0, 0, 0)).2.2.2.1, (lGet x.2 (iNat x0) (0, 0, 0, 0, 0)).2.2.2.2)))))) (fun (x0 : Int) => (iAdd Go.IntKind.i64 x0 1)) (fun (x0 : Int) => (((iLt x0 (lLen x.1)) = true → ((((0 : Int) ≤ x0) ∧ (x0 < (((List.length x.1) : Int)))) ∧ (((iNat x0) < (List.length x.1)) ∧ ((((0 : Int) ≤ x0) ∧ (x0 < (((List.length x.2) : Int)))) ∧ (((iNat x0) < (List.length x.2)) ∧ (ok_laws_eqHeld (((lGet x.1 (iNat x0) (0, 0, 0, 0, 0)).1, (lGet x.1 (iNat x0) (0, 0, 0, 0, 0)).2.1, (lGet x.1 (iNat x0) (0, 0, 0, 0, 0)).2.2.1, (lGet x.1 (iNat x0) (0, 0, 0, 0, 0)).2.2.2.1, (lGet x.1 (iNat x0) (0, 0, 0, 0, 0)).2.2.2.2), (lGet x.2 (iNat x0) (0, 0, 0, 0, 0)).1, (lGet x.2 (iNat x0) (0, 0, 0, 0, 0)).2.1, (lGet x.2 (iNat x0) (0, 0, 0, 0, 0)).2.2.1, (lGet x.2 (iNat x0) (0, 0, 0, 0, 0)).2.2.2.1, (lGet x.2 (iNat x0) (0, 0, 0, 0, 0)).2.2.2.2))))))) ∧ ((iLt x0 (lLen x.1)) = false → True))) 0))) := (ou_laws_eqHeldS x).trans (by kernel_rfl)
end
def sm_Action (_ : Int × Int × Int × Int) : Prop := True
def wl_Action (_ : Int × Int × Int × Int) : Prop := True
theorem eq_Action (a b : Int × Int × Int × Int) (h : sm_Action a) : ok_laws_eqAction (a, b) ∧ (v_laws_eqAction (a, b) = true ↔ a = b) := by
  obtain ⟨a0, a1, a2, a3⟩ := a
  obtain ⟨b0, b1, b2, b3⟩ := b
  rw [oe_laws_eqAction, ve_laws_eqAction]
  refine ⟨by simp, ?_⟩
  simp only [bNot_eq, bAnd_eq, bIff_eq, iNe_eq, Bool.and_eq_true, Bool.not_not, decide_eq_true_eq, Prod.mk.injEq, beq_iff_eq]
  try (constructor <;> intro h <;> simp_all)
def sm_Held (x : Int × Int × Int × Int × Int) : Prop := sm_Action (x.2.1, x.2.2.1, x.2.2.2.1, x.2.2.2.2) ∧ True
def wl_Held (x : Int × Int × Int × Int × Int) : Prop := wl_Action (x.2.1, x.2.2.1, x.2.2.2.1, x.2.2.2.2) ∧ True
def sm_HeldS (x : List (Int × Int × Int × Int × Int)) : Prop := x.length ≤ 1048576 ∧ ∀ a ∈ x, sm_Held a
def wl_HeldS (x : List (Int × Int × Int × Int × Int)) : Prop := x.length ≤ 9223372036854775807 ∧ ∀ a ∈ x, wl_Held a
theorem sz_HeldS (x : List (Int × Int × Int × Int × Int)) (hw : wl_HeldS x) (l : Int) (h0 : 0 ≤ l) (h1 : l ≤ 1048576) : ok_laws_szHeldS (x, l) ∧ (v_laws_szHeldS (x, l) < 0 ∨ (0 ≤ v_laws_szHeldS (x, l) ∧ v_laws_szHeldS (x, l) ≤ l ∧ sm_HeldS x)) := by
  rw [oe_laws_szHeldS, ve_laws_szHeldS]
  have hl : x.length ≤ 9223372036854775807 := hw.1
  have hs : iSub .i64 l (lLen x) = l - x.length := by rw [lLen_eq]; exact iSub_i64 (by unfold In64; omega)
  refine ⟨trivial, ?_⟩
  simp only [hs, iLt_eq, bSel_eq, decide_eq_true_eq]
  split
  · left; omega
  · right; exact ⟨by omega, by omega, ⟨by omega, fun a _ => by simp [sm_Held, sm_Action]⟩⟩
theorem to_Action (x : Int × Int × Int × Int) (h : sm_Action x) : ok_laws_toAction x ∧ v_laws_toAction x = x := by
  rw [oe_laws_toAction, ve_laws_toAction]
  exact ⟨trivial, rfl⟩
theorem to_Held (x : Int × Int × Int × Int × Int) (h : sm_Held x) : ok_laws_toHeld x ∧ v_laws_toHeld x = x := by
  rw [oe_laws_toHeld, ve_laws_toHeld]
  have k0 := to_Action (x.2.1, x.2.2.1, x.2.2.2.1, x.2.2.2.2) (by unfold sm_Held at h; exact h.1)
  refine ⟨k0.1, ?_⟩
  simp only [k0.2]
theorem to_HeldS (x : List (Int × Int × Int × Int × Int)) (h : sm_HeldS x) : ok_laws_toHeldS x ∧ v_laws_toHeldS x = x := by
  rw [oe_laws_toHeldS, ve_laws_toHeldS]
  obtain ⟨h1, h2⟩ := h
  have hY : ∀ i : Nat, i < x.length → ok_laws_toHeld ((x.getD i (0, 0, 0, 0, 0)).1, (x.getD i (0, 0, 0, 0, 0)).2.1, (x.getD i (0, 0, 0, 0, 0)).2.2.1, (x.getD i (0, 0, 0, 0, 0)).2.2.2.1, (x.getD i (0, 0, 0, 0, 0)).2.2.2.2) ∧ v_laws_toHeld ((x.getD i (0, 0, 0, 0, 0)).1, (x.getD i (0, 0, 0, 0, 0)).2.1, (x.getD i (0, 0, 0, 0, 0)).2.2.1, (x.getD i (0, 0, 0, 0, 0)).2.2.2.1, (x.getD i (0, 0, 0, 0, 0)).2.2.2.2) = x.getD i (0, 0, 0, 0, 0) := fun i hi => to_Held _ (h2 _ (getD_mem x i (0, 0, 0, 0, 0) hi))
  refine ⟨⟨⟨by rw [lLen_eq]; omega, roomy_of (by rw [lLen_eq]; omega) (by rw [lLen_eq]; omega) (by omega)⟩, copyg_ok x (0, 0, 0, 0, 0) (0, 0, 0, 0, 0) h1 (fun _ => rfl) (fun l i hi => by simp only [lSet_eq, lGet_eq, iNat_eq, Int.toNat_natCast]; rw [(hY i hi).2]) (fun l i hl hi => ?_)⟩, copyg_v x (0, 0, 0, 0, 0) (0, 0, 0, 0, 0) h1 (fun _ => rfl) (fun l i hi => by simp only [lSet_eq, lGet_eq, iNat_eq, Int.toNat_natCast]; rw [(hY i hi).2])⟩
  simp only [iLt_eq, lLen_eq, iNat_eq, lGet_eq, decide_eq_true_eq, Int.toNat_natCast]
  exact ⟨fun hh => ⟨by omega, by omega, (hY i (by omega)).1, by omega, by omega⟩, fun _ => trivial⟩
theorem eq_Held (a b : Int × Int × Int × Int × Int) (h : sm_Held a) : ok_laws_eqHeld (a, b) ∧ (v_laws_eqHeld (a, b) = true ↔ a = b) := by
  obtain ⟨a0, a1, a2, a3, a4⟩ := a
  obtain ⟨b0, b1, b2, b3, b4⟩ := b
  have k0 := eq_Action (a1, a2, a3, a4) (b1, b2, b3, b4) (by unfold sm_Held at h; exact h.1)
  rw [oe_laws_eqHeld, ve_laws_eqHeld]
  refine ⟨by simp [k0.1, k0.2], ?_⟩
  simp only [k0.1, k0.2, bNot_eq, bAnd_eq, bIff_eq, iNe_eq, Bool.and_eq_true, Bool.not_not, decide_eq_true_eq, Prod.mk.injEq, beq_iff_eq]
  try (constructor <;> intro h <;> simp_all)
theorem eq_HeldS (a b : List (Int × Int × Int × Int × Int)) (h : sm_HeldS a) : ok_laws_eqHeldS (a, b) ∧ (v_laws_eqHeldS (a, b) = true ↔ a = b) := by
  rw [oe_laws_eqHeldS, ve_laws_eqHeldS]
  obtain ⟨h1, h2⟩ := h
  have hY : ∀ i : Nat, i < a.length → ok_laws_eqHeld (((lGet a i (0, 0, 0, 0, 0)).1, (lGet a i (0, 0, 0, 0, 0)).2.1, (lGet a i (0, 0, 0, 0, 0)).2.2.1, (lGet a i (0, 0, 0, 0, 0)).2.2.2.1, (lGet a i (0, 0, 0, 0, 0)).2.2.2.2), ((lGet b i (0, 0, 0, 0, 0)).1, (lGet b i (0, 0, 0, 0, 0)).2.1, (lGet b i (0, 0, 0, 0, 0)).2.2.1, (lGet b i (0, 0, 0, 0, 0)).2.2.2.1, (lGet b i (0, 0, 0, 0, 0)).2.2.2.2)) ∧ (v_laws_eqHeld (((lGet a i (0, 0, 0, 0, 0)).1, (lGet a i (0, 0, 0, 0, 0)).2.1, (lGet a i (0, 0, 0, 0, 0)).2.2.1, (lGet a i (0, 0, 0, 0, 0)).2.2.2.1, (lGet a i (0, 0, 0, 0, 0)).2.2.2.2), ((lGet b i (0, 0, 0, 0, 0)).1, (lGet b i (0, 0, 0, 0, 0)).2.1, (lGet b i (0, 0, 0, 0, 0)).2.2.1, (lGet b i (0, 0, 0, 0, 0)).2.2.2.1, (lGet b i (0, 0, 0, 0, 0)).2.2.2.2)) = true ↔ a.getD i (0, 0, 0, 0, 0) = b.getD i (0, 0, 0, 0, 0)) := fun i hi => by
    have := eq_Held (a.getD i (0, 0, 0, 0, 0)) (b.getD i (0, 0, 0, 0, 0)) (h2 _ (getD_mem a i (0, 0, 0, 0, 0) hi))
    rw [lGet_eq, lGet_eq]; exact this
  by_cases hl : a.length = b.length
  · refine ⟨⟨fun _ => trivial, fun _ => eq_ok a b (0, 0, 0, 0, 0) (fun i => bNot (v_laws_eqHeld (((lGet a i (0, 0, 0, 0, 0)).1, (lGet a i (0, 0, 0, 0, 0)).2.1, (lGet a i (0, 0, 0, 0, 0)).2.2.1, (lGet a i (0, 0, 0, 0, 0)).2.2.2.1, (lGet a i (0, 0, 0, 0, 0)).2.2.2.2), ((lGet b i (0, 0, 0, 0, 0)).1, (lGet b i (0, 0, 0, 0, 0)).2.1, (lGet b i (0, 0, 0, 0, 0)).2.2.1, (lGet b i (0, 0, 0, 0, 0)).2.2.2.1, (lGet b i (0, 0, 0, 0, 0)).2.2.2.2)))) hl (fun i hi => by simp only [bNot_eq, Bool.not_eq_false', (hY i hi).2]) (by omega) (fun i hi => by simp only [bAnd_eq, iLt_eq, lLen_eq, iNat_eq, bNot_eq, Int.toNat_natCast, Int.ofNat_lt]) (fun i hi => rfl) (fun i hi => ?_)⟩, ?_⟩
    · simp only [iLt_eq, lLen_eq, iNat_eq, decide_eq_true_eq, Int.toNat_natCast]
      exact ⟨fun hh => ⟨by omega, by omega, by omega, by omega, (hY i (by omega)).1⟩, fun _ => trivial⟩
    · have hv := eq_v (c := fun i : Int => bAnd (iLt i (lLen a)) (bNot ((fun i => bNot (v_laws_eqHeld (((lGet a i (0, 0, 0, 0, 0)).1, (lGet a i (0, 0, 0, 0, 0)).2.1, (lGet a i (0, 0, 0, 0, 0)).2.2.1, (lGet a i (0, 0, 0, 0, 0)).2.2.2.1, (lGet a i (0, 0, 0, 0, 0)).2.2.2.2), ((lGet b i (0, 0, 0, 0, 0)).1, (lGet b i (0, 0, 0, 0, 0)).2.1, (lGet b i (0, 0, 0, 0, 0)).2.2.1, (lGet b i (0, 0, 0, 0, 0)).2.2.2.1, (lGet b i (0, 0, 0, 0, 0)).2.2.2.2)))) i.toNat))) (f := fun i => iAdd .i64 i 1) a b (0, 0, 0, 0, 0) (fun i => bNot (v_laws_eqHeld (((lGet a i (0, 0, 0, 0, 0)).1, (lGet a i (0, 0, 0, 0, 0)).2.1, (lGet a i (0, 0, 0, 0, 0)).2.2.1, (lGet a i (0, 0, 0, 0, 0)).2.2.2.1, (lGet a i (0, 0, 0, 0, 0)).2.2.2.2), ((lGet b i (0, 0, 0, 0, 0)).1, (lGet b i (0, 0, 0, 0, 0)).2.1, (lGet b i (0, 0, 0, 0, 0)).2.2.1, (lGet b i (0, 0, 0, 0, 0)).2.2.2.1, (lGet b i (0, 0, 0, 0, 0)).2.2.2.2)))) hl (fun i hi => by simp only [bNot_eq, Bool.not_eq_false', (hY i hi).2]) (by omega) (fun i hi => by simp only [bAnd_eq, iLt_eq, lLen_eq, bNot_eq, Int.toNat_natCast, Int.ofNat_lt]) (fun i hi => rfl)
      have e1 : bNot (iNe (lLen a) (lLen b)) = true := by rw [bNot_eq, iNe_eq, lLen_eq, lLen_eq, hl]; simp
      rw [e1, bAnd_eq true, Bool.true_and, bNot_eq (iLt _ (lLen a)), iLt_eq _ (lLen a)]
      simp only [← iNat_eq, lLen_eq] at hv ⊢
      simp only [Bool.not_eq_true', decide_eq_false_iff_not]
      rw [hv]; simp
  · have e1 : bNot (iNe (lLen a) (lLen b)) = false := by rw [bNot_eq, iNe_eq, lLen_eq, lLen_eq]; simp; omega
    refine ⟨⟨fun _ => trivial, fun h => ?_⟩, ?_⟩
    · rw [bNot_eq] at e1; rw [h] at e1; cases e1
    · rw [e1, bAnd_eq, Bool.false_and]; constructor
      · intro h; cases h
      · intro e; subst e; exact absurd rfl hl
theorem ok_TapHold (x) : ok_spec_IsTapHold x := by rw [oe_spec_IsTapHold]; exact ok_spec_IsAction_t _
theorem isHeld_eq (x : List (Int × Int × Int × Int × Int)) : v_spec_IsHeld x = v_impl_IsHeld x := by
  rw [ve_spec_IsHeld, ve_impl_IsHeld]
  have : ∀ {c c' : Int × Int → Bool} {f : Int × Int → Int × Int} {a : Int × Int} {n : Int}, (∀ x, c x = c' x) → bNot (iLt (loopV c f a).2 n) = bNot (iLt (loopV c' f a).2 n) := by
    intro c c' f a n h; rw [funext h]
  apply this
  intro st
  rw [Bool.eq_iff_iff]
  simp only [ve_spec_IsTapHold, isAction_eq, l1In_eq, ve_impl_bit, bNot_eq, bAnd_eq, bOr_eq, iEq_eq, iLt_eq, iGt_eq, Bool.and_eq_true, Bool.or_eq_true, Bool.not_eq_true', Bool.not_eq_false', Bool.and_eq_false_iff, Bool.or_eq_false_iff, decide_eq_true_eq, decide_eq_false_iff_not, Bool.not_eq_true, Bool.not_eq_false, beq_iff_eq, beq_eq_false_iff_ne]
  generalize v_impl_IsAction _ = A
  cases A <;> simp <;> omega
theorem ok_spec_IsHeld_t (x : List (Int × Int × Int × Int × Int)) (h : x.length ≤ 1048576) : ok_spec_IsHeld x := by
  rw [oe_spec_IsHeld]
  refine cnt_ok (fun st => st.2) x.length (by omega) (fun st _ _ hc => ?_) (fun st => rfl) (fun st h0 h1 => ?_) (by simp) (by simp)
  · simp only [bAnd_eq, iLt_eq, lLen_eq, Bool.and_eq_true, decide_eq_true_eq] at hc
    exact hc.1
  · refine ⟨fun hlt => ?_, fun _ => trivial⟩
    simp only [iLt_eq, lLen_eq, decide_eq_true_eq] at hlt
    have h3 : st.2.toNat < x.length := by omega
    simp only [l1In_eq, iNat_eq, h3, h0, hlt, ok_l1In, ok_TapHold, ok_spec_IsAction_t, true_and, implies_true, and_true, bNot_eq, bOr_eq, Bool.and_eq_true, Bool.or_eq_true, Bool.not_eq_true', Bool.not_eq_false', Bool.and_eq_false_iff, Bool.or_eq_false_iff, decide_eq_true_eq, decide_eq_false_iff_not, Bool.not_eq_true, Bool.not_eq_false, beq_iff_eq, beq_eq_false_iff_ne, Bool.not_eq_false', Bool.or_eq_false_iff]
    exact ⟨fun hh => hh.1, fun hh => hh.1.1⟩
theorem ok_impl_IsHeld_t (x : List (Int × Int × Int × Int × Int)) (h : x.length ≤ 1048576) : ok_impl_IsHeld x := by
  rw [oe_impl_IsHeld]
  refine cnt_ok (fun st => st.2) x.length (by omega) (fun st _ _ hc => ?_) (fun st => rfl) (fun st h0 h1 => ?_) (by simp) (by simp)
  · simp only [bAnd_eq, iLt_eq, lLen_eq, Bool.and_eq_true, decide_eq_true_eq] at hc
    exact hc.1
  · refine ⟨fun hlt => ?_, fun _ => trivial⟩
    simp only [iLt_eq, lLen_eq, decide_eq_true_eq] at hlt
    have h3 : st.2.toNat < x.length := by omega
    simp only [oe_impl_bit, iNat_eq, h3, h0, hlt, ok_impl_IsAction_t, true_and, implies_true, and_true, iLt_eq, iGt_eq, bNot_eq, bOr_eq, Bool.and_eq_true, Bool.or_eq_true, Bool.not_eq_true', Bool.not_eq_false', Bool.and_eq_false_iff, Bool.or_eq_false_iff, decide_eq_true_eq, decide_eq_false_iff_not, Bool.not_eq_true, Bool.not_eq_false, beq_iff_eq, beq_eq_false_iff_ne, Bool.not_eq_false', Bool.or_eq_false_iff]
    refine ⟨fun h4 h5 => by omega, fun h4 h5 => by omega⟩
def HeldOk (h : Int × Int × Int × Int × Int) : Prop := 0 ≤ h.1 ∧ h.1 ≤ 31 ∧ v_impl_IsAction h.2 = true ∧ h.2.1 ≠ 1 ∧ h.2.1 ≠ 6 ∧ h.2.1 ≠ 7
theorem isHeld_all {x : List (Int × Int × Int × Int × Int)} (hl : x.length ≤ 1048576) (h : v_impl_IsHeld x = true) : ∀ a ∈ x, HeldOk a := by
  rw [ve_impl_IsHeld, bNot_eq, Bool.not_eq_true', iLt_eq _ (lLen x), decide_eq_false_iff_not] at h
  have key := loop_inv_v (c := fun x0 : Int × Int => (bAnd (iLt x0.2 (lLen x)) (bAnd (bNot (bOr (iLt (lGet x (iNat x0.2) (0, 0, 0, 0, 0)).1 0) (bOr (iGt (lGet x (iNat x0.2) (0, 0, 0, 0, 0)).1 31) (bOr (iEq (v_impl_bit (x0.1, (lGet x (iNat x0.2) (0, 0, 0, 0, 0)).1)) 1) (bNot (v_impl_IsAction ((lGet x (iNat x0.2) (0, 0, 0, 0, 0)).2.1, (lGet x (iNat x0.2) (0, 0, 0, 0, 0)).2.2.1, (lGet x (iNat x0.2) (0, 0, 0, 0, 0)).2.2.2.1, (lGet x (iNat x0.2) (0, 0, 0, 0, 0)).2.2.2.2))))))) (bNot (bOr (iEq (lGet x (iNat x0.2) (0, 0, 0, 0, 0)).2.1 1) (bOr (iEq (lGet x (iNat x0.2) (0, 0, 0, 0, 0)).2.1 6) (iEq (lGet x (iNat x0.2) (0, 0, 0, 0, 0)).2.1 7)))))))
    (f := fun x0 => ((iOr Go.IntKind.i64 x0.1 (iShl Go.IntKind.i64 1 (lGet x (iNat x0.2) (0, 0, 0, 0, 0)).1)), (iAdd Go.IntKind.i64 x0.2 1)))
    (fun st => ∃ i : Nat, st.2 = i ∧ i ≤ x.length ∧ ∀ j, j < i → HeldOk (x.getD j (0, 0, 0, 0, 0))) (fun st => x.length - st.2.toNat) (fun st hI hc => ?_) (x0 := (0, 0)) ⟨0, rfl, Nat.zero_le _, fun j hj => by omega⟩
  · obtain ⟨⟨i, k1, k2, k3⟩, _⟩ := key
    rw [k1, lLen_eq] at h
    have : i = x.length := by omega
    subst this
    intro a ha
    obtain ⟨j, hj, rfl⟩ := List.getElem_of_mem ha
    have := k3 j hj
    rw [List.getD_eq_getElem?_getD, List.getElem?_eq_getElem hj] at this
    exact this
  · obtain ⟨i, k1, k2, k3⟩ := hI
    obtain ⟨s, j⟩ := st
    simp only at k1
    subst k1
    simp only [bAnd_eq, bNot_eq, bOr_eq, iLt_eq, iGt_eq, iEq_eq, lLen_eq, lGet_eq, iNat_eq, Int.toNat_natCast, Bool.and_eq_true, Bool.not_eq_true', Bool.or_eq_false_iff, decide_eq_true_eq, decide_eq_false_iff_not, Bool.not_eq_false'] at hc
    obtain ⟨c1, ⟨c2, c3, _, c5⟩, c6, c7, c8⟩ := hc
    refine ⟨⟨i + 1, ?_, by omega, fun j hj => ?_⟩, ?_⟩
    · simp only; rw [iAdd_i64 (by unfold In64; omega)]; omega
    · by_cases hji : j = i
      · subst hji; exact ⟨by omega, by omega, c5, c6, c7, c8⟩
      · exact k3 j (by omega)
    · simp only; rw [iAdd_i64 (by unfold In64; omega)]; omega
section
set_option maxRecDepth 8000
noncomputable def dc_laws_eqIntS : DCode :=
  (.seq [1, 0] (.region [oa 0 4 (.mv (.c (.bool false)))])
  (.seq [1, 0] (.seq [10, 1, 0] (.region [on 0 6 0,
 oa 1 7 (.len (.t 6)),
 on 2 8 1,
 oa 3 9 (.len (.t 8)),
 oa 4 10 (.bin .neq (.t 7) (.t 9))])
  (.cond (.t 10) (.seq [4] (.region [oa 0 4 (.mv (.c (.bool false)))])
  .ret) .skip))
  (.seq [] (.seq [5, 1, 0] (.region [oi 0 5 0])
  (.block 0 (.loop [0, 1, 5] 1 (.seq [5, 1, 0] (.seq [14, 5, 1, 0] (.region [om 0 11 5,
 on 1 12 0,
 oa 2 13 (.len (.t 12)),
 oa 3 14 (.bin .lss (.t 11) (.t 13))])
  (.cond (.t 14) .skip (.exit 0)))
  (.seq [5, 1, 0] (.block 1 (.seq [25, 5, 1, 0] (.region [on 0 17 0,
 om 1 18 5,
 xA 2 19 (.indexA 1 (.t 17) (.t 18)) (rg 2),
 xA 3 20 (.loadH none (.t 19)) (rg 3),
 on 4 21 1,
 om 5 22 5,
 xA 6 23 (.indexA 1 (.t 21) (.t 22)) [4, 5],
 xA 7 24 (.loadH none (.t 23)) [4, 5, 6],
 xA 8 25 (.bin .neq (.t 20) (.t 24)) (rg 8)])
  (.cond (.t 25) (.seq [4] (.region [oa 0 4 (.mv (.c (.bool false)))])
  .ret) .skip)))
  (.region [om 0 15 5,
 oa 1 16 (.bin .add (.t 15) (.c (.int .i64 1))),
 om 2 5 16]))))))
  (.seq [4] (.region [oa 0 4 (.mv (.c (.bool true)))])
  .ret))))
noncomputable def df_laws_eqIntS : DFun := ⟨2, 26, 0, true, [.tmp 4], dc_laws_eqIntS⟩
noncomputable def pf_laws_eqIntS : PFun := df_laws_eqIntS.er
noncomputable def f_laws_eqIntS : AFun := pf_laws_eqIntS.er
@[irreducible] noncomputable def s_laws_eqIntS : CallSem := funSem f_laws_eqIntS
@[irreducible] noncomputable def p_laws_eqIntS : PSem := pfunSem pf_laws_eqIntS
theorem sp_laws_eqIntS : SoundP s_laws_eqIntS p_laws_eqIntS := by unfold s_laws_eqIntS p_laws_eqIntS; exact pfun_sound (f := pf_laws_eqIntS) trivial
def h_laws_eqIntS : List HT := [.one .frz (.sl (.one (.int .i64))), .one .frz (.sl (.one (.int .i64)))]
def q_laws_eqIntS : QT := .one (.one .own (.bool))
@[irreducible] noncomputable def v_laws_eqIntS (x : List (Int) × List (Int)) : Bool := (shut fun x => fnV df_laws_eqIntS h_laws_eqIntS q_laws_eqIntS x).1 x
@[irreducible] noncomputable def ok_laws_eqIntS (x : List (Int) × List (Int)) : Prop := (shut fun x => fnOk df_laws_eqIntS h_laws_eqIntS q_laws_eqIntS x).1 x
theorem vu_laws_eqIntS (x : List (Int) × List (Int)) : v_laws_eqIntS x = fnV df_laws_eqIntS h_laws_eqIntS q_laws_eqIntS x := by unfold v_laws_eqIntS; exact congrFun (shut _).2 x
theorem ou_laws_eqIntS (x : List (Int) × List (Int)) : ok_laws_eqIntS x = fnOk df_laws_eqIntS h_laws_eqIntS q_laws_eqIntS x := by unfold ok_laws_eqIntS; exact congrFun (shut _).2 x
noncomputable def D_laws_eqIntS : DSem := DSemOf h_laws_eqIntS q_laws_eqIntS ok_laws_eqIntS v_laws_eqIntS
theorem ck_laws_eqIntS (x : List (Int) × List (Int)) : fnChk df_laws_eqIntS h_laws_eqIntS q_laws_eqIntS x = true := by kernel_rfl
theorem ob_laws_eqIntS : AllD df_laws_eqIntS.body.obs := trivial
theorem st_laws_eqIntS : fnSt df_laws_eqIntS h_laws_eqIntS q_laws_eqIntS = true := by kernel_rfl
theorem sd_laws_eqIntS : SoundD p_laws_eqIntS D_laws_eqIntS := by unfold p_laws_eqIntS; exact soundD_of (f := df_laws_eqIntS) (hs := h_laws_eqIntS) (q := q_laws_eqIntS) ob_laws_eqIntS st_laws_eqIntS ck_laws_eqIntS (fun x h => Eq.mp (ou_laws_eqIntS x) h) (fun x => (vu_laws_eqIntS x).symm)
noncomputable def dc_laws_eqReport : DCode :=
  (.seq [3, 2] (.region [oa 0 2 (.boxB 0 2 (.t 0)),
 oa 1 3 (.boxB 1 2 (.t 1)),
 oa 2 4 (.mv (.c (.bool false)))])
  (.seq [3, 2] (.seq [9, 3, 2] (.region [oa 0 5 (.fieldA 0 (.t 2)),
 oa 1 6 (.loadB 0 none (.t 5)),
 oa 2 7 (.fieldA 0 (.t 3)),
 oa 3 8 (.loadB 1 none (.t 7)),
 oa 4 9 (.bin .neq (.t 6) (.t 8))])
  (.cond (.t 9) (.seq [4] (.region [oa 0 4 (.mv (.c (.bool false)))])
  .ret) .skip))
  (.seq [] (.seq [15] (.region [oa 0 10 (.fieldA 1 (.t 2)),
 oa 1 11 (.loadB 0 none (.t 10)),
 oa 2 12 (.fieldA 1 (.t 3)),
 oa 3 13 (.loadB 1 none (.t 12)),
 oc 4 14 s_laws_eqIntS p_laws_eqIntS D_laws_eqIntS [(.t 11), (.t 13)],
 oa 5 15 (.un .not (.t 14))])
  (.cond (.t 15) (.seq [4] (.region [oa 0 4 (.mv (.c (.bool false)))])
  .ret) .skip))
  (.seq [4] (.region [oa 0 4 (.mv (.c (.bool true)))])
  .ret))))
noncomputable def df_laws_eqReport : DFun := ⟨2, 16, 2, true, [.tmp 4], dc_laws_eqReport⟩
noncomputable def pf_laws_eqReport : PFun := df_laws_eqReport.er
noncomputable def f_laws_eqReport : AFun := pf_laws_eqReport.er
@[irreducible] noncomputable def s_laws_eqReport : CallSem := funSem f_laws_eqReport
@[irreducible] noncomputable def p_laws_eqReport : PSem := pfunSem pf_laws_eqReport
theorem sp_laws_eqReport : SoundP s_laws_eqReport p_laws_eqReport := by unfold s_laws_eqReport p_laws_eqReport; exact pfun_sound (f := pf_laws_eqReport) ⟨sp_laws_eqIntS, trivial⟩
def h_laws_eqReport : List HT := [.agg [(.frz, .int .i64), (.frz, .sl (.one (.int .i64)))], .agg [(.frz, .int .i64), (.frz, .sl (.one (.int .i64)))]]
def q_laws_eqReport : QT := .one (.one .own (.bool))
@[irreducible] noncomputable def v_laws_eqReport (x : (Int × List (Int)) × (Int × List (Int))) : Bool := (shut fun x => fnV df_laws_eqReport h_laws_eqReport q_laws_eqReport x).1 x
@[irreducible] noncomputable def ok_laws_eqReport (x : (Int × List (Int)) × (Int × List (Int))) : Prop := (shut fun x => fnOk df_laws_eqReport h_laws_eqReport q_laws_eqReport x).1 x
theorem vu_laws_eqReport (x : (Int × List (Int)) × (Int × List (Int))) : v_laws_eqReport x = fnV df_laws_eqReport h_laws_eqReport q_laws_eqReport x := by unfold v_laws_eqReport; exact congrFun (shut _).2 x
theorem ou_laws_eqReport (x : (Int × List (Int)) × (Int × List (Int))) : ok_laws_eqReport x = fnOk df_laws_eqReport h_laws_eqReport q_laws_eqReport x := by unfold ok_laws_eqReport; exact congrFun (shut _).2 x
noncomputable def D_laws_eqReport : DSem := DSemOf h_laws_eqReport q_laws_eqReport ok_laws_eqReport v_laws_eqReport
theorem ck_laws_eqReport (x : (Int × List (Int)) × (Int × List (Int))) : fnChk df_laws_eqReport h_laws_eqReport q_laws_eqReport x = true := by kernel_rfl
theorem ob_laws_eqReport : AllD df_laws_eqReport.body.obs := ⟨sd_laws_eqIntS, trivial⟩
theorem st_laws_eqReport : fnSt df_laws_eqReport h_laws_eqReport q_laws_eqReport = true := by kernel_rfl
theorem sd_laws_eqReport : SoundD p_laws_eqReport D_laws_eqReport := by unfold p_laws_eqReport; exact soundD_of (f := df_laws_eqReport) (hs := h_laws_eqReport) (q := q_laws_eqReport) ob_laws_eqReport st_laws_eqReport ck_laws_eqReport (fun x h => Eq.mp (ou_laws_eqReport x) h) (fun x => (vu_laws_eqReport x).symm)
end
section
set_option maxRecDepth 100000
theorem ve_laws_eqIntS (x : List (Int) × List (Int)) : v_laws_eqIntS x = (bAnd (bNot (iNe (lLen x.1) (lLen x.2))) (bNot (iLt (loopV (fun (x0 : Int) => (bAnd (iLt x0 (lLen x.1)) (bNot (iNe (lGet x.1 (iNat x0) 0) (lGet x.2 (iNat x0) 0))))) (fun (x0 : Int) => (iAdd Go.IntKind.i64 x0 1)) 0) (lLen x.1)))) := (vu_laws_eqIntS x).trans (by kernel_rfl)
theorem oe_laws_eqIntS (x : List (Int) × List (Int)) : ok_laws_eqIntS x = (((iNe (lLen x.1) (lLen x.2)) = true → True) ∧ ((iNe (lLen x.1) (lLen x.2)) = false → (LoopOk (fun (x0 : Int) => (bAnd (iLt x0 (lLen x.1)) (bNot (iNe (lGet x.1 (iNat x0) 0) (lGet x.2 (iNat x0) 0))))) (fun (x0 : Int) => (iAdd Go.IntKind.i64 x0 1)) (fun (x0 : Int) => (((iLt x0 (lLen x.1)) = true → ((((0 : Int) ≤ x0) ∧ (x0 < (((List.length x.1) : Int)))) ∧ (((iNat x0) < (List.length x.1)) ∧ ((((0 : Int) ≤ x0) ∧ (x0 < (((List.length x.2) : Int)))) ∧ ((iNat x0) < (List.length x.2)))))) ∧ ((iLt x0 (lLen x.1)) = false → True))) 0))) := (ou_laws_eqIntS x).trans (by kernel_rfl)
theorem ve_laws_eqReport (x : (Int × List (Int)) × (Int × List (Int))) : v_laws_eqReport x = (bAnd (bNot (iNe x.1.1 x.2.1)) (bNot (bNot (v_laws_eqIntS (x.1.2, x.2.2))))) := (vu_laws_eqReport x).trans (by kernel_rfl)
theorem oe_laws_eqReport (x : (Int × List (Int)) × (Int × List (Int))) : ok_laws_eqReport x = (((iNe x.1.1 x.2.1) = true → True) ∧ ((iNe x.1.1 x.2.1) = false → (ok_laws_eqIntS (x.1.2, x.2.2)))) := (ou_laws_eqReport x).trans (by kernel_rfl)
end
def sm_IntS (x : List (Int)) : Prop := x.length ≤ 1048576
def sm_Report (x : Int × List (Int)) : Prop := sm_IntS x.2 ∧ True
theorem eq_IntS (a b : List (Int)) (h : sm_IntS a) : ok_laws_eqIntS (a, b) ∧ (v_laws_eqIntS (a, b) = true ↔ a = b) := by
  rw [oe_laws_eqIntS, ve_laws_eqIntS]
  have h1 : a.length ≤ 1048576 := h
  by_cases hl : a.length = b.length
  · refine ⟨⟨fun _ => trivial, fun _ => eq_ok a b 0 (fun i => iNe (lGet a i 0) (lGet b i 0)) hl (fun i hi => by simp [iNe_eq, lGet_eq]) (by omega) (fun i hi => by simp only [bAnd_eq, iLt_eq, lLen_eq, iNat_eq, bNot_eq, Int.toNat_natCast, Int.ofNat_lt]) (fun i hi => rfl) (fun i hi => ?_)⟩, ?_⟩
    · simp only [iLt_eq, lLen_eq, iNat_eq, decide_eq_true_eq, Int.toNat_natCast]
      exact ⟨fun hh => (by omega), fun _ => trivial⟩
    · have hv := eq_v (c := fun i : Int => bAnd (iLt i (lLen a)) (bNot ((fun i => iNe (lGet a i 0) (lGet b i 0)) i.toNat))) (f := fun i => iAdd .i64 i 1) a b 0 (fun i => iNe (lGet a i 0) (lGet b i 0)) hl (fun i hi => by simp [iNe_eq, lGet_eq]) (by omega) (fun i hi => by simp only [bAnd_eq, iLt_eq, lLen_eq, bNot_eq, Int.toNat_natCast, Int.ofNat_lt]) (fun i hi => rfl)
      have e1 : bNot (iNe (lLen a) (lLen b)) = true := by rw [bNot_eq, iNe_eq, lLen_eq, lLen_eq, hl]; simp
      rw [e1, bAnd_eq true, Bool.true_and, bNot_eq (iLt _ (lLen a)), iLt_eq _ (lLen a)]
      simp only [← iNat_eq, lLen_eq] at hv ⊢
      simp only [Bool.not_eq_true', decide_eq_false_iff_not]
      rw [hv]; simp
  · have e1 : bNot (iNe (lLen a) (lLen b)) = false := by rw [bNot_eq, iNe_eq, lLen_eq, lLen_eq]; simp; omega
    refine ⟨⟨fun _ => trivial, fun h => ?_⟩, ?_⟩
    · rw [bNot_eq] at e1; rw [h] at e1; cases e1
    · rw [e1, bAnd_eq, Bool.false_and]; constructor
      · intro h; cases h
      · intro e; subst e; exact absurd rfl hl
theorem eq_Report (a b : Int × List (Int)) (h : sm_Report a) : ok_laws_eqReport (a, b) ∧ (v_laws_eqReport (a, b) = true ↔ a = b) := by
  obtain ⟨a0, a1⟩ := a
  obtain ⟨b0, b1⟩ := b
  have k0 := eq_IntS a1 b1 (by unfold sm_Report at h; exact h.1)
  rw [oe_laws_eqReport, ve_laws_eqReport]
  refine ⟨by simp [k0.1, k0.2], ?_⟩
  simp only [k0.1, k0.2, bNot_eq, bAnd_eq, bIff_eq, iNe_eq, Bool.and_eq_true, Bool.not_not, decide_eq_true_eq, Prod.mk.injEq, beq_iff_eq]
  try (constructor <;> intro h <;> simp_all)
section
set_option maxRecDepth 8000
noncomputable def c_laws_markIntS : ACode :=
  (.seq (.region [⟨0, some 4, .mv (.c (.int .i64 0)), none, []⟩])
  (.seq (.seq (.region [⟨0, some 5, .mv (.c (.int .i64 0)), none, []⟩])
  (.block 0 (.loop [0, 1, 5] (.seq (.seq (.region [⟨0, some 6, .mv (.t 5), none, []⟩,
 ⟨1, some 7, .mv (.t 0), none, []⟩,
 ⟨2, some 8, .len (.t 7), none, []⟩,
 ⟨3, some 9, .bin .lss (.t 6) (.t 8), none, []⟩])
  (.cond (.t 9) .skip (.exit 0)))
  (.seq (.block 1 (.seq (.region [⟨0, some 12, .mv (.t 0), none, []⟩,
 ⟨1, some 13, .mv (.t 5), none, []⟩,
 ⟨2, some 14, .mv (.t 1), none, []⟩,
 ⟨3, some 15, .indexA 1 (.t 12) (.t 13), none, []⟩,
 ⟨4, none, .storeH 1 (.t 15) (.t 14), none, []⟩])
  (.region [⟨0, some 16, .mv (.t 1), none, []⟩,
 ⟨1, some 17, .bin .add (.t 16) (.c (.int .i64 1)), none, []⟩,
 ⟨2, some 1, .mv (.t 17), none, []⟩])))
  (.region [⟨0, some 10, .mv (.t 5), none, []⟩,
 ⟨1, some 11, .bin .add (.t 10) (.c (.int .i64 1)), none, []⟩,
 ⟨2, some 5, .mv (.t 11), none, []⟩]))))))
  (.seq (.region [⟨0, some 18, .mv (.t 1), none, []⟩,
 ⟨1, some 4, .mv (.t 18), none, []⟩])
  .ret)))
noncomputable def f_laws_markIntS : AFun := ⟨2, 19, 0, false, [.tmp 4], c_laws_markIntS⟩
@[irreducible] noncomputable def s_laws_markIntS : CallSem := funSem f_laws_markIntS
@[irreducible] noncomputable def mg_laws_markIntS (x : List (Int)) (m : Int) : (List (Int)) × Int := (shut fun (x : List (Int)) (m : Int) => mkL (RT.mkI (.one (.int .i64))) x m).1 x m
@[irreducible] noncomputable def mok_laws_markIntS (x : List (Int)) : Prop := (shut fun (x : List (Int)) => CT.wl (.sl (.one (.int .i64))) x).1 x
theorem mgu_laws_markIntS : mg_laws_markIntS = fun x m => mkL (RT.mkI (.one (.int .i64))) x m := by unfold mg_laws_markIntS; exact (shut _).2
theorem mou_laws_markIntS : mok_laws_markIntS = fun x => CT.wl (.sl (.one (.int .i64))) x := by unfold mok_laws_markIntS; exact (shut _).2
theorem sl_laws_markIntS : SlC s_laws_markIntS (.one (.int .i64)) := by
  rintro h ω hd p l u m Q hok hinj hM hQ
  have hn := hM.len
  have hlb : l.length ≤ 9223372036854775807 := hok.1
  unfold s_laws_markIntS
  refine fun_intro rfl ?_
  unfold c_laws_markIntS
  repeat' (first | (simp only [go_sem, reduceIte, reduceCtorEq, Nat.reduceAdd, Nat.reduceBEq, Int.reduceLT, Int.reduceLE, Int.reduceGT, Int.reduceGE, Int.reduceBEq, Int.reduceBNe, Nat.reduceEqDiff, Nat.reduceLeDiff, Nat.reduceLT, hn]) | (refine aops_part rfl (fun hb => ?_) (fun hb => ?_) <;> simp only [hb, go_sem, reduceIte, reduceCtorEq, Nat.reduceAdd, Nat.reduceBEq, Int.reduceLT, Int.reduceLE, Int.reduceGT, Int.reduceGE, Int.reduceBEq, Int.reduceBNe, Nat.reduceEqDiff, Nat.reduceLeDiff, Nat.reduceLT, hn]) | (refine awp_part rfl (fun hb => ?_) (fun hb => ?_) <;> simp only [hb, go_sem, reduceIte, reduceCtorEq, Nat.reduceAdd, Nat.reduceBEq, Int.reduceLT, Int.reduceLE, Int.reduceGT, Int.reduceGE, Int.reduceBEq, Int.reduceBNe, Nat.reduceEqDiff, Nat.reduceLeDiff, Nat.reduceLT, hn]) | (refine wop_pick_part rfl (fun hb => ?_) (fun hb => ?_) <;> simp only [hb, go_sem, reduceIte, reduceCtorEq, Nat.reduceAdd, Nat.reduceBEq, Int.reduceLT, Int.reduceLE, Int.reduceGT, Int.reduceGE, Int.reduceBEq, Int.reduceBNe, Nat.reduceEqDiff, Nat.reduceLeDiff, Nat.reduceLT, hn]))
  refine loop_up l.length (fun i st => ∃ h', st = ⟨[u, .int .i64 (mkPre (RT.mkI (.one (.int .i64))) l m i).2, .undef, .undef, .undef, .int .i64 (i : Int)] ++ reps 13, [], h'⟩ ∧ Only (Under ω hd p) h h' ∧ MS h' ω hd p (.one (.int .i64)) (mkPre (RT.mkI (.one (.int .i64))) l m i).1 u) ?_ ?_
  · refine ⟨h, ?_, Only.refl _ _, hM⟩
    simp only [mkPre_zero, keep, Int.natCast_zero]
    rfl
  · rintro i st next hi ⟨h1, rfl, hO, hR⟩ hnx
    by_cases hlt : i < l.length
    · have hc : decide ((i : Int) < (l.length : Int)) = true := decide_eq_true (by omega)
      have hw : IntKind.i64.wrap ((i : Int) + 1) = ((i + 1 : Nat) : Int) := by rw [wrapI (by omega)]; omega
      obtain ⟨b, hub⟩ := hR.slice (by rw [mkPre_len]; omega)
      rw [mkPre_len] at hub
      subst hub
      cases hL : mkPre (RT.mkI (.one (.int .i64))) l m i with
      | mk L k0 =>
      rw [hL] at hR
      obtain ⟨hLl, hs, hx0⟩ := mkPre_step hlt hL
      have hiL : i < L.length := by omega
      have hwx := wl_get hok hlt
      rw [← hx0] at hwx
      have R0 := MS.frame hR hiL
      clear hx0
      generalize hx0 : List.getD L i (RT.dflt (.one (.int .i64))) = x0 at R0 hs hwx
      clear hx0
      have hx := idx_own (b := b) (w := 1) hlt (k := .i64)
      simp only
      obtain ⟨h2, s0, o0, R1⟩ := MS.st R0 hiL (off := 0) (by decide) (v := (.int .i64 k0)) rfl rfl (y := (k0 : RT.D (.one (.int .i64)))) rfl hinj []
      replace s0 : x_storeH [] h1 1 (.ptr b (i * 1)) (.int .i64 k0) = some (.undef, [], h2) := s0
      repeat' (first | (simp only [go_sem, reduceIte, reduceCtorEq, Nat.reduceAdd, Nat.reduceBEq, Int.reduceLT, Int.reduceLE, Int.reduceGT, Int.reduceGE, Int.reduceBEq, Int.reduceBNe, Nat.reduceEqDiff, Nat.reduceLeDiff, Nat.reduceLT, hn, hc, hw, hx, s0]) | (refine aops_part rfl (fun hb => ?_) (fun hb => ?_) <;> simp only [hb, go_sem, reduceIte, reduceCtorEq, Nat.reduceAdd, Nat.reduceBEq, Int.reduceLT, Int.reduceLE, Int.reduceGT, Int.reduceGE, Int.reduceBEq, Int.reduceBNe, Nat.reduceEqDiff, Nat.reduceLeDiff, Nat.reduceLT, hn, hc, hw, hx, s0]) | (refine awp_part rfl (fun hb => ?_) (fun hb => ?_) <;> simp only [hb, go_sem, reduceIte, reduceCtorEq, Nat.reduceAdd, Nat.reduceBEq, Int.reduceLT, Int.reduceLE, Int.reduceGT, Int.reduceGE, Int.reduceBEq, Int.reduceBNe, Nat.reduceEqDiff, Nat.reduceLeDiff, Nat.reduceLT, hn, hc, hw, hx, s0]) | (refine wop_pick_part rfl (fun hb => ?_) (fun hb => ?_) <;> simp only [hb, go_sem, reduceIte, reduceCtorEq, Nat.reduceAdd, Nat.reduceBEq, Int.reduceLT, Int.reduceLE, Int.reduceGT, Int.reduceGE, Int.reduceBEq, Int.reduceBNe, Nat.reduceEqDiff, Nat.reduceLeDiff, Nat.reduceLT, hn, hc, hw, hx, s0]))
      exact hnx _ hlt ⟨h2, by rw [hs]; rfl, (Only.trans hO o0), by rw [hs]; exact R1⟩
    · have hc : decide ((i : Int) < (l.length : Int)) = false := decide_eq_false (by omega)
      have hi' : i = l.length := by omega
      subst hi'
      repeat' (first | (simp only [go_sem, reduceIte, reduceCtorEq, Nat.reduceAdd, Nat.reduceBEq, Int.reduceLT, Int.reduceLE, Int.reduceGT, Int.reduceGE, Int.reduceBEq, Int.reduceBNe, Nat.reduceEqDiff, Nat.reduceLeDiff, Nat.reduceLT, hn, hc]) | (refine aops_part rfl (fun hb => ?_) (fun hb => ?_) <;> simp only [hb, go_sem, reduceIte, reduceCtorEq, Nat.reduceAdd, Nat.reduceBEq, Int.reduceLT, Int.reduceLE, Int.reduceGT, Int.reduceGE, Int.reduceBEq, Int.reduceBNe, Nat.reduceEqDiff, Nat.reduceLeDiff, Nat.reduceLT, hn, hc]) | (refine awp_part rfl (fun hb => ?_) (fun hb => ?_) <;> simp only [hb, go_sem, reduceIte, reduceCtorEq, Nat.reduceAdd, Nat.reduceBEq, Int.reduceLT, Int.reduceLE, Int.reduceGT, Int.reduceGE, Int.reduceBEq, Int.reduceBNe, Nat.reduceEqDiff, Nat.reduceLeDiff, Nat.reduceLT, hn, hc]) | (refine wop_pick_part rfl (fun hb => ?_) (fun hb => ?_) <;> simp only [hb, go_sem, reduceIte, reduceCtorEq, Nat.reduceAdd, Nat.reduceBEq, Int.reduceLT, Int.reduceLE, Int.reduceGT, Int.reduceGE, Int.reduceBEq, Int.reduceBNe, Nat.reduceEqDiff, Nat.reduceLeDiff, Nat.reduceLT, hn, hc]))
      have e := mkPre_all (RT.mkI (.one (.int .i64))) l m
      rw [e] at hR ⊢
      exact hQ h1 hO hR
noncomputable def c_laws_markReport : ACode :=
  (.seq (.region [⟨0, some 2, .boxB 0 2 (.t 0), none, []⟩,
 ⟨1, some 4, .mv (.c (.int .i64 0)), none, []⟩])
  (.seq (.region [⟨0, some 5, .fieldA 1 (.t 2), none, []⟩,
 ⟨1, some 6, .loadB 0 none (.t 5), none, []⟩,
 ⟨2, some 7, .mv (.t 1), none, []⟩,
 ⟨3, some 8, .call s_laws_markIntS [(.t 6), (.t 7)], none, []⟩,
 ⟨4, some 1, .mv (.t 8), none, []⟩])
  (.seq (.region [⟨0, some 9, .mv (.t 1), none, []⟩,
 ⟨1, some 4, .mv (.t 9), none, []⟩])
  .ret)))
noncomputable def f_laws_markReport : AFun := ⟨2, 10, 1, false, [.tmp 4], c_laws_markReport⟩
@[irreducible] noncomputable def s_laws_markReport : CallSem := funSem f_laws_markReport
@[irreducible] noncomputable def mg_laws_markReport (x : Int × List (Int)) (m : Int) : (Int × List (Int)) × Int := (shut fun (x : Int × List (Int)) (m : Int) => RT.mkT (.cons (.int .i64) (.one (.sl (.one (.int .i64))))) x m).1 x m
@[irreducible] noncomputable def mok_laws_markReport (x : Int × List (Int)) : Prop := (shut fun (x : Int × List (Int)) => RT.wl (.cons (.int .i64) (.one (.sl (.one (.int .i64))))) x).1 x
theorem mgu_laws_markReport : mg_laws_markReport = fun x m => RT.mkT (.cons (.int .i64) (.one (.sl (.one (.int .i64))))) x m := by unfold mg_laws_markReport; exact (shut _).2
theorem mou_laws_markReport : mok_laws_markReport = fun x => RT.wl (.cons (.int .i64) (.one (.sl (.one (.int .i64))))) x := by unfold mok_laws_markReport; exact (shut _).2
theorem mk_laws_markReport : SoundM s_laws_markReport (agMk (.cons (.int .i64) (.one (.sl (.one (.int .i64)))))).P := by
  rintro h ω hd P b olds us u m K Q hinj hu hl hr ⟨x, rfl, hok, hK⟩ hQ
  have hu : u = .agg us := hu
  subst hu
  show s_laws_markReport [.agg us, .int .i64 m] h Q
  obtain ⟨u0, u1, rfl⟩ := len_2 hl
  have c0 : RC h ω (.inn hd (P ++ [b + 0])) (CT.enc (.int .i64) x.1) u0 := hr 0 (lt_enc (by decide))
  have c1 : RC h ω (.inn hd (P ++ [b + 1])) (CT.enc (.sl (.one (.int .i64))) x.2) u1 := hr 1 (lt_enc (by decide))
  have e0 := c0.cellV rfl
  have e1 := c1.cellV rfl
  have g1 := (RC.own1 c1).1
  have z1 := (RC.own1 c1).2.2
  unfold s_laws_markReport
  refine fun_intro rfl ?_
  unfold c_laws_markReport
  repeat' (first | (simp only [go_sem, reduceIte, reduceCtorEq, Nat.reduceAdd, Nat.reduceBEq, Int.reduceLT, Int.reduceLE, Int.reduceGT, Int.reduceGE, Int.reduceBEq, Int.reduceBNe, Nat.reduceEqDiff, Nat.reduceLeDiff, Nat.reduceLT, e0, e1, g1]) | (refine aops_part rfl (fun hb => ?_) (fun hb => ?_) <;> simp only [hb, go_sem, reduceIte, reduceCtorEq, Nat.reduceAdd, Nat.reduceBEq, Int.reduceLT, Int.reduceLE, Int.reduceGT, Int.reduceGE, Int.reduceBEq, Int.reduceBNe, Nat.reduceEqDiff, Nat.reduceLeDiff, Nat.reduceLT, e0, e1, g1]) | (refine awp_part rfl (fun hb => ?_) (fun hb => ?_) <;> simp only [hb, go_sem, reduceIte, reduceCtorEq, Nat.reduceAdd, Nat.reduceBEq, Int.reduceLT, Int.reduceLE, Int.reduceGT, Int.reduceGE, Int.reduceBEq, Int.reduceBNe, Nat.reduceEqDiff, Nat.reduceLeDiff, Nat.reduceLT, e0, e1, g1]) | (refine wop_pick_part rfl (fun hb => ?_) (fun hb => ?_) <;> simp only [hb, go_sem, reduceIte, reduceCtorEq, Nat.reduceAdd, Nat.reduceBEq, Int.reduceLT, Int.reduceLE, Int.reduceGT, Int.reduceGE, Int.reduceBEq, Int.reduceBNe, Nat.reduceEqDiff, Nat.reduceLeDiff, Nat.reduceLT, e0, e1, g1]))
  refine callN (sl_laws_markIntS h ω hd (P ++ [b + 1]) x.2 u1 m _ hok.2 hinj c1 fun h1 O0 N0 => ?_)
  replace N0 : RC h1 ω (.inn hd (P ++ [b + 1])) (CT.enc (.sl (.one (.int .i64))) (mkL (RT.mkI (.one (.int .i64))) x.2 m).1) u1 := N0
  have b0_0 := RC.beside c0 O0 (fun l hs => by obtain ⟨q, e⟩ := hs; exact ⟨b + 1, q, by omega, by rw [e]; simp⟩)
  repeat' (first | (simp only [go_sem, reduceIte, reduceCtorEq, Nat.reduceAdd, Nat.reduceBEq, Int.reduceLT, Int.reduceLE, Int.reduceGT, Int.reduceGE, Int.reduceBEq, Int.reduceBNe, Nat.reduceEqDiff, Nat.reduceLeDiff, Nat.reduceLT, e0, e1, g1]) | (refine aops_part rfl (fun hb => ?_) (fun hb => ?_) <;> simp only [hb, go_sem, reduceIte, reduceCtorEq, Nat.reduceAdd, Nat.reduceBEq, Int.reduceLT, Int.reduceLE, Int.reduceGT, Int.reduceGE, Int.reduceBEq, Int.reduceBNe, Nat.reduceEqDiff, Nat.reduceLeDiff, Nat.reduceLT, e0, e1, g1]) | (refine awp_part rfl (fun hb => ?_) (fun hb => ?_) <;> simp only [hb, go_sem, reduceIte, reduceCtorEq, Nat.reduceAdd, Nat.reduceBEq, Int.reduceLT, Int.reduceLE, Int.reduceGT, Int.reduceGE, Int.reduceBEq, Int.reduceBNe, Nat.reduceEqDiff, Nat.reduceLeDiff, Nat.reduceLT, e0, e1, g1]) | (refine wop_pick_part rfl (fun hb => ?_) (fun hb => ?_) <;> simp only [hb, go_sem, reduceIte, reduceCtorEq, Nat.reduceAdd, Nat.reduceBEq, Int.reduceLT, Int.reduceLE, Int.reduceGT, Int.reduceGE, Int.reduceBEq, Int.reduceBNe, Nat.reduceEqDiff, Nat.reduceLeDiff, Nat.reduceLT, e0, e1, g1]))
  refine hQ _ _ h1 hK rfl ((Only.mono O0 fun l hs => by obtain ⟨q, e⟩ := hs; exact ⟨1, _, q, lt_enc (by decide), rfl, by rw [e]; simp⟩)) fun c hc => ?_
  have hc : c < 2 := hc
  rcases (show c = 0 ∨ c = 1 by omega) with rfl | rfl
  · exact b0_0
  · exact N0
noncomputable def M_laws_markReport : DMk := ⟨(.cons (.int .i64) (.one (.sl (.one (.int .i64))))), true, mok_laws_markReport, mg_laws_markReport, false⟩
theorem smk_laws_markReport : SoundM s_laws_markReport (DMk.P M_laws_markReport) := by unfold M_laws_markReport; rw [mou_laws_markReport, mgu_laws_markReport]; exact mk_laws_markReport
noncomputable def dc_laws_heldIntS : DCode :=
  (.seq [1, 0] (.region [oi 0 4 0])
  (.seq [1] (.seq [5, 1, 0] (.region [oi 0 5 0])
  (.block 0 (.loop [0, 1, 5] 1 (.seq [5, 1, 0] (.seq [9, 5, 1, 0] (.region [om 0 6 5,
 on 1 7 0,
 oa 2 8 (.len (.t 7)),
 oa 3 9 (.bin .lss (.t 6) (.t 8))])
  (.cond (.t 9) .skip (.exit 0)))
  (.seq [5, 1, 0] (.block 1 (.seq [5, 1, 0] (.seq [17, 5, 1, 0] (.region [on 0 12 0,
 om 1 13 5,
 oa 2 14 (.indexA 1 (.t 12) (.t 13)),
 oa 3 15 (.loadH none (.t 14)),
 om 4 16 1,
 oa 5 17 (.bin .neq (.t 15) (.t 16))])
  (.cond (.t 17) (.seq [4] (.region [oi 0 4 (-1)])
  .ret) .skip))
  (.region [om 0 18 1,
 oa 1 19 (.bin .add (.t 18) (.c (.int .i64 1))),
 om 2 1 19])))
  (.region [om 0 10 5,
 oa 1 11 (.bin .add (.t 10) (.c (.int .i64 1))),
 om 2 5 11]))))))
  (.seq [4] (.region [om 0 20 1,
 om 1 4 20])
  .ret)))
noncomputable def df_laws_heldIntS : DFun := ⟨2, 21, 0, true, [.tmp 4], dc_laws_heldIntS⟩
noncomputable def pf_laws_heldIntS : PFun := df_laws_heldIntS.er
noncomputable def f_laws_heldIntS : AFun := pf_laws_heldIntS.er
@[irreducible] noncomputable def s_laws_heldIntS : CallSem := funSem f_laws_heldIntS
@[irreducible] noncomputable def p_laws_heldIntS : PSem := pfunSem pf_laws_heldIntS
theorem sp_laws_heldIntS : SoundP s_laws_heldIntS p_laws_heldIntS := by unfold s_laws_heldIntS p_laws_heldIntS; exact pfun_sound (f := pf_laws_heldIntS) trivial
def h_laws_heldIntS : List HT := [.one .frz (.sl (.one (.int .i64))), .one .frz (.int .i64)]
def q_laws_heldIntS : QT := .one (.one .own (.int .i64))
@[irreducible] noncomputable def v_laws_heldIntS (x : List (Int) × Int) : Int := (shut fun x => fnV df_laws_heldIntS h_laws_heldIntS q_laws_heldIntS x).1 x
@[irreducible] noncomputable def ok_laws_heldIntS (x : List (Int) × Int) : Prop := (shut fun x => fnOk df_laws_heldIntS h_laws_heldIntS q_laws_heldIntS x).1 x
theorem vu_laws_heldIntS (x : List (Int) × Int) : v_laws_heldIntS x = fnV df_laws_heldIntS h_laws_heldIntS q_laws_heldIntS x := by unfold v_laws_heldIntS; exact congrFun (shut _).2 x
theorem ou_laws_heldIntS (x : List (Int) × Int) : ok_laws_heldIntS x = fnOk df_laws_heldIntS h_laws_heldIntS q_laws_heldIntS x := by unfold ok_laws_heldIntS; exact congrFun (shut _).2 x
noncomputable def D_laws_heldIntS : DSem := DSemOf h_laws_heldIntS q_laws_heldIntS ok_laws_heldIntS v_laws_heldIntS
theorem ck_laws_heldIntS (x : List (Int) × Int) : fnChk df_laws_heldIntS h_laws_heldIntS q_laws_heldIntS x = true := by kernel_rfl
theorem ob_laws_heldIntS : AllD df_laws_heldIntS.body.obs := trivial
theorem st_laws_heldIntS : fnSt df_laws_heldIntS h_laws_heldIntS q_laws_heldIntS = true := by kernel_rfl
theorem sd_laws_heldIntS : SoundD p_laws_heldIntS D_laws_heldIntS := by unfold p_laws_heldIntS; exact soundD_of (f := df_laws_heldIntS) (hs := h_laws_heldIntS) (q := q_laws_heldIntS) ob_laws_heldIntS st_laws_heldIntS ck_laws_heldIntS (fun x h => Eq.mp (ou_laws_heldIntS x) h) (fun x => (vu_laws_heldIntS x).symm)
noncomputable def dc_laws_heldReport : DCode :=
  (.seq [2, 1] (.region [oa 0 2 (.boxB 0 2 (.t 0)),
 oi 1 4 0])
  (.seq [1] (.region [oa 0 5 (.fieldA 1 (.t 2)),
 oa 1 6 (.loadB 0 none (.t 5)),
 om 2 7 1,
 oc 3 8 s_laws_heldIntS p_laws_heldIntS D_laws_heldIntS [(.t 6), (.t 7)],
 om 4 1 8])
  (.seq [1] (.seq [10, 1] (.region [om 0 9 1,
 oa 1 10 (.bin .lss (.t 9) (.c (.int .i64 0)))])
  (.cond (.t 10) (.seq [4] (.region [oi 0 4 (-1)])
  .ret) .skip))
  (.seq [4] (.region [om 0 11 1,
 om 1 4 11])
  .ret))))
noncomputable def df_laws_heldReport : DFun := ⟨2, 12, 1, true, [.tmp 4], dc_laws_heldReport⟩
noncomputable def pf_laws_heldReport : PFun := df_laws_heldReport.er
noncomputable def f_laws_heldReport : AFun := pf_laws_heldReport.er
@[irreducible] noncomputable def s_laws_heldReport : CallSem := funSem f_laws_heldReport
@[irreducible] noncomputable def p_laws_heldReport : PSem := pfunSem pf_laws_heldReport
theorem sp_laws_heldReport : SoundP s_laws_heldReport p_laws_heldReport := by unfold s_laws_heldReport p_laws_heldReport; exact pfun_sound (f := pf_laws_heldReport) ⟨sp_laws_heldIntS, trivial⟩
def h_laws_heldReport : List HT := [.agg [(.frz, .int .i64), (.frz, .sl (.one (.int .i64)))], .one .frz (.int .i64)]
def q_laws_heldReport : QT := .one (.one .own (.int .i64))
@[irreducible] noncomputable def v_laws_heldReport (x : (Int × List (Int)) × Int) : Int := (shut fun x => fnV df_laws_heldReport h_laws_heldReport q_laws_heldReport x).1 x
@[irreducible] noncomputable def ok_laws_heldReport (x : (Int × List (Int)) × Int) : Prop := (shut fun x => fnOk df_laws_heldReport h_laws_heldReport q_laws_heldReport x).1 x
theorem vu_laws_heldReport (x : (Int × List (Int)) × Int) : v_laws_heldReport x = fnV df_laws_heldReport h_laws_heldReport q_laws_heldReport x := by unfold v_laws_heldReport; exact congrFun (shut _).2 x
theorem ou_laws_heldReport (x : (Int × List (Int)) × Int) : ok_laws_heldReport x = fnOk df_laws_heldReport h_laws_heldReport q_laws_heldReport x := by unfold ok_laws_heldReport; exact congrFun (shut _).2 x
noncomputable def D_laws_heldReport : DSem := DSemOf h_laws_heldReport q_laws_heldReport ok_laws_heldReport v_laws_heldReport
theorem ck_laws_heldReport (x : (Int × List (Int)) × Int) : fnChk df_laws_heldReport h_laws_heldReport q_laws_heldReport x = true := by kernel_rfl
theorem ob_laws_heldReport : AllD df_laws_heldReport.body.obs := ⟨sd_laws_heldIntS, trivial⟩
theorem st_laws_heldReport : fnSt df_laws_heldReport h_laws_heldReport q_laws_heldReport = true := by kernel_rfl
theorem sd_laws_heldReport : SoundD p_laws_heldReport D_laws_heldReport := by unfold p_laws_heldReport; exact soundD_of (f := df_laws_heldReport) (hs := h_laws_heldReport) (q := q_laws_heldReport) ob_laws_heldReport st_laws_heldReport ck_laws_heldReport (fun x h => Eq.mp (ou_laws_heldReport x) h) (fun x => (vu_laws_heldReport x).symm)
end
section
set_option maxRecDepth 100000
theorem ve_laws_heldIntS (x : List (Int) × Int) : v_laws_heldIntS x = (bSel (iLt (loopV (fun (x0 : (Int × Int)) => (bAnd (iLt x0.2 (lLen x.1)) (bNot (iNe (lGet x.1 (iNat x0.2) 0) x0.1)))) (fun (x0 : (Int × Int)) => ((iAdd Go.IntKind.i64 x0.1 1), (iAdd Go.IntKind.i64 x0.2 1))) (x.2, 0)).2 (lLen x.1)) (-1) (loopV (fun (x0 : (Int × Int)) => (bAnd (iLt x0.2 (lLen x.1)) (bNot (iNe (lGet x.1 (iNat x0.2) 0) x0.1)))) (fun (x0 : (Int × Int)) => ((iAdd Go.IntKind.i64 x0.1 1), (iAdd Go.IntKind.i64 x0.2 1))) (x.2, 0)).1) := (vu_laws_heldIntS x).trans (by kernel_rfl)
theorem oe_laws_heldIntS (x : List (Int) × Int) : ok_laws_heldIntS x = (LoopOk (fun (x0 : (Int × Int)) => (bAnd (iLt x0.2 (lLen x.1)) (bNot (iNe (lGet x.1 (iNat x0.2) 0) x0.1)))) (fun (x0 : (Int × Int)) => ((iAdd Go.IntKind.i64 x0.1 1), (iAdd Go.IntKind.i64 x0.2 1))) (fun (x0 : (Int × Int)) => (((iLt x0.2 (lLen x.1)) = true → ((((0 : Int) ≤ x0.2) ∧ (x0.2 < (((List.length x.1) : Int)))) ∧ ((iNat x0.2) < (List.length x.1)))) ∧ ((iLt x0.2 (lLen x.1)) = false → True))) (x.2, 0)) := (ou_laws_heldIntS x).trans (by kernel_rfl)
theorem ve_laws_heldReport (x : (Int × List (Int)) × Int) : v_laws_heldReport x = (bSel (iLt (v_laws_heldIntS (x.1.2, x.2)) 0) (-1) (v_laws_heldIntS (x.1.2, x.2))) := (vu_laws_heldReport x).trans (by kernel_rfl)
theorem oe_laws_heldReport (x : (Int × List (Int)) × Int) : ok_laws_heldReport x = (ok_laws_heldIntS (x.1.2, x.2)) := (ou_laws_heldReport x).trans (by kernel_rfl)
end
theorem iAdd_def (a : Int) : iAdd .i64 a 1 = IntKind.i64.wrap (a + 1) := by simp only [iAdd_u]
theorem iConv_def (k : IntKind) (a : Int) : iConv k a = k.wrap a := by simp only [iConv_u]
theorem iRem_def (a b : Int) : iRem a b = a.tmod b := by simp only [iRem_u]
section
variable {α : Type} {f : α → Int → α × Int} {l : List α} {c : Nat} {m : Int}
def UpF (f : α → Int → α × Int) (l : List α) (c : Nat) : Prop := ∀ a ∈ l, ∀ m : Int, 0 ≤ m → m + c ≤ 2305843009213693952 → m ≤ (f a m).2 ∧ (f a m).2 ≤ m + c
theorem mkPre_up (hf : UpF f l c) (h0 : 0 ≤ m) (h1 : m + (l.length * c : Nat) ≤ 2305843009213693952) (d : α) : ∀ i, i ≤ l.length → m ≤ (mkPre f l m i).2 ∧ (mkPre f l m i).2 ≤ m + (i * c : Nat) := by
  intro i
  induction i with
  | zero => intro _; rw [mkPre_zero]; simp
  | succ i ih =>
    intro hi
    obtain ⟨h2, h3⟩ := ih (by omega)
    rw [mkPre_succ f l m (by omega) d]
    have hm : l.getD i d ∈ l := getD_mem l i d (by omega)
    have hmul : (i + 1) * c ≤ l.length * c := Nat.mul_le_mul_right _ (by omega)
    rw [Nat.add_mul, Nat.one_mul] at hmul ⊢
    obtain ⟨h4, h5⟩ := hf _ hm (mkPre f l m i).2 (by omega) (by omega)
    exact ⟨by omega, by simp only; omega⟩
theorem mkL_up (hf : UpF f l c) (h0 : 0 ≤ m) (h1 : m + (l.length * c : Nat) ≤ 2305843009213693952) : m ≤ (mkL f l m).2 ∧ (mkL f l m).2 ≤ m + (l.length * c : Nat) := by
  cases l with
  | nil => simp [mkL]
  | cons a r =>
    have := mkPre_up hf h0 h1 a (a :: r).length (Nat.le_refl _)
    rw [mkPre_all] at this
    exact this
theorem mkL_getD (f : α → Int → α × Int) (l : List α) (m : Int) {i : Nat} (hi : i < l.length) (d : α) : (mkL f l m).1.getD i d = (f (l.getD i d) (mkPre f l m i).2).1 := by
  have h1 := mkPre_succ f l m hi d
  have h2 : (mkPre f l m (i + 1)).1.getD i d = (f (l.getD i d) (mkPre f l m i).2).1 := by
    rw [h1]
    simp only
    rw [List.getD_eq_getElem?_getD, List.getElem?_set_self (by rw [mkPre_len]; exact hi)]; rfl
  rw [← h2, ← mkPre_all f l m]
  have : ∀ k, i < k → k ≤ l.length → (mkPre f l m k).1.getD i d = (mkPre f l m (i + 1)).1.getD i d := by
    intro k
    induction k with
    | zero => intro h; omega
    | succ k ih =>
      intro h h'
      by_cases hk : k = i
      · rw [hk]
      · rw [← ih (by omega) (by omega), mkPre_succ f l m (by omega) d]
        simp only [List.getD_eq_getElem?_getD]
        rw [List.getElem?_set_ne hk]
  exact this _ hi (Nat.le_refl _)
theorem held_loop {C : Int × Int → Bool} {F : Int × Int → Int × Int} {p : Int × Int → Prop} (hl : l.length ≤ 1048576) (d : α)
    (hs : ∀ i, i < l.length → p ((mkPre f l m i).2, (i : Int)) ∧ C ((mkPre f l m i).2, (i : Int)) = true ∧ F ((mkPre f l m i).2, (i : Int)) = ((f (l.getD i d) (mkPre f l m i).2).2, iAdd .i64 (i : Int) 1))
    (he : p ((mkL f l m).2, (l.length : Int)) ∧ C ((mkL f l m).2, (l.length : Int)) = false) : LoopOk C F p (m, 0) ∧ loopV C F (m, 0) = ((mkL f l m).2, (l.length : Int)) := by
  have := loop_for (p := p) (c := C) (f := F) l.length (fun i => ((mkPre f l m i).2, (i : Int))) (x0 := (m, 0)) rfl (fun k hk => by
    obtain ⟨h1, h2, h3⟩ := hs k hk
    refine ⟨h1, h2, ?_⟩
    rw [h3, mkPre_succ f l m hk d, iAdd_i64 (by unfold In64; omega)]
    simp) (by rw [mkPre_all]; exact he)
  simp only [mkPre_all] at this
  exact this
end
theorem mul_step {i n c : Nat} (h : i < n) : i * c + c ≤ n * c := by
  have := Nat.mul_le_mul_right c (show i + 1 ≤ n from h)
  rw [Nat.add_mul, Nat.one_mul] at this
  exact this
theorem mul_lim {n m c B : Nat} (h : n ≤ m) (e : m * c = B) : n * c ≤ B := e ▸ Nat.mul_le_mul_right c h
theorem wrapP {m : Int} (h0 : 0 ≤ m) (h1 : m ≤ 2305843009213693960) : IntKind.i64.wrap (m + 1) = m + 1 := wrapI (by omega)
section
set_option maxRecDepth 20000
def mi_IntS (a : Int) (k : Int) : (Int) × Int := (k, (IntKind.i64.wrap (k + 1)))
theorem mh_IntS (x : List (Int)) (h : sm_IntS x) (m : Int) (h0 : 0 ≤ m) (h1 : m + 1048576 ≤ 2305843009213693952) : mok_laws_markIntS x ∧ (m ≤ (mg_laws_markIntS x m).2 ∧ (mg_laws_markIntS x m).2 ≤ m + 1048576) ∧ ok_laws_heldIntS ((mg_laws_markIntS x m).1, m) ∧ v_laws_heldIntS ((mg_laws_markIntS x m).1, m) = (mg_laws_markIntS x m).2 := by
  have hl : x.length ≤ 1048576 := h
  have hU : UpF mi_IntS x 1 := by
    intro a ha k k0 k1
    have e0 : IntKind.i64.wrap (k + 1) = k + 1 := wrapP (by omega) (by omega)
    have ee : (mi_IntS a k).2 = (k + 1) := by simp only [mi_IntS, e0]
    rw [ee]
    omega
  have hB : x.length * 1 ≤ 1048576 := mul_lim hl (by decide)
  have up := mkL_up (m := m) hU h0 (by omega)
  have hmg : mg_laws_markIntS x m = mkL mi_IntS x m := by unfold mi_IntS; rw [mgu_laws_markIntS]; rfl
  rw [hmg]
  have hL := mkL_len mi_IntS x m
  have hg : ∀ i, i < x.length → (mkL mi_IntS x m).1.getD i 0 = (mi_IntS (x.getD i 0) (mkPre mi_IntS x m i).2).1 := fun i hi => mkL_getD _ _ _ hi _
  have hok : mok_laws_markIntS x := by rw [mou_laws_markIntS]; exact ⟨Nat.le_trans h (by decide), fun a ha => trivial⟩
  rw [oe_laws_heldIntS, ve_laws_heldIntS]
  dsimp only
  generalize (mkL mi_IntS x m).1 = L at hL hg ⊢
  have key : LoopOk (fun (x0 : (Int × Int)) => (bAnd (iLt x0.2 (lLen L)) (bNot (iNe (lGet L (iNat x0.2) 0) x0.1)))) (fun (x0 : (Int × Int)) => ((iAdd Go.IntKind.i64 x0.1 1), (iAdd Go.IntKind.i64 x0.2 1))) (fun (x0 : (Int × Int)) => (((iLt x0.2 (lLen L)) = true → ((((0 : Int) ≤ x0.2) ∧ (x0.2 < (((List.length L) : Int)))) ∧ ((iNat x0.2) < (List.length L)))) ∧ ((iLt x0.2 (lLen L)) = false → True))) (m, 0) ∧ loopV (fun (x0 : (Int × Int)) => (bAnd (iLt x0.2 (lLen L)) (bNot (iNe (lGet L (iNat x0.2) 0) x0.1)))) (fun (x0 : (Int × Int)) => ((iAdd Go.IntKind.i64 x0.1 1), (iAdd Go.IntKind.i64 x0.2 1))) (m, 0) = ((mkL mi_IntS x m).2, (x.length : Int)) := by
    refine held_loop hl 0 (fun i hi => ?_) ?_
    · obtain ⟨b1, b2⟩ := mkPre_up (m := m) hU h0 (by omega) 0 i (by omega)
      have bm : i * 1 + 1 ≤ x.length * 1 := mul_step hi
      have g := hg i hi
      have hlt : (i : Int) < (L.length : Int) := by omega
      have hlN : i < L.length := by omega
      have ha := getD_mem x i 0 hi
      generalize (mkPre mi_IntS x m i).2 = k at b1 b2 g ⊢
      generalize x.getD i 0 = a at g ha ⊢
      have e0 : IntKind.i64.wrap (k + 1) = k + 1 := wrapP (by omega) (by omega)
      simp only [lGet_eq, iNat_eq, lLen_eq, Int.toNat_natCast, iAdd_def, iConv_def, iNe_eq, iLt_eq, iEq_eq, iRem_def, bAnd_eq, bNot_eq, bIff_eq, g, mi_IntS, e0]
      simp [hlt, hlN]
    · simp [iLt_eq, lLen_eq, hL, bAnd_eq]
  refine ⟨hok, ⟨up.1, by omega⟩, key.1, ?_⟩
  simp only [key.2]
  simp [bSel_eq, iLt_eq, lLen_eq, hL]
theorem mh_Report (x : Int × List (Int)) (h : sm_Report x) (m : Int) (h0 : 0 ≤ m) (h1 : m + 1048576 ≤ 2305843009213693952) : mok_laws_markReport x ∧ (m ≤ (mg_laws_markReport x m).2 ∧ (mg_laws_markReport x m).2 ≤ m + 1048576) ∧ ok_laws_heldReport ((x.1, (mg_laws_markReport x m).1.2), m) ∧ v_laws_heldReport ((x.1, (mg_laws_markReport x m).1.2), m) = (mg_laws_markReport x m).2 := by
  unfold sm_Report at h
  obtain ⟨k0, ⟨p0, q0⟩, y0, z0⟩ := mh_IntS x.2 h.1 m (by omega) (by omega)
  have t0 : ¬ (mg_laws_markIntS x.2 m).2 < 0 := by omega
  have e : mg_laws_markReport x m = ((x.1, (mg_laws_markIntS x.2 m).1), (mg_laws_markIntS x.2 m).2) := by rw [mgu_laws_markReport, mgu_laws_markIntS]; rfl
  have hok : mok_laws_markReport x := by rw [mou_laws_markReport]; exact ⟨trivial, ⟨Nat.le_trans h.1 (by decide), fun a ha => trivial⟩⟩
  rw [e]
  refine ⟨hok, ⟨by simp only; omega, by simp only; omega⟩, ?_, ?_⟩
  · rw [oe_laws_heldReport]; simp [iLt_eq, bSel_eq, y0, z0, t0]
  · rw [ve_laws_heldReport]; simp [iLt_eq, bSel_eq, y0, z0, t0]
end
theorem loop_two {X Y : Type} {c : X → Bool} {f : X → X} {p : X → Prop} {d : Y → Bool} {g : Y → Y} {q : Y → Prop} (R : X → Y → Prop) (m : X → Nat)
    (h : ∀ x y, R x y → p x ∧ q y ∧ c x = d y ∧ (c x = true → R (f x) (g y) ∧ m (f x) < m x)) {x0 : X} {y0 : Y} (h0 : R x0 y0) :
    LoopOk c f p x0 ∧ LoopOk d g q y0 ∧ R (loopV c f x0) (loopV d g y0) ∧ c (loopV c f x0) = false := by
  have go : ∀ (n : Nat) (x : X) (y : Y), m x < n → R x y → ∃ u v, LoopTo c f p x u ∧ LoopTo d g q y v ∧ R u v ∧ c u = false := by
    intro n
    induction n with
    | zero => intro x y hm; exact absurd hm (Nat.not_lt_zero _)
    | succ n ih =>
      intro x y hm hR
      obtain ⟨h1, h2, h3, h4⟩ := h x y hR
      cases hc : c x with
      | false => exact ⟨x, y, .stop h1 hc, .stop h2 (by rw [← h3]; exact hc), hR, hc⟩
      | true =>
        obtain ⟨h5, h6⟩ := h4 hc
        obtain ⟨u, v, a1, a2, a3, a4⟩ := ih _ _ (by omega) h5
        exact ⟨u, v, .go h1 hc a1, .go h2 (by rw [← h3]; exact hc) a2, a3, a4⟩
  obtain ⟨u, v, a1, a2, a3, a4⟩ := go _ x0 y0 (Nat.lt_succ_self _) h0
  exact ⟨⟨_, a1⟩, ⟨_, a2⟩, by rw [a1.val, a2.val]; exact a3, by rw [a1.val]; exact a4⟩
theorem loop_one {X : Type} {c : X → Bool} {f : X → X} {p : X → Prop} (I : X → Prop) (m : X → Nat) (h : ∀ x, I x → p x ∧ (c x = true → I (f x) ∧ m (f x) < m x)) {x0 : X} (h0 : I x0) :
    LoopOk c f p x0 ∧ I (loopV c f x0) ∧ c (loopV c f x0) = false := loop_inv I m h h0
theorem scan_st {X : Type} {c : X → Bool} {f : X → X} {p : X → Prop} (n : Nat) (st : Nat → X) (t : Nat → Bool) {x0 : X} (h0 : st 0 = x0) (hc : ∀ i, i ≤ n → (∀ j, j < i → t j = true) → c (st i) = (decide (i < n) && t i)) (hf : ∀ i, i < n → (∀ j, j ≤ i → t j = true) → f (st i) = st (i + 1)) (hp : ∀ i, i ≤ n → (∀ j, j < i → t j = true) → p (st i)) :
    LoopOk c f p x0 ∧ ∃ k, k ≤ n ∧ loopV c f x0 = st k ∧ (k = n ↔ ∀ i, i < n → t i = true) := by
  have hle := firstAt_le (fun i => !t i) n 0
  have hno : ∀ j, j < firstAt (fun i => !t i) n 0 → t j = true := fun j hj => by
    have := firstAt_no (fun i => !t i) n 0 j (by omega) hj
    simpa using this
  have := loop_for (c := c) (f := f) (p := p) (firstAt (fun i => !t i) n 0) st h0 (fun k hk => by
    refine ⟨hp k (by omega) (fun j hj => hno j (by omega)), ?_, hf k (by omega) (fun j hj => hno j (by omega))⟩
    rw [hc k (by omega) (fun j hj => hno j (by omega)), hno k hk]
    have : k < n := by omega
    simp [this]) ⟨hp _ (by omega) hno, by
    rw [hc _ (by omega) hno]
    by_cases h : firstAt (fun i => !t i) n 0 < n
    · have := firstAt_lt (fun i => !t i) n 0 (by omega)
      simp only [Bool.not_eq_true'] at this
      rw [this]; simp
    · simp [h]⟩
  refine ⟨this.1, _, by omega, this.2, ?_⟩
  rw [firstAt_all]
  simp
theorem take_snoc {α : Type} (x : List α) (d : α) {i : Nat} (h : i < x.length) : x.take i ++ [x.getD i d] = x.take (i + 1) := by
  rw [List.take_add_one, List.getD_eq_getElem?_getD, List.getElem?_eq_getElem h]; rfl
def Bytes (x : List Int) : Prop := ∀ a ∈ x, 0 ≤ a ∧ a < 256
theorem Bytes.get {x : List Int} (h : Bytes x) (i : Nat) : ∃ n : Nat, n < 256 ∧ x.getD i 0 = (n : Int) := by
  by_cases hi : i < x.length
  · obtain ⟨h0, h1⟩ := h _ (getD_mem x i 0 hi)
    exact ⟨(x.getD i 0).toNat, by omega, by omega⟩
  · exact ⟨0, by omega, by rw [List.getD_eq_getElem?_getD, List.getElem?_eq_none (by omega)]; rfl⟩
theorem Bytes.of {x : List Int} (h : CT.wf (.sl (.one (.int .u8))) x) : Bytes x := by
  intro a ha
  have := h.2 a ha
  simp only [RT.wf, CT.wf] at this
  have h : IntKind.u8.min ≤ a ∧ a ≤ IntKind.u8.max := by simpa [Lit.wf] using this
  have e1 : IntKind.u8.min = 0 := by decide
  have e2 : IntKind.u8.max = 255 := by decide
  rw [e1, e2] at h
  omega
theorem eqR (a : Int × List Int) (h : sm_Report a) : ok_laws_eqReport (a, a) ∧ v_laws_eqReport (a, a) = true := ⟨(eq_Report a a h).1, (eq_Report a a h).2.2 rfl⟩
section
set_option maxRecDepth 8000
noncomputable def dc_spec_ReportOf : DCode :=
  (.seq [2, 0] (.region [oa 0 2 (.allocB 0 [(.int .i64 0), .nils])])
  (.seq [3, 2, 0] (.region [⟨0, some 7, .a false (.litSlice 1 0 [] []) (some (.one (.int .i64))), none, []⟩,
 oa 1 8 (.build [(.int .i64 0), .nils] [(1, 1, (.t 7))]),
 oa 2 3 (.allocB 1 [(.int .i64 0), .nils]),
 os 3 (.storeB 1 2 (.t 3) (.t 8))])
  (.seq [3, 2, 0] (.seq [11, 3, 2, 0] (.region [on 0 9 0,
 oc 1 10 s_spec_IsHeld p_spec_IsHeld D_spec_IsHeld [(.t 9)],
 oa 2 11 (.un .not (.t 10))])
  (.cond (.t 11) (.seq [2] (.region [ob 0 12 (.loadB 1 (some 2) (.t 3)),
 os 1 (.storeB 0 2 (.t 2) (.t 12))])
  .ret) .skip))
  (.seq [3, 2, 0] (.seq [4, 3, 2, 0] (.region [oi 0 4 0])
  (.block 0 (.loop [0, 2, 3, 4] 1 (.seq [4, 3, 2, 0] (.seq [16, 4, 3, 2, 0] (.region [om 0 13 4,
 on 1 14 0,
 oa 2 15 (.len (.t 14)),
 oa 3 16 (.bin .lss (.t 13) (.t 15))])
  (.cond (.t 16) .skip (.exit 0)))
  (.seq [4, 3, 2, 0] (.block 1 (.seq [34, 4, 3, 2, 0] (.region [on 0 19 0,
 om 1 20 4,
 oa 2 21 (.indexA 5 (.t 19) (.t 20)),
 oa 3 22 (.fieldA 1 (.t 21)),
 oa 4 23 (.fieldA 0 (.t 22)),
 oa 5 24 (.loadH none (.t 23)),
 oa 6 25 (.bin .eql (.t 24) (.c (.int .i64 2))),
 om 7 26 25,
 ⟨8, some 27, .a true (.mv (.t 0)) none, (some (26, false)), []⟩,
 og 9 28 (.mv (.t 4)) 26 false,
 og 10 29 (.indexA 5 (.t 27) (.t 28)) 26 false,
 og 11 30 (.fieldA 1 (.t 29)) 26 false,
 og 12 31 (.fieldA 0 (.t 30)) 26 false,
 og 13 32 (.loadH none (.t 31)) 26 false,
 og 14 33 (.bin .eql (.t 32) (.c (.int .i64 8))) 26 false,
 oa 15 34 (.pick (.t 26) (.c (.bool true)) (.t 33))])
  (.cond (.t 34) (.region [oa 0 35 (.fieldA 0 (.t 3)),
 xA 1 36 (.loadB 1 none (.t 35)) (rg 1),
 on 2 37 0,
 om 3 38 4,
 xA 4 39 (.indexA 5 (.t 37) (.t 38)) [2, 3],
 xA 5 40 (.fieldA 1 (.t 39)) [2, 3, 4],
 xA 6 41 (.fieldA 2 (.t 40)) [2, 3, 4, 5],
 xA 7 42 (.loadH none (.t 41)) [2, 3, 4, 5, 6],
 xA 8 43 (.bin .or (.t 36) (.t 42)) (rg 8),
 xA 9 44 (.fieldA 0 (.t 3)) (rg 9),
 xS 10 (.storeB 1 1 (.t 44) (.t 43)) (rg 10)]) .skip)))
  (.region [om 0 17 4,
 oa 1 18 (.bin .add (.t 17) (.c (.int .i64 1))),
 om 2 4 18]))))))
  (.seq [3, 2] (.seq [5, 3, 2, 0] (.region [oi 0 5 1])
  (.block 2 (.loop [0, 2, 3, 5] 1 (.seq [5, 3, 2, 0] (.seq [46, 5, 3, 2, 0] (.region [om 0 45 5,
 oa 1 46 (.bin .leq (.t 45) (.c (.int .i64 56)))])
  (.cond (.t 46) .skip (.exit 2)))
  (.seq [5, 3, 2, 0] (.block 3 (.seq [6, 5, 3, 2, 0] (.region [oi 0 6 0])
  (.block 4 (.loop [0, 2, 3, 5, 6] 1 (.seq [6, 5, 3, 2, 0] (.seq [52, 6, 5, 3, 2, 0] (.region [om 0 49 6,
 on 1 50 0,
 oa 2 51 (.len (.t 50)),
 oa 3 52 (.bin .lss (.t 49) (.t 51))])
  (.cond (.t 52) .skip (.exit 4)))
  (.seq [6, 5, 3, 2, 0] (.block 5 (.seq [62, 6, 5, 3, 2, 0] (.region [on 0 55 0,
 om 1 56 6,
 oa 2 57 (.indexA 5 (.t 55) (.t 56)),
 oa 3 58 (.fieldA 1 (.t 57)),
 oa 4 59 (.fieldA 1 (.t 58)),
 oa 5 60 (.loadH none (.t 59)),
 om 6 61 5,
 oa 7 62 (.bin .eql (.t 60) (.t 61))])
  (.cond (.t 62) (.seq [5, 3, 2, 0] (.region [oa 0 63 (.fieldA 1 (.t 3)),
 ob 1 64 (.loadB 1 none (.t 63)),
 om 2 65 5,
 ⟨3, some 66, .a false (.litSlice 1 1 [(.int .i64 0)] [(0, 1, (.t 65))]) (some (.one (.int .i64))), none, []⟩,
 oa 4 67 (.app 1 (.t 64) (.t 66)),
 oa 5 68 (.fieldA 1 (.t 3)),
 os 6 (.storeB 1 1 (.t 68) (.t 67))])
  (.exit 4)) .skip)))
  (.region [om 0 53 6,
 oa 1 54 (.bin .add (.t 53) (.c (.int .i64 1))),
 om 2 6 54])))))))
  (.region [om 0 47 5,
 oa 1 48 (.bin .add (.t 47) (.c (.int .i64 1))),
 om 2 5 48]))))))
  (.seq [2] (.region [ob 0 69 (.loadB 1 (some 2) (.t 3)),
 os 1 (.storeB 0 2 (.t 2) (.t 69))])
  .ret))))))
noncomputable def df_spec_ReportOf : DFun := ⟨1, 70, 2, false, [.cell 2 (some 2)], dc_spec_ReportOf⟩
noncomputable def pf_spec_ReportOf : PFun := df_spec_ReportOf.er
noncomputable def f_spec_ReportOf : AFun := pf_spec_ReportOf.er
@[irreducible] noncomputable def s_spec_ReportOf : CallSem := funSem f_spec_ReportOf
@[irreducible] noncomputable def p_spec_ReportOf : PSem := pfunSem pf_spec_ReportOf
theorem sp_spec_ReportOf : SoundP s_spec_ReportOf p_spec_ReportOf := by unfold s_spec_ReportOf p_spec_ReportOf; exact pfun_sound (f := pf_spec_ReportOf) ⟨sp_spec_IsHeld, trivial⟩
def h_spec_ReportOf : List HT := [.one .frz (.sl (.cons (.int .i64) (.cons (.int .i64) (.cons (.int .i64) (.cons (.int .i64) (.one (.int .i64)))))))]
def q_spec_ReportOf : QT := .one (.agg [(.own, .int .i64), (.own, .sl (.one (.int .i64)))])
@[irreducible] noncomputable def v_spec_ReportOf (x : List (Int × Int × Int × Int × Int)) : Int × List (Int) := (shut fun x => fnV df_spec_ReportOf h_spec_ReportOf q_spec_ReportOf x).1 x
@[irreducible] noncomputable def ok_spec_ReportOf (x : List (Int × Int × Int × Int × Int)) : Prop := (shut fun x => fnOk df_spec_ReportOf h_spec_ReportOf q_spec_ReportOf x).1 x
theorem vu_spec_ReportOf (x : List (Int × Int × Int × Int × Int)) : v_spec_ReportOf x = fnV df_spec_ReportOf h_spec_ReportOf q_spec_ReportOf x := by unfold v_spec_ReportOf; exact congrFun (shut _).2 x
theorem ou_spec_ReportOf (x : List (Int × Int × Int × Int × Int)) : ok_spec_ReportOf x = fnOk df_spec_ReportOf h_spec_ReportOf q_spec_ReportOf x := by unfold ok_spec_ReportOf; exact congrFun (shut _).2 x
noncomputable def D_spec_ReportOf : DSem := DSemOf h_spec_ReportOf q_spec_ReportOf ok_spec_ReportOf v_spec_ReportOf
theorem ck_spec_ReportOf (x : List (Int × Int × Int × Int × Int)) : fnChk df_spec_ReportOf h_spec_ReportOf q_spec_ReportOf x = true := by kernel_rfl
theorem ob_spec_ReportOf : AllD df_spec_ReportOf.body.obs := ⟨sd_spec_IsHeld, trivial⟩
theorem st_spec_ReportOf : fnSt df_spec_ReportOf h_spec_ReportOf q_spec_ReportOf = true := by kernel_rfl
theorem sd_spec_ReportOf : SoundD p_spec_ReportOf D_spec_ReportOf := by unfold p_spec_ReportOf; exact soundD_of (f := df_spec_ReportOf) (hs := h_spec_ReportOf) (q := q_spec_ReportOf) ob_spec_ReportOf st_spec_ReportOf ck_spec_ReportOf (fun x h => Eq.mp (ou_spec_ReportOf x) h) (fun x => (vu_spec_ReportOf x).symm)
noncomputable def dc_impl_copyInts : DCode :=
  (.seq [0] (.region [oa 0 2 (.mv (.c .nils))])
  (.seq [2] (.region [on 0 3 0,
 oa 1 4 (.app 1 (.c .nils) (.t 3)),
 om 2 2 4])
  .ret))
noncomputable def df_impl_copyInts : DFun := ⟨1, 5, 0, false, [.tmp 2], dc_impl_copyInts⟩
noncomputable def pf_impl_copyInts : PFun := df_impl_copyInts.er
noncomputable def f_impl_copyInts : AFun := pf_impl_copyInts.er
@[irreducible] noncomputable def s_impl_copyInts : CallSem := funSem f_impl_copyInts
@[irreducible] noncomputable def p_impl_copyInts : PSem := pfunSem pf_impl_copyInts
theorem sp_impl_copyInts : SoundP s_impl_copyInts p_impl_copyInts := by unfold s_impl_copyInts p_impl_copyInts; exact pfun_sound (f := pf_impl_copyInts) trivial
def h_impl_copyInts : List HT := [.one .frz (.sl (.one (.int .i64)))]
def q_impl_copyInts : QT := .one (.one .own (.sl (.one (.int .i64))))
@[irreducible] noncomputable def v_impl_copyInts (x : List (Int)) : List (Int) := (shut fun x => fnV df_impl_copyInts h_impl_copyInts q_impl_copyInts x).1 x
@[irreducible] noncomputable def ok_impl_copyInts (x : List (Int)) : Prop := (shut fun x => fnOk df_impl_copyInts h_impl_copyInts q_impl_copyInts x).1 x
theorem vu_impl_copyInts (x : List (Int)) : v_impl_copyInts x = fnV df_impl_copyInts h_impl_copyInts q_impl_copyInts x := by unfold v_impl_copyInts; exact congrFun (shut _).2 x
theorem ou_impl_copyInts (x : List (Int)) : ok_impl_copyInts x = fnOk df_impl_copyInts h_impl_copyInts q_impl_copyInts x := by unfold ok_impl_copyInts; exact congrFun (shut _).2 x
noncomputable def D_impl_copyInts : DSem := DSemOf h_impl_copyInts q_impl_copyInts ok_impl_copyInts v_impl_copyInts
theorem ck_impl_copyInts (x : List (Int)) : fnChk df_impl_copyInts h_impl_copyInts q_impl_copyInts x = true := by kernel_rfl
theorem ob_impl_copyInts : AllD df_impl_copyInts.body.obs := trivial
theorem st_impl_copyInts : fnSt df_impl_copyInts h_impl_copyInts q_impl_copyInts = true := by kernel_rfl
theorem sd_impl_copyInts : SoundD p_impl_copyInts D_impl_copyInts := by unfold p_impl_copyInts; exact soundD_of (f := df_impl_copyInts) (hs := h_impl_copyInts) (q := q_impl_copyInts) ob_impl_copyInts st_impl_copyInts ck_impl_copyInts (fun x h => Eq.mp (ou_impl_copyInts x) h) (fun x => (vu_impl_copyInts x).symm)
noncomputable def dc_impl_hasInt : DCode :=
  (.seq [1, 0] (.region [oa 0 4 (.mv (.c (.bool false)))])
  (.seq [] (.seq [9, 8, 7, 1] (.region [on 0 7 0,
 oa 1 8 (.len (.t 7)),
 oi 2 9 0])
  (.block 0 (.loop [1, 7, 8, 9] 1 (.seq [10, 9, 8, 7, 1] (.region [oa 0 10 (.bin .lss (.t 9) (.t 8))])
  (.seq [9, 8, 7, 1] (.cond (.t 10) .skip (.exit 0))
  (.seq [9, 8, 7, 1] (.block 1 (.seq [9, 8, 7, 6, 1] (.region [oa 0 11 (.indexA 1 (.t 7) (.t 9)),
 oa 1 12 (.loadH none (.t 11)),
 om 2 6 12])
  (.seq [15, 9, 8, 7, 1] (.region [om 0 13 6,
 om 1 14 1,
 oa 2 15 (.bin .eql (.t 13) (.t 14))])
  (.cond (.t 15) (.seq [4] (.region [oa 0 4 (.mv (.c (.bool true)))])
  .ret) .skip))))
  (.region [oa 0 16 (.bin .add (.t 9) (.c (.int .i64 1))),
 om 1 9 16])))))))
  (.seq [4] (.region [oa 0 4 (.mv (.c (.bool false)))])
  .ret)))
noncomputable def df_impl_hasInt : DFun := ⟨2, 17, 0, true, [.tmp 4], dc_impl_hasInt⟩
noncomputable def pf_impl_hasInt : PFun := df_impl_hasInt.er
noncomputable def f_impl_hasInt : AFun := pf_impl_hasInt.er
@[irreducible] noncomputable def s_impl_hasInt : CallSem := funSem f_impl_hasInt
@[irreducible] noncomputable def p_impl_hasInt : PSem := pfunSem pf_impl_hasInt
theorem sp_impl_hasInt : SoundP s_impl_hasInt p_impl_hasInt := by unfold s_impl_hasInt p_impl_hasInt; exact pfun_sound (f := pf_impl_hasInt) trivial
def h_impl_hasInt : List HT := [.one .frz (.sl (.one (.int .i64))), .one .frz (.int .i64)]
def q_impl_hasInt : QT := .one (.one .own (.bool))
@[irreducible] noncomputable def v_impl_hasInt (x : List (Int) × Int) : Bool := (shut fun x => fnV df_impl_hasInt h_impl_hasInt q_impl_hasInt x).1 x
@[irreducible] noncomputable def ok_impl_hasInt (x : List (Int) × Int) : Prop := (shut fun x => fnOk df_impl_hasInt h_impl_hasInt q_impl_hasInt x).1 x
theorem vu_impl_hasInt (x : List (Int) × Int) : v_impl_hasInt x = fnV df_impl_hasInt h_impl_hasInt q_impl_hasInt x := by unfold v_impl_hasInt; exact congrFun (shut _).2 x
theorem ou_impl_hasInt (x : List (Int) × Int) : ok_impl_hasInt x = fnOk df_impl_hasInt h_impl_hasInt q_impl_hasInt x := by unfold ok_impl_hasInt; exact congrFun (shut _).2 x
noncomputable def D_impl_hasInt : DSem := DSemOf h_impl_hasInt q_impl_hasInt ok_impl_hasInt v_impl_hasInt
theorem ck_impl_hasInt (x : List (Int) × Int) : fnChk df_impl_hasInt h_impl_hasInt q_impl_hasInt x = true := by kernel_rfl
theorem ob_impl_hasInt : AllD df_impl_hasInt.body.obs := trivial
theorem st_impl_hasInt : fnSt df_impl_hasInt h_impl_hasInt q_impl_hasInt = true := by kernel_rfl
theorem sd_impl_hasInt : SoundD p_impl_hasInt D_impl_hasInt := by unfold p_impl_hasInt; exact soundD_of (f := df_impl_hasInt) (hs := h_impl_hasInt) (q := q_impl_hasInt) ob_impl_hasInt st_impl_hasInt ck_impl_hasInt (fun x h => Eq.mp (ou_impl_hasInt x) h) (fun x => (vu_impl_hasInt x).symm)
noncomputable def dc_impl_codesOf : DCode :=
  (.seq [0] (.region [oa 0 2 (.mv (.c .nils))])
  (.seq [3] (.region [on 0 7 0,
 oc 1 8 s_impl_copyInts p_impl_copyInts D_impl_copyInts [(.t 7)],
 om 2 3 8])
  (.seq [3] (.region [on 0 9 3,
 ⟨1, some 10, .mark s_sort_Ints M_sort_Ints (.t 9) (.c (.int .i64 0)), none, []⟩])
  (.seq [4, 3] (.region [oa 0 4 (.mv (.c .nils))])
  (.seq [4] (.seq [13, 12, 11, 4] (.region [on 0 11 3,
 oa 1 12 (.len (.t 11)),
 oi 2 13 0])
  (.block 0 (.loop [4, 11, 12, 13] 1 (.seq [14, 13, 12, 11, 4] (.region [oa 0 14 (.bin .lss (.t 13) (.t 12))])
  (.seq [13, 12, 11, 4] (.cond (.t 14) .skip (.exit 0))
  (.seq [13, 12, 11, 4] (.block 1 (.seq [13, 12, 11, 6, 4] (.region [oa 0 15 (.indexA 1 (.t 11) (.t 13)),
 ob 1 16 (.loadH none (.t 15)),
 om 2 6 16])
  (.seq [24, 13, 12, 11, 6, 4] (.region [om 0 17 6,
 oa 1 18 (.bin .neq (.t 17) (.c (.int .i64 0))),
 om 2 19 18,
 ⟨3, some 20, .a true (.mv (.t 4)) none, (some (19, true)), []⟩,
 og 4 21 (.mv (.t 6)) 19 true,
 ⟨5, some 22, .call false s_impl_hasInt p_impl_hasInt D_impl_hasInt [(.t 20), (.t 21)], (some (19, true)), []⟩,
 og 6 23 (.un .not (.t 22)) 19 true,
 oa 7 24 (.pick (.t 19) (.t 23) (.c (.bool false)))])
  (.cond (.t 24) (.region [om 0 25 4,
 om 1 26 6,
 ⟨2, some 27, .a false (.litSlice 1 1 [(.int .i64 0)] [(0, 1, (.t 26))]) (some (.one (.int .i64))), none, []⟩,
 oa 3 28 (.app 1 (.t 25) (.t 27)),
 om 4 4 28]) .skip))))
  (.region [oa 0 29 (.bin .add (.t 13) (.c (.int .i64 1))),
 om 1 13 29])))))))
  (.seq [2] (.region [om 0 30 4,
 om 1 2 30])
  .ret))))))
noncomputable def df_impl_codesOf : DFun := ⟨1, 31, 0, false, [.tmp 2], dc_impl_codesOf⟩
noncomputable def pf_impl_codesOf : PFun := df_impl_codesOf.er
noncomputable def f_impl_codesOf : AFun := pf_impl_codesOf.er
@[irreducible] noncomputable def s_impl_codesOf : CallSem := funSem f_impl_codesOf
@[irreducible] noncomputable def p_impl_codesOf : PSem := pfunSem pf_impl_codesOf
theorem sp_impl_codesOf : SoundP s_impl_codesOf p_impl_codesOf := by unfold s_impl_codesOf p_impl_codesOf; exact pfun_sound (f := pf_impl_codesOf) ⟨sp_impl_copyInts, smk_sort_Ints, sp_impl_hasInt, trivial⟩
def h_impl_codesOf : List HT := [.one .frz (.sl (.one (.int .i64)))]
def q_impl_codesOf : QT := .one (.one .own (.sl (.one (.int .i64))))
@[irreducible] noncomputable def v_impl_codesOf (x : List (Int)) : List (Int) := (shut fun x => fnV df_impl_codesOf h_impl_codesOf q_impl_codesOf x).1 x
@[irreducible] noncomputable def ok_impl_codesOf (x : List (Int)) : Prop := (shut fun x => fnOk df_impl_codesOf h_impl_codesOf q_impl_codesOf x).1 x
theorem vu_impl_codesOf (x : List (Int)) : v_impl_codesOf x = fnV df_impl_codesOf h_impl_codesOf q_impl_codesOf x := by unfold v_impl_codesOf; exact congrFun (shut _).2 x
theorem ou_impl_codesOf (x : List (Int)) : ok_impl_codesOf x = fnOk df_impl_codesOf h_impl_codesOf q_impl_codesOf x := by unfold ok_impl_codesOf; exact congrFun (shut _).2 x
noncomputable def D_impl_codesOf : DSem := DSemOf h_impl_codesOf q_impl_codesOf ok_impl_codesOf v_impl_codesOf
theorem ck_impl_codesOf (x : List (Int)) : fnChk df_impl_codesOf h_impl_codesOf q_impl_codesOf x = true := by kernel_rfl
theorem ob_impl_codesOf : AllD df_impl_codesOf.body.obs := ⟨sd_impl_copyInts, sd_impl_hasInt, trivial⟩
theorem st_impl_codesOf : fnSt df_impl_codesOf h_impl_codesOf q_impl_codesOf = true := by kernel_rfl
theorem sd_impl_codesOf : SoundD p_impl_codesOf D_impl_codesOf := by unfold p_impl_codesOf; exact soundD_of (f := df_impl_codesOf) (hs := h_impl_codesOf) (q := q_impl_codesOf) ob_impl_codesOf st_impl_codesOf ck_impl_codesOf (fun x h => Eq.mp (ou_impl_codesOf x) h) (fun x => (vu_impl_codesOf x).symm)
noncomputable def dc_impl_ReportOf : DCode :=
  (.seq [2, 0] (.region [oa 0 2 (.allocB 0 [(.int .i64 0), .nils])])
  (.seq [2, 0] (.seq [9, 2, 0] (.region [on 0 7 0,
 oc 1 8 s_impl_IsHeld p_impl_IsHeld D_impl_IsHeld [(.t 7)],
 oa 2 9 (.un .not (.t 8))])
  (.cond (.t 9) (.seq [2] (.region [oa 0 10 (.build [(.int .i64 0), .nils] []),
 os 1 (.storeB 0 2 (.t 2) (.t 10))])
  .ret) .skip))
  (.seq [3, 2, 0] (.region [oa 0 3 (.allocB 1 [(.int .i64 0), .nils])])
  (.seq [4, 3, 2, 0] (.region [oa 0 4 (.mv (.c .nils))])
  (.seq [4, 3, 2] (.seq [13, 12, 11, 4, 3, 2] (.region [on 0 11 0,
 oa 1 12 (.len (.t 11)),
 oi 2 13 0])
  (.block 0 (.loop [2, 3, 4, 11, 12, 13] 1 (.seq [14, 13, 12, 11, 4, 3, 2] (.region [oa 0 14 (.bin .lss (.t 13) (.t 12))])
  (.seq [13, 12, 11, 4, 3, 2] (.cond (.t 14) .skip (.exit 0))
  (.seq [13, 12, 11, 4, 3, 2] (.block 1 (.seq [13, 12, 11, 6, 4, 3, 2] (.region [oa 0 15 (.indexA 5 (.t 11) (.t 13)),
 ob 1 16 (.loadH (some 5) (.t 15)),
 oa 2 6 (.allocB 2 [(.int .i64 0), (.int .i64 0), (.int .i64 0), (.int .i64 0), (.int .i64 0)]),
 os 3 (.storeB 2 5 (.t 6) (.t 16))])
  (.seq [13, 12, 11, 6, 4, 3, 2] (.seq [26, 13, 12, 11, 6, 4, 3, 2] (.region [oa 0 17 (.fieldA 1 (.t 6)),
 oa 1 18 (.fieldA 0 (.t 17)),
 oa 2 19 (.loadB 2 none (.t 18)),
 oa 3 20 (.bin .eql (.t 19) (.c (.int .i64 2))),
 om 4 21 20,
 og 5 22 (.fieldA 1 (.t 6)) 21 false,
 og 6 23 (.fieldA 0 (.t 22)) 21 false,
 og 7 24 (.loadB 2 none (.t 23)) 21 false,
 og 8 25 (.bin .eql (.t 24) (.c (.int .i64 8))) 21 false,
 oa 9 26 (.pick (.t 21) (.c (.bool true)) (.t 25))])
  (.cond (.t 26) (.region [oa 0 27 (.fieldA 0 (.t 3)),
 oa 1 28 (.loadB 1 none (.t 27)),
 oa 2 29 (.fieldA 1 (.t 6)),
 oa 3 30 (.fieldA 2 (.t 29)),
 oa 4 31 (.loadB 2 none (.t 30)),
 oa 5 32 (.bin .or (.t 28) (.t 31)),
 oa 6 33 (.fieldA 0 (.t 3)),
 os 7 (.storeB 1 1 (.t 33) (.t 32))]) .skip))
  (.region [om 0 34 4,
 oa 1 35 (.fieldA 1 (.t 6)),
 oa 2 36 (.fieldA 1 (.t 35)),
 ob 3 37 (.loadB 2 none (.t 36)),
 ⟨4, some 38, .a false (.litSlice 1 1 [(.int .i64 0)] [(0, 1, (.t 37))]) (some (.one (.int .i64))), none, []⟩,
 oa 5 39 (.app 1 (.t 34) (.t 38)),
 om 6 4 39]))))
  (.region [oa 0 40 (.bin .add (.t 13) (.c (.int .i64 1))),
 om 1 13 40])))))))
  (.seq [3, 2] (.region [on 0 41 4,
 oc 1 42 s_impl_codesOf p_impl_codesOf D_impl_codesOf [(.t 41)],
 oa 2 43 (.fieldA 1 (.t 3)),
 os 3 (.storeB 1 1 (.t 43) (.t 42))])
  (.seq [2] (.region [ob 0 44 (.loadB 1 (some 2) (.t 3)),
 os 1 (.storeB 0 2 (.t 2) (.t 44))])
  .ret)))))))
noncomputable def df_impl_ReportOf : DFun := ⟨1, 45, 3, false, [.cell 2 (some 2)], dc_impl_ReportOf⟩
noncomputable def pf_impl_ReportOf : PFun := df_impl_ReportOf.er
noncomputable def f_impl_ReportOf : AFun := pf_impl_ReportOf.er
@[irreducible] noncomputable def s_impl_ReportOf : CallSem := funSem f_impl_ReportOf
@[irreducible] noncomputable def p_impl_ReportOf : PSem := pfunSem pf_impl_ReportOf
theorem sp_impl_ReportOf : SoundP s_impl_ReportOf p_impl_ReportOf := by unfold s_impl_ReportOf p_impl_ReportOf; exact pfun_sound (f := pf_impl_ReportOf) ⟨sp_impl_IsHeld, sp_impl_codesOf, trivial⟩
def h_impl_ReportOf : List HT := [.one .frz (.sl (.cons (.int .i64) (.cons (.int .i64) (.cons (.int .i64) (.cons (.int .i64) (.one (.int .i64)))))))]
def q_impl_ReportOf : QT := .one (.agg [(.own, .int .i64), (.own, .sl (.one (.int .i64)))])
@[irreducible] noncomputable def v_impl_ReportOf (x : List (Int × Int × Int × Int × Int)) : Int × List (Int) := (shut fun x => fnV df_impl_ReportOf h_impl_ReportOf q_impl_ReportOf x).1 x
@[irreducible] noncomputable def ok_impl_ReportOf (x : List (Int × Int × Int × Int × Int)) : Prop := (shut fun x => fnOk df_impl_ReportOf h_impl_ReportOf q_impl_ReportOf x).1 x
theorem vu_impl_ReportOf (x : List (Int × Int × Int × Int × Int)) : v_impl_ReportOf x = fnV df_impl_ReportOf h_impl_ReportOf q_impl_ReportOf x := by unfold v_impl_ReportOf; exact congrFun (shut _).2 x
theorem ou_impl_ReportOf (x : List (Int × Int × Int × Int × Int)) : ok_impl_ReportOf x = fnOk df_impl_ReportOf h_impl_ReportOf q_impl_ReportOf x := by unfold ok_impl_ReportOf; exact congrFun (shut _).2 x
noncomputable def D_impl_ReportOf : DSem := DSemOf h_impl_ReportOf q_impl_ReportOf ok_impl_ReportOf v_impl_ReportOf
theorem ck_impl_ReportOf (x : List (Int × Int × Int × Int × Int)) : fnChk df_impl_ReportOf h_impl_ReportOf q_impl_ReportOf x = true := by kernel_rfl
theorem ob_impl_ReportOf : AllD df_impl_ReportOf.body.obs := ⟨sd_impl_IsHeld, sd_impl_codesOf, trivial⟩
theorem st_impl_ReportOf : fnSt df_impl_ReportOf h_impl_ReportOf q_impl_ReportOf = true := by kernel_rfl
theorem sd_impl_ReportOf : SoundD p_impl_ReportOf D_impl_ReportOf := by unfold p_impl_ReportOf; exact soundD_of (f := df_impl_ReportOf) (hs := h_impl_ReportOf) (q := q_impl_ReportOf) ob_impl_ReportOf st_impl_ReportOf ck_impl_ReportOf (fun x h => Eq.mp (ou_impl_ReportOf x) h) (fun x => (vu_impl_ReportOf x).symm)
noncomputable def c_laws_markHeldS : ACode :=
  (.seq (.region [⟨0, some 4, .mv (.c (.int .i64 0)), none, []⟩])
  (.seq (.seq (.region [⟨0, some 5, .mv (.c (.int .i64 0)), none, []⟩])
  (.block 0 (.loop [0, 1, 5] (.seq (.seq (.region [⟨0, some 6, .mv (.t 5), none, []⟩,
 ⟨1, some 7, .mv (.t 0), none, []⟩,
 ⟨2, some 8, .len (.t 7), none, []⟩,
 ⟨3, some 9, .bin .lss (.t 6) (.t 8), none, []⟩])
  (.cond (.t 9) .skip (.exit 0)))
  (.seq (.block 1 (.seq (.region [⟨0, some 12, .mv (.t 0), none, []⟩,
 ⟨1, some 13, .mv (.t 5), none, []⟩,
 ⟨2, some 14, .mv (.t 1), none, []⟩,
 ⟨3, some 15, .indexA 5 (.t 12) (.t 13), none, []⟩,
 ⟨4, some 16, .fieldA 0 (.t 15), none, []⟩,
 ⟨5, none, .storeH 1 (.t 16) (.t 14), none, []⟩])
  (.seq (.region [⟨0, some 17, .mv (.t 1), none, []⟩,
 ⟨1, some 18, .bin .add (.t 17) (.c (.int .i64 1)), none, []⟩,
 ⟨2, some 1, .mv (.t 18), none, []⟩])
  (.seq (.region [⟨0, some 19, .mv (.t 0), none, []⟩,
 ⟨1, some 20, .mv (.t 5), none, []⟩,
 ⟨2, some 21, .mv (.t 1), none, []⟩,
 ⟨3, some 22, .indexA 5 (.t 19) (.t 20), none, []⟩,
 ⟨4, some 23, .fieldA 1 (.t 22), none, []⟩,
 ⟨5, some 24, .fieldA 0 (.t 23), none, []⟩,
 ⟨6, none, .storeH 1 (.t 24) (.t 21), none, []⟩])
  (.seq (.region [⟨0, some 25, .mv (.t 1), none, []⟩,
 ⟨1, some 26, .bin .add (.t 25) (.c (.int .i64 1)), none, []⟩,
 ⟨2, some 1, .mv (.t 26), none, []⟩])
  (.seq (.region [⟨0, some 27, .mv (.t 0), none, []⟩,
 ⟨1, some 28, .mv (.t 5), none, []⟩,
 ⟨2, some 29, .mv (.t 1), none, []⟩,
 ⟨3, some 30, .indexA 5 (.t 27) (.t 28), none, []⟩,
 ⟨4, some 31, .fieldA 1 (.t 30), none, []⟩,
 ⟨5, some 32, .fieldA 1 (.t 31), none, []⟩,
 ⟨6, none, .storeH 1 (.t 32) (.t 29), none, []⟩])
  (.seq (.region [⟨0, some 33, .mv (.t 1), none, []⟩,
 ⟨1, some 34, .bin .add (.t 33) (.c (.int .i64 1)), none, []⟩,
 ⟨2, some 1, .mv (.t 34), none, []⟩])
  (.seq (.region [⟨0, some 35, .mv (.t 0), none, []⟩,
 ⟨1, some 36, .mv (.t 5), none, []⟩,
 ⟨2, some 37, .mv (.t 1), none, []⟩,
 ⟨3, some 38, .indexA 5 (.t 35) (.t 36), none, []⟩,
 ⟨4, some 39, .fieldA 1 (.t 38), none, []⟩,
 ⟨5, some 40, .fieldA 2 (.t 39), none, []⟩,
 ⟨6, none, .storeH 1 (.t 40) (.t 37), none, []⟩])
  (.seq (.region [⟨0, some 41, .mv (.t 1), none, []⟩,
 ⟨1, some 42, .bin .add (.t 41) (.c (.int .i64 1)), none, []⟩,
 ⟨2, some 1, .mv (.t 42), none, []⟩])
  (.seq (.region [⟨0, some 43, .mv (.t 0), none, []⟩,
 ⟨1, some 44, .mv (.t 5), none, []⟩,
 ⟨2, some 45, .mv (.t 1), none, []⟩,
 ⟨3, some 46, .indexA 5 (.t 43) (.t 44), none, []⟩,
 ⟨4, some 47, .fieldA 1 (.t 46), none, []⟩,
 ⟨5, some 48, .fieldA 3 (.t 47), none, []⟩,
 ⟨6, none, .storeH 1 (.t 48) (.t 45), none, []⟩])
  (.region [⟨0, some 49, .mv (.t 1), none, []⟩,
 ⟨1, some 50, .bin .add (.t 49) (.c (.int .i64 1)), none, []⟩,
 ⟨2, some 1, .mv (.t 50), none, []⟩])))))))))))
  (.region [⟨0, some 10, .mv (.t 5), none, []⟩,
 ⟨1, some 11, .bin .add (.t 10) (.c (.int .i64 1)), none, []⟩,
 ⟨2, some 5, .mv (.t 11), none, []⟩]))))))
  (.seq (.region [⟨0, some 51, .mv (.t 1), none, []⟩,
 ⟨1, some 4, .mv (.t 51), none, []⟩])
  .ret)))
noncomputable def f_laws_markHeldS : AFun := ⟨2, 52, 0, false, [.tmp 4], c_laws_markHeldS⟩
@[irreducible] noncomputable def s_laws_markHeldS : CallSem := funSem f_laws_markHeldS
@[irreducible] noncomputable def mg_laws_markHeldS (x : List (Int × Int × Int × Int × Int)) (m : Int) : (List (Int × Int × Int × Int × Int)) × Int := (shut fun (x : List (Int × Int × Int × Int × Int)) (m : Int) => mkL (RT.mkI (.cons (.int .i64) (.cons (.int .i64) (.cons (.int .i64) (.cons (.int .i64) (.one (.int .i64))))))) x m).1 x m
@[irreducible] noncomputable def mok_laws_markHeldS (x : List (Int × Int × Int × Int × Int)) : Prop := (shut fun (x : List (Int × Int × Int × Int × Int)) => CT.wl (.sl (.cons (.int .i64) (.cons (.int .i64) (.cons (.int .i64) (.cons (.int .i64) (.one (.int .i64))))))) x).1 x
theorem mgu_laws_markHeldS : mg_laws_markHeldS = fun x m => mkL (RT.mkI (.cons (.int .i64) (.cons (.int .i64) (.cons (.int .i64) (.cons (.int .i64) (.one (.int .i64))))))) x m := by unfold mg_laws_markHeldS; exact (shut _).2
theorem mou_laws_markHeldS : mok_laws_markHeldS = fun x => CT.wl (.sl (.cons (.int .i64) (.cons (.int .i64) (.cons (.int .i64) (.cons (.int .i64) (.one (.int .i64))))))) x := by unfold mok_laws_markHeldS; exact (shut _).2
theorem sl_laws_markHeldS : SlC s_laws_markHeldS (.cons (.int .i64) (.cons (.int .i64) (.cons (.int .i64) (.cons (.int .i64) (.one (.int .i64)))))) := by
  rintro h ω hd p l u m Q hok hinj hM hQ
  have hn := hM.len
  have hlb : l.length ≤ 9223372036854775807 := hok.1
  unfold s_laws_markHeldS
  refine fun_intro rfl ?_
  unfold c_laws_markHeldS
  repeat' (first | (simp only [go_sem, reduceIte, reduceCtorEq, Nat.reduceAdd, Nat.reduceBEq, Int.reduceLT, Int.reduceLE, Int.reduceGT, Int.reduceGE, Int.reduceBEq, Int.reduceBNe, Nat.reduceEqDiff, Nat.reduceLeDiff, Nat.reduceLT, hn]) | (refine aops_part rfl (fun hb => ?_) (fun hb => ?_) <;> simp only [hb, go_sem, reduceIte, reduceCtorEq, Nat.reduceAdd, Nat.reduceBEq, Int.reduceLT, Int.reduceLE, Int.reduceGT, Int.reduceGE, Int.reduceBEq, Int.reduceBNe, Nat.reduceEqDiff, Nat.reduceLeDiff, Nat.reduceLT, hn]) | (refine awp_part rfl (fun hb => ?_) (fun hb => ?_) <;> simp only [hb, go_sem, reduceIte, reduceCtorEq, Nat.reduceAdd, Nat.reduceBEq, Int.reduceLT, Int.reduceLE, Int.reduceGT, Int.reduceGE, Int.reduceBEq, Int.reduceBNe, Nat.reduceEqDiff, Nat.reduceLeDiff, Nat.reduceLT, hn]) | (refine wop_pick_part rfl (fun hb => ?_) (fun hb => ?_) <;> simp only [hb, go_sem, reduceIte, reduceCtorEq, Nat.reduceAdd, Nat.reduceBEq, Int.reduceLT, Int.reduceLE, Int.reduceGT, Int.reduceGE, Int.reduceBEq, Int.reduceBNe, Nat.reduceEqDiff, Nat.reduceLeDiff, Nat.reduceLT, hn]))
  refine loop_up l.length (fun i st => ∃ h', st = ⟨[u, .int .i64 (mkPre (RT.mkI (.cons (.int .i64) (.cons (.int .i64) (.cons (.int .i64) (.cons (.int .i64) (.one (.int .i64))))))) l m i).2, .undef, .undef, .undef, .int .i64 (i : Int)] ++ reps 46, [], h'⟩ ∧ Only (Under ω hd p) h h' ∧ MS h' ω hd p (.cons (.int .i64) (.cons (.int .i64) (.cons (.int .i64) (.cons (.int .i64) (.one (.int .i64)))))) (mkPre (RT.mkI (.cons (.int .i64) (.cons (.int .i64) (.cons (.int .i64) (.cons (.int .i64) (.one (.int .i64))))))) l m i).1 u) ?_ ?_
  · refine ⟨h, ?_, Only.refl _ _, hM⟩
    simp only [mkPre_zero, keep, Int.natCast_zero]
    rfl
  · rintro i st next hi ⟨h1, rfl, hO, hR⟩ hnx
    by_cases hlt : i < l.length
    · have hc : decide ((i : Int) < (l.length : Int)) = true := decide_eq_true (by omega)
      have hw : IntKind.i64.wrap ((i : Int) + 1) = ((i + 1 : Nat) : Int) := by rw [wrapI (by omega)]; omega
      obtain ⟨b, hub⟩ := hR.slice (by rw [mkPre_len]; omega)
      rw [mkPre_len] at hub
      subst hub
      cases hL : mkPre (RT.mkI (.cons (.int .i64) (.cons (.int .i64) (.cons (.int .i64) (.cons (.int .i64) (.one (.int .i64))))))) l m i with
      | mk L k0 =>
      rw [hL] at hR
      obtain ⟨hLl, hs, hx0⟩ := mkPre_step hlt hL
      have hiL : i < L.length := by omega
      have hwx := wl_get hok hlt
      rw [← hx0] at hwx
      have R0 := MS.frame hR hiL
      clear hx0
      generalize hx0 : List.getD L i (RT.dflt (.cons (.int .i64) (.cons (.int .i64) (.cons (.int .i64) (.cons (.int .i64) (.one (.int .i64))))))) = x0 at R0 hs hwx
      clear hx0
      have hx := idx_own (b := b) (w := 5) hlt (k := .i64)
      simp only
      obtain ⟨h2, s0, o0, R1⟩ := MS.st R0 hiL (off := 0) (by decide) (v := (.int .i64 k0)) rfl rfl (y := ((k0, x0.2.1, x0.2.2.1, x0.2.2.2.1, x0.2.2.2.2) : RT.D (.cons (.int .i64) (.cons (.int .i64) (.cons (.int .i64) (.cons (.int .i64) (.one (.int .i64)))))))) rfl hinj []
      replace s0 : x_storeH [] h1 1 (.ptr b (i * 5)) (.int .i64 k0) = some (.undef, [], h2) := s0
      obtain ⟨h3, s1, o1, R2⟩ := MS.st R1 hiL (off := 1) (by decide) (v := (.int .i64 (IntKind.i64.wrap (k0 + 1)))) rfl rfl (y := ((k0, (IntKind.i64.wrap (k0 + 1)), x0.2.2.1, x0.2.2.2.1, x0.2.2.2.2) : RT.D (.cons (.int .i64) (.cons (.int .i64) (.cons (.int .i64) (.cons (.int .i64) (.one (.int .i64)))))))) rfl hinj []
      replace s1 : x_storeH [] h2 1 (.ptr b (i * 5 + 1)) (.int .i64 (IntKind.i64.wrap (k0 + 1))) = some (.undef, [], h3) := s1
      obtain ⟨h4, s2, o2, R3⟩ := MS.st R2 hiL (off := 2) (by decide) (v := (.int .i64 (IntKind.i64.wrap (IntKind.i64.wrap (k0 + 1) + 1)))) rfl rfl (y := ((k0, (IntKind.i64.wrap (k0 + 1)), (IntKind.i64.wrap (IntKind.i64.wrap (k0 + 1) + 1)), x0.2.2.2.1, x0.2.2.2.2) : RT.D (.cons (.int .i64) (.cons (.int .i64) (.cons (.int .i64) (.cons (.int .i64) (.one (.int .i64)))))))) rfl hinj []
      replace s2 : x_storeH [] h3 1 (.ptr b (i * 5 + 1 + 1)) (.int .i64 (IntKind.i64.wrap (IntKind.i64.wrap (k0 + 1) + 1))) = some (.undef, [], h4) := s2
      obtain ⟨h5, s3, o3, R4⟩ := MS.st R3 hiL (off := 3) (by decide) (v := (.int .i64 (IntKind.i64.wrap (IntKind.i64.wrap (IntKind.i64.wrap (k0 + 1) + 1) + 1)))) rfl rfl (y := ((k0, (IntKind.i64.wrap (k0 + 1)), (IntKind.i64.wrap (IntKind.i64.wrap (k0 + 1) + 1)), (IntKind.i64.wrap (IntKind.i64.wrap (IntKind.i64.wrap (k0 + 1) + 1) + 1)), x0.2.2.2.2) : RT.D (.cons (.int .i64) (.cons (.int .i64) (.cons (.int .i64) (.cons (.int .i64) (.one (.int .i64)))))))) rfl hinj []
      replace s3 : x_storeH [] h4 1 (.ptr b (i * 5 + 1 + 2)) (.int .i64 (IntKind.i64.wrap (IntKind.i64.wrap (IntKind.i64.wrap (k0 + 1) + 1) + 1))) = some (.undef, [], h5) := s3
      obtain ⟨h6, s4, o4, R5⟩ := MS.st R4 hiL (off := 4) (by decide) (v := (.int .i64 (IntKind.i64.wrap (IntKind.i64.wrap (IntKind.i64.wrap (IntKind.i64.wrap (k0 + 1) + 1) + 1) + 1)))) rfl rfl (y := ((k0, (IntKind.i64.wrap (k0 + 1)), (IntKind.i64.wrap (IntKind.i64.wrap (k0 + 1) + 1)), (IntKind.i64.wrap (IntKind.i64.wrap (IntKind.i64.wrap (k0 + 1) + 1) + 1)), (IntKind.i64.wrap (IntKind.i64.wrap (IntKind.i64.wrap (IntKind.i64.wrap (k0 + 1) + 1) + 1) + 1))) : RT.D (.cons (.int .i64) (.cons (.int .i64) (.cons (.int .i64) (.cons (.int .i64) (.one (.int .i64)))))))) rfl hinj []
      replace s4 : x_storeH [] h5 1 (.ptr b (i * 5 + 1 + 3)) (.int .i64 (IntKind.i64.wrap (IntKind.i64.wrap (IntKind.i64.wrap (IntKind.i64.wrap (k0 + 1) + 1) + 1) + 1))) = some (.undef, [], h6) := s4
      repeat' (first | (simp only [go_sem, reduceIte, reduceCtorEq, Nat.reduceAdd, Nat.reduceBEq, Int.reduceLT, Int.reduceLE, Int.reduceGT, Int.reduceGE, Int.reduceBEq, Int.reduceBNe, Nat.reduceEqDiff, Nat.reduceLeDiff, Nat.reduceLT, hn, hc, hw, hx, s0, s1, s2, s3, s4]) | (refine aops_part rfl (fun hb => ?_) (fun hb => ?_) <;> simp only [hb, go_sem, reduceIte, reduceCtorEq, Nat.reduceAdd, Nat.reduceBEq, Int.reduceLT, Int.reduceLE, Int.reduceGT, Int.reduceGE, Int.reduceBEq, Int.reduceBNe, Nat.reduceEqDiff, Nat.reduceLeDiff, Nat.reduceLT, hn, hc, hw, hx, s0, s1, s2, s3, s4]) | (refine awp_part rfl (fun hb => ?_) (fun hb => ?_) <;> simp only [hb, go_sem, reduceIte, reduceCtorEq, Nat.reduceAdd, Nat.reduceBEq, Int.reduceLT, Int.reduceLE, Int.reduceGT, Int.reduceGE, Int.reduceBEq, Int.reduceBNe, Nat.reduceEqDiff, Nat.reduceLeDiff, Nat.reduceLT, hn, hc, hw, hx, s0, s1, s2, s3, s4]) | (refine wop_pick_part rfl (fun hb => ?_) (fun hb => ?_) <;> simp only [hb, go_sem, reduceIte, reduceCtorEq, Nat.reduceAdd, Nat.reduceBEq, Int.reduceLT, Int.reduceLE, Int.reduceGT, Int.reduceGE, Int.reduceBEq, Int.reduceBNe, Nat.reduceEqDiff, Nat.reduceLeDiff, Nat.reduceLT, hn, hc, hw, hx, s0, s1, s2, s3, s4]))
      exact hnx _ hlt ⟨h6, by rw [hs]; rfl, (Only.trans (Only.trans (Only.trans (Only.trans (Only.trans hO o0) o1) o2) o3) o4), by rw [hs]; exact R5⟩
    · have hc : decide ((i : Int) < (l.length : Int)) = false := decide_eq_false (by omega)
      have hi' : i = l.length := by omega
      subst hi'
      repeat' (first | (simp only [go_sem, reduceIte, reduceCtorEq, Nat.reduceAdd, Nat.reduceBEq, Int.reduceLT, Int.reduceLE, Int.reduceGT, Int.reduceGE, Int.reduceBEq, Int.reduceBNe, Nat.reduceEqDiff, Nat.reduceLeDiff, Nat.reduceLT, hn, hc]) | (refine aops_part rfl (fun hb => ?_) (fun hb => ?_) <;> simp only [hb, go_sem, reduceIte, reduceCtorEq, Nat.reduceAdd, Nat.reduceBEq, Int.reduceLT, Int.reduceLE, Int.reduceGT, Int.reduceGE, Int.reduceBEq, Int.reduceBNe, Nat.reduceEqDiff, Nat.reduceLeDiff, Nat.reduceLT, hn, hc]) | (refine awp_part rfl (fun hb => ?_) (fun hb => ?_) <;> simp only [hb, go_sem, reduceIte, reduceCtorEq, Nat.reduceAdd, Nat.reduceBEq, Int.reduceLT, Int.reduceLE, Int.reduceGT, Int.reduceGE, Int.reduceBEq, Int.reduceBNe, Nat.reduceEqDiff, Nat.reduceLeDiff, Nat.reduceLT, hn, hc]) | (refine wop_pick_part rfl (fun hb => ?_) (fun hb => ?_) <;> simp only [hb, go_sem, reduceIte, reduceCtorEq, Nat.reduceAdd, Nat.reduceBEq, Int.reduceLT, Int.reduceLE, Int.reduceGT, Int.reduceGE, Int.reduceBEq, Int.reduceBNe, Nat.reduceEqDiff, Nat.reduceLeDiff, Nat.reduceLT, hn, hc]))
      have e := mkPre_all (RT.mkI (.cons (.int .i64) (.cons (.int .i64) (.cons (.int .i64) (.cons (.int .i64) (.one (.int .i64))))))) l m
      rw [e] at hR ⊢
      exact hQ h1 hO hR
theorem mk_laws_markHeldS : SoundM s_laws_markHeldS (slMk (.cons (.int .i64) (.cons (.int .i64) (.cons (.int .i64) (.cons (.int .i64) (.one (.int .i64))))))).P := SlC.sound sl_laws_markHeldS
noncomputable def M_laws_markHeldS : DMk := ⟨.one (.sl (.cons (.int .i64) (.cons (.int .i64) (.cons (.int .i64) (.cons (.int .i64) (.one (.int .i64))))))), false, mok_laws_markHeldS, mg_laws_markHeldS, false⟩
theorem smk_laws_markHeldS : SoundM s_laws_markHeldS (DMk.P M_laws_markHeldS) := by unfold M_laws_markHeldS; rw [mou_laws_markHeldS, mgu_laws_markHeldS]; exact mk_laws_markHeldS
noncomputable def dc_laws_FnExactReportOf : DCode :=
  (.seq [0] (.region [oa 0 2 (.mv (.c (.bool false)))])
  (.seq [3, 0] (.region [oi 0 3 1048576])
  (.seq [3, 0] (.region [on 0 11 0,
 om 1 12 3,
 oc 2 13 s_laws_szHeldS p_laws_szHeldS D_laws_szHeldS [(.t 11), (.t 12)],
 om 3 3 13])
  (.seq [0] (.seq [15, 0] (.region [om 0 14 3,
 oa 1 15 (.bin .lss (.t 14) (.c (.int .i64 0)))])
  (.cond (.t 15) (.seq [2] (.region [oa 0 2 (.mv (.c (.bool true)))])
  .ret) .skip))
  (.seq [4, 0] (.region [on 0 16 0,
 oc 1 17 s_laws_toHeldS p_laws_toHeldS D_laws_toHeldS [(.t 16)],
 oc 2 18 s_spec_ReportOf p_spec_ReportOf D_spec_ReportOf [(.t 17)],
 oa 3 4 (.allocB 0 [(.int .i64 0), .nils]),
 os 4 (.storeB 0 2 (.t 4) (.t 18))])
  (.seq [5, 4, 0] (.region [on 0 19 0,
 oc 1 20 s_laws_toHeldS p_laws_toHeldS D_laws_toHeldS [(.t 19)],
 om 2 5 20])
  (.seq [6, 5, 4, 0] (.region [on 0 21 5,
 oc 1 22 s_impl_ReportOf p_impl_ReportOf D_impl_ReportOf [(.t 21)],
 oa 2 6 (.allocB 1 [(.int .i64 0), .nils]),
 os 3 (.storeB 1 2 (.t 6) (.t 22))])
  (.seq [6, 5, 4, 0] (.seq [26, 6, 5, 4, 0] (.region [oa 0 23 (.loadB 1 (some 2) (.t 6)),
 oa 1 24 (.loadB 0 (some 2) (.t 4)),
 oc 2 25 s_laws_eqReport p_laws_eqReport D_laws_eqReport [(.t 23), (.t 24)],
 oa 3 26 (.un .not (.t 25))])
  (.cond (.t 26) (.seq [2] (.region [oa 0 2 (.mv (.c (.bool false)))])
  .ret) .skip))
  (.seq [6, 5, 4, 0] (.seq [31, 6, 5, 4, 0] (.region [on 0 27 5,
 on 1 28 0,
 oc 2 29 s_laws_toHeldS p_laws_toHeldS D_laws_toHeldS [(.t 28)],
 oc 3 30 s_laws_eqHeldS p_laws_eqHeldS D_laws_eqHeldS [(.t 27), (.t 29)],
 oa 4 31 (.un .not (.t 30))])
  (.cond (.t 31) (.seq [2] (.region [oa 0 2 (.mv (.c (.bool false)))])
  .ret) .skip))
  (.seq [7, 6, 5, 4, 0] (.region [oi 0 7 1])
  (.seq [7, 6, 4, 0] (.region [on 0 32 5,
 om 1 33 7,
 ⟨2, some 34, .mark s_laws_markHeldS M_laws_markHeldS (.t 32) (.t 33), none, []⟩,
 om 3 7 34])
  (.seq [6, 4, 0] (.seq [42, 6, 4, 0] (.region [om 0 35 7,
 oa 1 36 (.bin .lss (.t 35) (.c (.int .i64 0))),
 om 2 37 36,
 og 3 38 (.loadB 1 (some 2) (.t 6)) 37 false,
 og 4 39 (.loadB 0 (some 2) (.t 4)) 37 false,
 ⟨5, some 40, .call false s_laws_eqReport p_laws_eqReport D_laws_eqReport [(.t 38), (.t 39)], (some (37, false)), []⟩,
 og 6 41 (.un .not (.t 40)) 37 false,
 oa 7 42 (.pick (.t 37) (.c (.bool true)) (.t 41))])
  (.cond (.t 42) (.seq [2] (.region [oa 0 2 (.mv (.c (.bool false)))])
  .ret) .skip))
  (.seq [8, 6, 4, 0] (.region [oi 0 8 1])
  (.seq [8, 6, 4, 0] (.region [oa 0 43 (.loadB 1 (some 2) (.t 6)),
 om 1 44 8,
 ⟨2, some 45, .mark s_laws_markReport M_laws_markReport (.t 43) (.t 44), none, []⟩,
 om 3 8 45])
  (.seq [9, 8, 6, 4, 0] (.region [oi 0 9 1])
  (.seq [9, 8, 6, 4, 0] (.region [oa 0 46 (.loadB 1 (some 2) (.t 6)),
 om 1 47 9,
 oc 2 48 s_laws_heldReport p_laws_heldReport D_laws_heldReport [(.t 46), (.t 47)],
 om 3 9 48])
  (.seq [9, 8, 6, 4, 0] (.seq [50, 9, 8, 6, 4, 0] (.region [om 0 49 9,
 oa 1 50 (.bin .lss (.t 49) (.c (.int .i64 0)))])
  (.cond (.t 50) (.seq [2] (.region [oa 0 2 (.mv (.c (.bool false)))])
  .ret) .skip))
  (.seq [8, 6, 4, 0] (.seq [53, 8, 6, 4, 0] (.region [om 0 51 9,
 om 1 52 8,
 oa 2 53 (.bin .neq (.t 51) (.t 52))])
  (.cond (.t 53) (.seq [2] (.region [oa 0 2 (.mv (.c (.bool false)))])
  .ret) .skip))
  (.seq [10, 8, 6, 4] (.region [on 0 54 0,
 oc 1 55 s_laws_toHeldS p_laws_toHeldS D_laws_toHeldS [(.t 54)],
 oc 2 56 s_impl_ReportOf p_impl_ReportOf D_impl_ReportOf [(.t 55)],
 oa 3 10 (.allocB 2 [(.int .i64 0), .nils]),
 os 4 (.storeB 2 2 (.t 10) (.t 56))])
  (.seq [8, 6] (.seq [60, 8, 6] (.region [oa 0 57 (.loadB 2 (some 2) (.t 10)),
 oa 1 58 (.loadB 0 (some 2) (.t 4)),
 oc 2 59 s_laws_eqReport p_laws_eqReport D_laws_eqReport [(.t 57), (.t 58)],
 oa 3 60 (.un .not (.t 59))])
  (.cond (.t 60) (.seq [2] (.region [oa 0 2 (.mv (.c (.bool false)))])
  .ret) .skip))
  (.seq [9, 8, 6] (.region [oi 0 9 1])
  (.seq [9, 8] (.region [oa 0 61 (.loadB 1 (some 2) (.t 6)),
 om 1 62 9,
 oc 2 63 s_laws_heldReport p_laws_heldReport D_laws_heldReport [(.t 61), (.t 62)],
 om 3 9 63])
  (.seq [9, 8] (.seq [65, 9, 8] (.region [om 0 64 9,
 oa 1 65 (.bin .lss (.t 64) (.c (.int .i64 0)))])
  (.cond (.t 65) (.seq [2] (.region [oa 0 2 (.mv (.c (.bool false)))])
  .ret) .skip))
  (.seq [] (.seq [68] (.region [om 0 66 9,
 om 1 67 8,
 oa 2 68 (.bin .neq (.t 66) (.t 67))])
  (.cond (.t 68) (.seq [2] (.region [oa 0 2 (.mv (.c (.bool false)))])
  .ret) .skip))
  (.seq [2] (.region [oa 0 2 (.mv (.c (.bool true)))])
  .ret)))))))))))))))))))))))))
noncomputable def df_laws_FnExactReportOf : DFun := ⟨1, 69, 3, true, [.tmp 2], dc_laws_FnExactReportOf⟩
noncomputable def pf_laws_FnExactReportOf : PFun := df_laws_FnExactReportOf.er
noncomputable def f_laws_FnExactReportOf : AFun := pf_laws_FnExactReportOf.er
@[irreducible] noncomputable def s_laws_FnExactReportOf : CallSem := funSem f_laws_FnExactReportOf
@[irreducible] noncomputable def p_laws_FnExactReportOf : PSem := pfunSem pf_laws_FnExactReportOf
theorem sp_laws_FnExactReportOf : SoundP s_laws_FnExactReportOf p_laws_FnExactReportOf := by unfold s_laws_FnExactReportOf p_laws_FnExactReportOf; exact pfun_sound (f := pf_laws_FnExactReportOf) ⟨sp_laws_szHeldS, sp_laws_toHeldS, sp_spec_ReportOf, sp_laws_toHeldS, sp_impl_ReportOf, sp_laws_eqReport, sp_laws_toHeldS, sp_laws_eqHeldS, smk_laws_markHeldS, sp_laws_eqReport, smk_laws_markReport, sp_laws_heldReport, sp_laws_toHeldS, sp_impl_ReportOf, sp_laws_eqReport, sp_laws_heldReport, trivial⟩
def h_laws_FnExactReportOf : List HT := [.one .frz (.sl (.cons (.int .i64) (.cons (.int .i64) (.cons (.int .i64) (.cons (.int .i64) (.one (.int .i64)))))))]
def q_laws_FnExactReportOf : QT := .one (.one .own (.bool))
@[irreducible] noncomputable def v_laws_FnExactReportOf (x : List (Int × Int × Int × Int × Int)) : Bool := (shut fun x => fnV df_laws_FnExactReportOf h_laws_FnExactReportOf q_laws_FnExactReportOf x).1 x
@[irreducible] noncomputable def ok_laws_FnExactReportOf (x : List (Int × Int × Int × Int × Int)) : Prop := (shut fun x => fnOk df_laws_FnExactReportOf h_laws_FnExactReportOf q_laws_FnExactReportOf x).1 x
theorem vu_laws_FnExactReportOf (x : List (Int × Int × Int × Int × Int)) : v_laws_FnExactReportOf x = fnV df_laws_FnExactReportOf h_laws_FnExactReportOf q_laws_FnExactReportOf x := by unfold v_laws_FnExactReportOf; exact congrFun (shut _).2 x
theorem ou_laws_FnExactReportOf (x : List (Int × Int × Int × Int × Int)) : ok_laws_FnExactReportOf x = fnOk df_laws_FnExactReportOf h_laws_FnExactReportOf q_laws_FnExactReportOf x := by unfold ok_laws_FnExactReportOf; exact congrFun (shut _).2 x
theorem ck_laws_FnExactReportOf (x : List (Int × Int × Int × Int × Int)) : fnChk df_laws_FnExactReportOf h_laws_FnExactReportOf q_laws_FnExactReportOf x = true := by kernel_rfl
theorem ob_laws_FnExactReportOf : AllD df_laws_FnExactReportOf.body.obs := ⟨sd_laws_szHeldS, sd_laws_toHeldS, sd_spec_ReportOf, sd_laws_toHeldS, sd_impl_ReportOf, sd_laws_eqReport, sd_laws_toHeldS, sd_laws_eqHeldS, sd_laws_eqReport, sd_laws_heldReport, sd_laws_toHeldS, sd_impl_ReportOf, sd_laws_eqReport, sd_laws_heldReport, trivial⟩
theorem st_laws_FnExactReportOf : fnSt df_laws_FnExactReportOf h_laws_FnExactReportOf q_laws_FnExactReportOf = true := by kernel_rfl
end
section
set_option maxRecDepth 100000
noncomputable def lc_spec_ReportOf_1 (x : List (Int × Int × Int × Int × Int)) (x0 : (Int × Int)) : Bool := (iLt x0.1 (lLen x))
noncomputable def lf_spec_ReportOf_1 (x : List (Int × Int × Int × Int × Int)) (x0 : (Int × Int)) : (Int × Int) := ((iAdd Go.IntKind.i64 x0.1 1), (bSel (bOr (iEq (lGet x (iNat x0.1) (0, 0, 0, 0, 0)).2.1 2) (iEq (lGet x (iNat x0.1) (0, 0, 0, 0, 0)).2.1 8)) (iOr Go.IntKind.i64 x0.2 (lGet x (iNat x0.1) (0, 0, 0, 0, 0)).2.2.2.1) x0.2))
noncomputable def lc_spec_ReportOf_2 (x0 : (Int × (List Int))) : Bool := (iLe x0.1 56)
noncomputable def lc_spec_ReportOf_3 (x : List (Int × Int × Int × Int × Int)) (x0 : (Int × (List Int))) (x1 : Int) : Bool := (bAnd (iLt x1 (lLen x)) (bNot (iEq (lGet x (iNat x1) (0, 0, 0, 0, 0)).2.2.1 x0.1)))
noncomputable def lf_spec_ReportOf_3 (x1 : Int) : Int := (iAdd Go.IntKind.i64 x1 1)
noncomputable def lf_spec_ReportOf_2 (x : List (Int × Int × Int × Int × Int)) (x0 : (Int × (List Int))) : (Int × (List Int)) := ((iAdd Go.IntKind.i64 x0.1 1), (bSel (iLt (loopV (lc_spec_ReportOf_3 x x0) lf_spec_ReportOf_3 0) (lLen x)) (lApp x0.2 [x0.1]) x0.2))
noncomputable def lp_spec_ReportOf_1 (x : List (Int × Int × Int × Int × Int)) (x0 : (Int × Int)) : Prop := (((iLt x0.1 (lLen x)) = true → (((((0 : Int) ≤ x0.1) ∧ (x0.1 < (((List.length x) : Int)))) ∧ (((iNat x0.1) < (List.length x)) ∧ (((iEq (lGet x (iNat x0.1) (0, 0, 0, 0, 0)).2.1 2) = true → True) ∧ ((iEq (lGet x (iNat x0.1) (0, 0, 0, 0, 0)).2.1 2) = false → ((((0 : Int) ≤ x0.1) ∧ (x0.1 < (((List.length x) : Int)))) ∧ ((iNat x0.1) < (List.length x))))))) ∧ (((bOr (iEq (lGet x (iNat x0.1) (0, 0, 0, 0, 0)).2.1 2) (iEq (lGet x (iNat x0.1) (0, 0, 0, 0, 0)).2.1 8)) = true → ((((0 : Int) ≤ x0.1) ∧ (x0.1 < (((List.length x) : Int)))) ∧ ((iNat x0.1) < (List.length x)))) ∧ ((bOr (iEq (lGet x (iNat x0.1) (0, 0, 0, 0, 0)).2.1 2) (iEq (lGet x (iNat x0.1) (0, 0, 0, 0, 0)).2.1 8)) = false → True)))) ∧ ((iLt x0.1 (lLen x)) = false → True))
noncomputable def lp_spec_ReportOf_3 (x : List (Int × Int × Int × Int × Int)) (x0 : (Int × (List Int))) (x1 : Int) : Prop := (((iLt x1 (lLen x)) = true → ((((0 : Int) ≤ x1) ∧ (x1 < (((List.length x) : Int)))) ∧ (((iNat x1) < (List.length x)) ∧ (((iEq (lGet x (iNat x1) (0, 0, 0, 0, 0)).2.2.1 x0.1) = true → (roomy (((List.length x0.2) + (List.length [x0.1])) * 1))) ∧ ((iEq (lGet x (iNat x1) (0, 0, 0, 0, 0)).2.2.1 x0.1) = false → True))))) ∧ ((iLt x1 (lLen x)) = false → True))
noncomputable def lp_spec_ReportOf_2 (x : List (Int × Int × Int × Int × Int)) (x0 : (Int × (List Int))) : Prop := (((iLe x0.1 56) = true → (LoopOk (lc_spec_ReportOf_3 x x0) lf_spec_ReportOf_3 (lp_spec_ReportOf_3 x x0) 0)) ∧ ((iLe x0.1 56) = false → True))
theorem ve_spec_ReportOf (x : List (Int × Int × Int × Int × Int)) : v_spec_ReportOf x = (bSel (bNot (v_spec_IsHeld x)) (0, []) ((loopV (lc_spec_ReportOf_1 x) (lf_spec_ReportOf_1 x) (0, 0)).2, (loopV lc_spec_ReportOf_2 (lf_spec_ReportOf_2 x) (1, [])).2)) := (vu_spec_ReportOf x).trans (by kernel_rfl)
theorem oe_spec_ReportOf (x : List (Int × Int × Int × Int × Int)) : ok_spec_ReportOf x = ((ok_spec_IsHeld x) ∧ (((bNot (v_spec_IsHeld x)) = true → True) ∧ ((bNot (v_spec_IsHeld x)) = false → ((LoopOk (lc_spec_ReportOf_1 x) (lf_spec_ReportOf_1 x) (lp_spec_ReportOf_1 x) (0, 0)) ∧ (LoopOk lc_spec_ReportOf_2 (lf_spec_ReportOf_2 x) (lp_spec_ReportOf_2 x) (1, [])))))) := (ou_spec_ReportOf x).trans (by kernel_rfl)
theorem ve_impl_copyInts (x : List (Int)) : v_impl_copyInts x = x := (vu_impl_copyInts x).trans (by kernel_rfl)
theorem oe_impl_copyInts (x : List (Int)) : ok_impl_copyInts x = (roomy ((List.length x) * 1)) := (ou_impl_copyInts x).trans (by kernel_rfl)
noncomputable def lc_impl_hasInt_1 (x : List (Int) × Int) (x0 : Int) : Bool := (bAnd (iLt x0 (lLen x.1)) (bNot (iEq (lGet x.1 (iNat x0) 0) x.2)))
noncomputable def lf_impl_hasInt_1 (x0 : Int) : Int := (iAdd Go.IntKind.i64 x0 1)
noncomputable def lp_impl_hasInt_1 (x : List (Int) × Int) (x0 : Int) : Prop := (((iLt x0 (lLen x.1)) = true → ((((0 : Int) ≤ x0) ∧ (x0 < (((List.length x.1) : Int)))) ∧ ((iNat x0) < (List.length x.1)))) ∧ ((iLt x0 (lLen x.1)) = false → True))
theorem ve_impl_hasInt (x : List (Int) × Int) : v_impl_hasInt x = (iLt (loopV (lc_impl_hasInt_1 x) lf_impl_hasInt_1 0) (lLen x.1)) := (vu_impl_hasInt x).trans (by kernel_rfl)
theorem oe_impl_hasInt (x : List (Int) × Int) : ok_impl_hasInt x = (LoopOk (lc_impl_hasInt_1 x) lf_impl_hasInt_1 (lp_impl_hasInt_1 x) 0) := (ou_impl_hasInt x).trans (by kernel_rfl)
noncomputable def lc_impl_codesOf_1 (x : List (Int)) (x0 : ((List Int) × Int)) : Bool := (iLt x0.2 (lLen (mg_sort_Ints (v_impl_copyInts x) 0).1))
noncomputable def lf_impl_codesOf_1 (x : List (Int)) (x0 : ((List Int) × Int)) : ((List Int) × Int) := ((bSel (bAnd (iNe (lGet (mg_sort_Ints (v_impl_copyInts x) 0).1 (iNat x0.2) 0) 0) (bNot (v_impl_hasInt (x0.1, (lGet (mg_sort_Ints (v_impl_copyInts x) 0).1 (iNat x0.2) 0))))) (lApp x0.1 [(lGet (mg_sort_Ints (v_impl_copyInts x) 0).1 (iNat x0.2) 0)]) x0.1), (iAdd Go.IntKind.i64 x0.2 1))
noncomputable def lp_impl_codesOf_1 (x : List (Int)) (x0 : ((List Int) × Int)) : Prop := (((iLt x0.2 (lLen (mg_sort_Ints (v_impl_copyInts x) 0).1)) = true → ((((0 : Int) ≤ x0.2) ∧ (x0.2 < (((List.length (mg_sort_Ints (v_impl_copyInts x) 0).1) : Int)))) ∧ (((iNat x0.2) < (List.length (mg_sort_Ints (v_impl_copyInts x) 0).1)) ∧ ((((iNe (lGet (mg_sort_Ints (v_impl_copyInts x) 0).1 (iNat x0.2) 0) 0) = true → (ok_impl_hasInt (x0.1, (lGet (mg_sort_Ints (v_impl_copyInts x) 0).1 (iNat x0.2) 0)))) ∧ ((iNe (lGet (mg_sort_Ints (v_impl_copyInts x) 0).1 (iNat x0.2) 0) 0) = false → True)) ∧ (((bAnd (iNe (lGet (mg_sort_Ints (v_impl_copyInts x) 0).1 (iNat x0.2) 0) 0) (bNot (v_impl_hasInt (x0.1, (lGet (mg_sort_Ints (v_impl_copyInts x) 0).1 (iNat x0.2) 0))))) = true → (roomy (((List.length x0.1) + (List.length [(lGet (mg_sort_Ints (v_impl_copyInts x) 0).1 (iNat x0.2) 0)])) * 1))) ∧ ((bAnd (iNe (lGet (mg_sort_Ints (v_impl_copyInts x) 0).1 (iNat x0.2) 0) 0) (bNot (v_impl_hasInt (x0.1, (lGet (mg_sort_Ints (v_impl_copyInts x) 0).1 (iNat x0.2) 0))))) = false → True)))))) ∧ ((iLt x0.2 (lLen (mg_sort_Ints (v_impl_copyInts x) 0).1)) = false → True))
theorem ve_impl_codesOf (x : List (Int)) : v_impl_codesOf x = (loopV (lc_impl_codesOf_1 x) (lf_impl_codesOf_1 x) ([], 0)).1 := (vu_impl_codesOf x).trans (by kernel_rfl)
theorem oe_impl_codesOf (x : List (Int)) : ok_impl_codesOf x = ((ok_impl_copyInts x) ∧ ((((List.length (v_impl_copyInts x)) = (List.length (v_impl_copyInts x))) ∧ (DMk.ok (DMk.mk (RT.one (CT.sl (RT.one (CT.int Go.IntKind.i64)))) false mok_sort_Ints mg_sort_Ints true) (v_impl_copyInts x))) ∧ (LoopOk (lc_impl_codesOf_1 x) (lf_impl_codesOf_1 x) (lp_impl_codesOf_1 x) ([], 0)))) := (ou_impl_codesOf x).trans (by kernel_rfl)
noncomputable def lc_impl_ReportOf_1 (x : List (Int × Int × Int × Int × Int)) (x0 : ((List Int) × (Int × Int))) : Bool := (iLt x0.2.1 (lLen x))
noncomputable def lf_impl_ReportOf_1 (x : List (Int × Int × Int × Int × Int)) (x0 : ((List Int) × (Int × Int))) : ((List Int) × (Int × Int)) := ((lApp x0.1 [(lGet x (iNat x0.2.1) (0, 0, 0, 0, 0)).2.2.1]), (iAdd Go.IntKind.i64 x0.2.1 1), (bSel (bOr (iEq (lGet x (iNat x0.2.1) (0, 0, 0, 0, 0)).2.1 2) (iEq (lGet x (iNat x0.2.1) (0, 0, 0, 0, 0)).2.1 8)) (iOr Go.IntKind.i64 x0.2.2 (lGet x (iNat x0.2.1) (0, 0, 0, 0, 0)).2.2.2.1) x0.2.2))
noncomputable def lp_impl_ReportOf_1 (x : List (Int × Int × Int × Int × Int)) (x0 : ((List Int) × (Int × Int))) : Prop := (((iLt x0.2.1 (lLen x)) = true → ((((0 : Int) ≤ x0.2.1) ∧ (x0.2.1 < (((List.length x) : Int)))) ∧ (((iNat x0.2.1) < (List.length x)) ∧ (roomy (((List.length x0.1) + (List.length [(lGet x (iNat x0.2.1) (0, 0, 0, 0, 0)).2.2.1])) * 1))))) ∧ ((iLt x0.2.1 (lLen x)) = false → True))
theorem ve_impl_ReportOf (x : List (Int × Int × Int × Int × Int)) : v_impl_ReportOf x = (bSel (bNot (v_impl_IsHeld x)) (0, []) ((loopV (lc_impl_ReportOf_1 x) (lf_impl_ReportOf_1 x) ([], 0, 0)).2.2, (v_impl_codesOf (loopV (lc_impl_ReportOf_1 x) (lf_impl_ReportOf_1 x) ([], 0, 0)).1))) := (vu_impl_ReportOf x).trans (by kernel_rfl)
theorem oe_impl_ReportOf (x : List (Int × Int × Int × Int × Int)) : ok_impl_ReportOf x = ((ok_impl_IsHeld x) ∧ (((bNot (v_impl_IsHeld x)) = true → True) ∧ ((bNot (v_impl_IsHeld x)) = false → ((LoopOk (lc_impl_ReportOf_1 x) (lf_impl_ReportOf_1 x) (lp_impl_ReportOf_1 x) ([], 0, 0)) ∧ (ok_impl_codesOf (loopV (lc_impl_ReportOf_1 x) (lf_impl_ReportOf_1 x) ([], 0, 0)).1))))) := (ou_impl_ReportOf x).trans (by kernel_rfl)
theorem ve_laws_FnExactReportOf (x : List (Int × Int × Int × Int × Int)) : v_laws_FnExactReportOf x = (bOr (iLt (v_laws_szHeldS (x, 1048576)) 0) (bAnd (bNot (bNot (v_laws_eqReport ((v_impl_ReportOf (v_laws_toHeldS x)), (v_spec_ReportOf (v_laws_toHeldS x)))))) (bAnd (bNot (bNot (v_laws_eqHeldS ((v_laws_toHeldS x), (v_laws_toHeldS x))))) (bAnd (bNot (bOr (iLt (mg_laws_markHeldS (v_laws_toHeldS x) 1).2 0) (bNot (v_laws_eqReport ((v_impl_ReportOf (v_laws_toHeldS x)), (v_spec_ReportOf (v_laws_toHeldS x))))))) (bAnd (bNot (iLt (v_laws_heldReport (((v_impl_ReportOf (v_laws_toHeldS x)).1, (mg_laws_markReport (v_impl_ReportOf (v_laws_toHeldS x)) 1).1.2), 1)) 0)) (bAnd (bNot (iNe (v_laws_heldReport (((v_impl_ReportOf (v_laws_toHeldS x)).1, (mg_laws_markReport (v_impl_ReportOf (v_laws_toHeldS x)) 1).1.2), 1)) (mg_laws_markReport (v_impl_ReportOf (v_laws_toHeldS x)) 1).2)) (bAnd (bNot (bNot (v_laws_eqReport ((v_impl_ReportOf (v_laws_toHeldS x)), (v_spec_ReportOf (v_laws_toHeldS x)))))) (bAnd (bNot (iLt (v_laws_heldReport (((v_impl_ReportOf (v_laws_toHeldS x)).1, (mg_laws_markReport (v_impl_ReportOf (v_laws_toHeldS x)) 1).1.2), 1)) 0)) (bNot (iNe (v_laws_heldReport (((v_impl_ReportOf (v_laws_toHeldS x)).1, (mg_laws_markReport (v_impl_ReportOf (v_laws_toHeldS x)) 1).1.2), 1)) (mg_laws_markReport (v_impl_ReportOf (v_laws_toHeldS x)) 1).2)))))))))) := (vu_laws_FnExactReportOf x).trans (by kernel_rfl)
theorem oe_laws_FnExactReportOf (x : List (Int × Int × Int × Int × Int)) : ok_laws_FnExactReportOf x = ((ok_laws_szHeldS (x, 1048576)) ∧ (((iLt (v_laws_szHeldS (x, 1048576)) 0) = true → True) ∧ ((iLt (v_laws_szHeldS (x, 1048576)) 0) = false → ((ok_laws_toHeldS x) ∧ ((ok_spec_ReportOf (v_laws_toHeldS x)) ∧ ((ok_laws_toHeldS x) ∧ ((ok_impl_ReportOf (v_laws_toHeldS x)) ∧ ((ok_laws_eqReport ((v_impl_ReportOf (v_laws_toHeldS x)), (v_spec_ReportOf (v_laws_toHeldS x)))) ∧ (((bNot (v_laws_eqReport ((v_impl_ReportOf (v_laws_toHeldS x)), (v_spec_ReportOf (v_laws_toHeldS x))))) = true → True) ∧ ((bNot (v_laws_eqReport ((v_impl_ReportOf (v_laws_toHeldS x)), (v_spec_ReportOf (v_laws_toHeldS x))))) = false → ((ok_laws_toHeldS x) ∧ ((ok_laws_eqHeldS ((v_laws_toHeldS x), (v_laws_toHeldS x))) ∧ (((bNot (v_laws_eqHeldS ((v_laws_toHeldS x), (v_laws_toHeldS x)))) = true → True) ∧ ((bNot (v_laws_eqHeldS ((v_laws_toHeldS x), (v_laws_toHeldS x)))) = false → ((((List.length (v_laws_toHeldS x)) = (List.length (v_laws_toHeldS x))) ∧ (DMk.ok (DMk.mk (RT.one (CT.sl (RT.cons (CT.int Go.IntKind.i64) (RT.cons (CT.int Go.IntKind.i64) (RT.cons (CT.int Go.IntKind.i64) (RT.cons (CT.int Go.IntKind.i64) (RT.one (CT.int Go.IntKind.i64)))))))) false mok_laws_markHeldS mg_laws_markHeldS false) (v_laws_toHeldS x))) ∧ ((((iLt (mg_laws_markHeldS (v_laws_toHeldS x) 1).2 0) = true → True) ∧ ((iLt (mg_laws_markHeldS (v_laws_toHeldS x) 1).2 0) = false → (ok_laws_eqReport ((v_impl_ReportOf (v_laws_toHeldS x)), (v_spec_ReportOf (v_laws_toHeldS x)))))) ∧ (((bOr (iLt (mg_laws_markHeldS (v_laws_toHeldS x) 1).2 0) (bNot (v_laws_eqReport ((v_impl_ReportOf (v_laws_toHeldS x)), (v_spec_ReportOf (v_laws_toHeldS x)))))) = true → True) ∧ ((bOr (iLt (mg_laws_markHeldS (v_laws_toHeldS x) 1).2 0) (bNot (v_laws_eqReport ((v_impl_ReportOf (v_laws_toHeldS x)), (v_spec_ReportOf (v_laws_toHeldS x)))))) = false → ((((List.length (v_impl_ReportOf (v_laws_toHeldS x)).2) = (List.length (v_impl_ReportOf (v_laws_toHeldS x)).2)) ∧ (DMk.ok (DMk.mk (RT.cons (CT.int Go.IntKind.i64) (RT.one (CT.sl (RT.one (CT.int Go.IntKind.i64))))) true mok_laws_markReport mg_laws_markReport false) (v_impl_ReportOf (v_laws_toHeldS x)))) ∧ ((ok_laws_heldReport (((v_impl_ReportOf (v_laws_toHeldS x)).1, (mg_laws_markReport (v_impl_ReportOf (v_laws_toHeldS x)) 1).1.2), 1)) ∧ (((iLt (v_laws_heldReport (((v_impl_ReportOf (v_laws_toHeldS x)).1, (mg_laws_markReport (v_impl_ReportOf (v_laws_toHeldS x)) 1).1.2), 1)) 0) = true → True) ∧ ((iLt (v_laws_heldReport (((v_impl_ReportOf (v_laws_toHeldS x)).1, (mg_laws_markReport (v_impl_ReportOf (v_laws_toHeldS x)) 1).1.2), 1)) 0) = false → (((iNe (v_laws_heldReport (((v_impl_ReportOf (v_laws_toHeldS x)).1, (mg_laws_markReport (v_impl_ReportOf (v_laws_toHeldS x)) 1).1.2), 1)) (mg_laws_markReport (v_impl_ReportOf (v_laws_toHeldS x)) 1).2) = true → True) ∧ ((iNe (v_laws_heldReport (((v_impl_ReportOf (v_laws_toHeldS x)).1, (mg_laws_markReport (v_impl_ReportOf (v_laws_toHeldS x)) 1).1.2), 1)) (mg_laws_markReport (v_impl_ReportOf (v_laws_toHeldS x)) 1).2) = false → ((ok_laws_toHeldS x) ∧ ((ok_impl_ReportOf (v_laws_toHeldS x)) ∧ ((ok_laws_eqReport ((v_impl_ReportOf (v_laws_toHeldS x)), (v_spec_ReportOf (v_laws_toHeldS x)))) ∧ (((bNot (v_laws_eqReport ((v_impl_ReportOf (v_laws_toHeldS x)), (v_spec_ReportOf (v_laws_toHeldS x))))) = true → True) ∧ ((bNot (v_laws_eqReport ((v_impl_ReportOf (v_laws_toHeldS x)), (v_spec_ReportOf (v_laws_toHeldS x))))) = false → (ok_laws_heldReport (((v_impl_ReportOf (v_laws_toHeldS x)).1, (mg_laws_markReport (v_impl_ReportOf (v_laws_toHeldS x)) 1).1.2), 1))))))))))))))))))))))))))))))) := (ou_laws_FnExactReportOf x).trans (by kernel_rfl)
end
theorem inc_ext {a b : List Int} (ha : a.Pairwise (· < ·)) (hb : b.Pairwise (· < ·)) (h : ∀ x, x ∈ a ↔ x ∈ b) : a = b := by
  induction a generalizing b with
  | nil =>
    cases b with
    | nil => rfl
    | cons y b => exact absurd ((h y).2 List.mem_cons_self) List.not_mem_nil
  | cons x a ih =>
    cases b with
    | nil => exact absurd ((h x).1 List.mem_cons_self) List.not_mem_nil
    | cons y b =>
      obtain ⟨a1, a2⟩ := List.pairwise_cons.1 ha
      obtain ⟨b1, b2⟩ := List.pairwise_cons.1 hb
      have e : x = y := by
        rcases List.mem_cons.1 ((h x).1 List.mem_cons_self) with e | e
        · exact e
        · rcases List.mem_cons.1 ((h y).2 List.mem_cons_self) with g | g
          · exact g.symm
          · have := a1 _ g; have := b1 _ e; omega
      subst e
      congr 1
      refine ih a2 b2 fun z => ⟨fun hz => ?_, fun hz => ?_⟩
      · rcases List.mem_cons.1 ((h z).1 (List.mem_cons_of_mem _ hz)) with e | e
        · subst e; have := a1 _ hz; omega
        · exact e
      · rcases List.mem_cons.1 ((h z).2 (List.mem_cons_of_mem _ hz)) with e | e
        · subst e; have := b1 _ hz; omega
        · exact e
theorem getD_of {α : Type} (x : List α) (d : α) {i : Nat} (h : i < x.length) : x.getD i d = x[i] := by
  rw [List.getD_eq_getElem?_getD, List.getElem?_eq_getElem h]; rfl
theorem seek_at {α : Type} {c : Int → Bool} {f : Int → Int} {p : Int → Prop} (x : List α) (d : α) (q : α → Bool) (hl : x.length ≤ 1048576)
    (hc : ∀ i : Nat, i ≤ x.length → c (i : Int) = (decide (i < x.length) && !q (x.getD i d))) (hf : ∀ i : Nat, i < x.length → f (i : Int) = iAdd .i64 (i : Int) 1) (hp : ∀ i : Nat, i ≤ x.length → p (i : Int)) :
    LoopOk c f p 0 ∧ iLt (loopV c f 0) (lLen x) = x.any q := by
  obtain ⟨h1, k, hk, h2, h3⟩ := scan_st (c := c) (f := f) (p := p) (x0 := 0) x.length (fun i => (i : Int)) (fun i => !q (x.getD i d)) rfl (fun i hi _ => hc i hi) (fun i hi _ => by rw [hf i hi, iAdd_i64 (by unfold In64; omega)]; simp) (fun i hi _ => hp i hi)
  refine ⟨h1, ?_⟩
  rw [h2, iLt_eq, lLen_eq, Bool.eq_iff_iff, decide_eq_true_eq, List.any_eq_true]
  constructor
  · intro h
    have h4 : ¬ ∀ i, i < x.length → (!q (x.getD i d)) = true := fun hh => by have := h3.2 hh; omega
    simp only [Classical.not_forall, Bool.not_eq_true', Bool.not_eq_false] at h4
    obtain ⟨i, hi, g⟩ := h4
    exact ⟨_, getD_mem x i d hi, g⟩
  · rintro ⟨a, ha, g⟩
    obtain ⟨i, hi, rfl⟩ := List.getElem_of_mem ha
    have h5 : k ≠ x.length := fun e => by
      have := h3.1 e i hi
      rw [getD_of x d hi, g] at this
      exact absurd this (by decide)
    omega
theorem hasInt_eq (l : List Int) (v : Int) (hl : l.length ≤ 1048576) : ok_impl_hasInt (l, v) ∧ v_impl_hasInt (l, v) = decide (v ∈ l) := by
  rw [oe_impl_hasInt, ve_impl_hasInt]
  obtain ⟨h1, h2⟩ := seek_at (c := lc_impl_hasInt_1 (l, v)) (f := lf_impl_hasInt_1) (p := lp_impl_hasInt_1 (l, v)) l 0 (fun a => decide (a = v)) hl
    (fun i hi => by simp only [lc_impl_hasInt_1, bAnd_eq, iLt_eq, lLen_eq, bNot_eq, iEq_eq, lGet_eq, iNat_eq, Int.toNat_natCast, Int.ofNat_lt])
    (fun i hi => rfl) (fun i hi => by
      simp only [lp_impl_hasInt_1, iLt_eq, lLen_eq, iNat_eq, Int.toNat_natCast, decide_eq_true_eq]
      exact ⟨fun h => ⟨⟨by omega, by omega⟩, by omega⟩, fun _ => trivial⟩)
  refine ⟨h1, ?_⟩
  rw [h2, Bool.eq_iff_iff, List.any_eq_true, decide_eq_true_eq]
  constructor
  · rintro ⟨a, ha, g⟩; rw [decide_eq_true_eq] at g; exact g ▸ ha
  · intro h; exact ⟨v, h, by simp⟩
def IsCodes (C l : List Int) : Prop := l.Pairwise (· < ·) ∧ ∀ z, z ∈ l ↔ (z ∈ C ∧ z ≠ 0)
theorem take_mem {α : Type} (x : List α) (d : α) {i : Nat} (h : i < x.length) (z : α) : z ∈ x.take (i + 1) ↔ z ∈ x.take i ∨ z = x.getD i d := by
  rw [← take_snoc x d h, List.mem_append, List.mem_singleton]
theorem takeGet {α : Type} (x : List α) {i : Nat} {z : α} (h : z ∈ x.take i) : ∃ j, ∃ (hj : j < x.length), j < i ∧ z = x[j] := by
  obtain ⟨j, hj, rfl⟩ := List.getElem_of_mem h
  rw [List.length_take] at hj
  exact ⟨j, by omega, by omega, List.getElem_take ..⟩
theorem codesOf_eq (C : List Int) (hl : C.length ≤ 1048576) : ok_impl_codesOf C ∧ IsCodes C (v_impl_codesOf C) ∧ (v_impl_codesOf C).length ≤ C.length := by
  rw [oe_impl_codesOf, ve_impl_codesOf]
  simp only [oe_impl_copyInts, ve_impl_copyInts, DMk.ok]
  have hs : (mg_sort_Ints C 0).1 = sortL C := by rw [mgu_sort_Ints]
  have hsl := sortL_len C
  have hso : (sortL C).Pairwise (fun a b => a ≤ b) := by
    have := List.pairwise_mergeSort (le := fun x y : Int => decide (x ≤ y)) (by simp; intros; omega) (by simp; intros; omega) C
    exact this.imp (by simp)
  have hmem : ∀ z, z ∈ sortL C ↔ z ∈ C := fun z => (List.mergeSort_perm C _).mem_iff
  generalize sortL C = S at hs hsl hso hmem
  have key := loop_one (c := lc_impl_codesOf_1 C) (f := lf_impl_codesOf_1 C) (p := lp_impl_codesOf_1 C) (x0 := ([], 0))
    (fun st => ∃ i : Nat, st.2 = (i : Int) ∧ i ≤ S.length ∧ st.1.length ≤ i ∧ st.1.Pairwise (· < ·) ∧ ∀ z, z ∈ st.1 ↔ (z ∈ S.take i ∧ z ≠ 0)) (fun st => S.length - st.2.toNat) (by
    rintro ⟨l, n⟩ ⟨i, h1, hi, hli, hp, hm⟩
    simp only at h1 hli hp hm
    subst h1
    simp only [lc_impl_codesOf_1, lf_impl_codesOf_1, lp_impl_codesOf_1, ve_impl_copyInts, hs, iLt_eq, lLen_eq, lGet_eq, iNat_eq, Int.toNat_natCast, decide_eq_true_eq]
    generalize hv : S.getD i 0 = v
    obtain ⟨g1, g2⟩ := hasInt_eq l v (by omega)
    have r1 : roomy ((l.length + [v].length) * 1) := by unfold roomy; simp only [List.length_cons, List.length_nil]; omega
    refine ⟨⟨fun h => ⟨⟨by omega, by omega⟩, by omega, ⟨fun _ => g1, fun _ => trivial⟩, ⟨fun _ => r1, fun _ => trivial⟩⟩, fun _ => trivial⟩, fun h => ?_⟩
    have hi' : i < S.length := by omega
    refine ⟨⟨i + 1, by rw [iAdd_i64 (by unfold In64; omega)]; simp, by omega, ?_, ?_, ?_⟩, by rw [iAdd_i64 (by unfold In64; omega)]; omega⟩
    · rw [bSel_eq, lApp_eq]; split
      · simp only [List.length_append, List.length_cons, List.length_nil]; omega
      · omega
    · rw [bSel_eq, lApp_eq]; split
      · next hb =>
        rw [bAnd_eq, bNot_eq, g2, Bool.and_eq_true, iNe_eq] at hb
        obtain ⟨b1, b2⟩ := hb
        simp only [Bool.not_eq_true', decide_eq_false_iff_not] at b2
        refine List.pairwise_append.2 ⟨hp, List.pairwise_singleton _ _, fun a ha b hb => ?_⟩
        rw [List.mem_singleton] at hb
        subst hb
        obtain ⟨j, hj, hji, e⟩ := takeGet S ((hm a).1 ha).1
        have hle := List.pairwise_iff_getElem.1 hso j i hj hi' hji
        rw [← getD_of S 0 hi', hv] at hle
        have : a ≠ b := fun e => b2 (e ▸ ha)
        omega
      · exact hp
    · intro z
      rw [take_mem S 0 hi', hv, bSel_eq, lApp_eq]
      split
      · next hb =>
        rw [bAnd_eq, bNot_eq, g2, Bool.and_eq_true, iNe_eq] at hb
        obtain ⟨b1, b2⟩ := hb
        have b1 : v ≠ 0 := by simpa using b1
        rw [List.mem_append, List.mem_singleton, hm]
        constructor
        · rintro (⟨h3, h4⟩ | e)
          · exact ⟨.inl h3, h4⟩
          · exact ⟨.inr e, e ▸ b1⟩
        · rintro ⟨h3 | e, h4⟩
          · exact .inl ⟨h3, h4⟩
          · exact .inr e
      · next hb =>
        rw [bAnd_eq, bNot_eq, g2, Bool.and_eq_true, iNe_eq] at hb
        rw [hm]
        constructor
        · rintro ⟨h3, h4⟩; exact ⟨.inl h3, h4⟩
        · rintro ⟨h3 | e, h4⟩
          · exact ⟨h3, h4⟩
          · subst e
            have hz : z ∈ l := by
              refine Classical.byContradiction fun hn => hb ⟨by simpa using h4, by simpa using hn⟩
            exact (hm z).1 hz) ⟨0, rfl, Nat.zero_le _, Nat.le_refl _, List.Pairwise.nil, by simp⟩
  obtain ⟨k1, ⟨i, k2, k3, k4, k5, k6⟩, k7⟩ := key
  simp only [lc_impl_codesOf_1, ve_impl_copyInts, hs, k2, iLt_eq, lLen_eq, decide_eq_false_iff_not] at k7
  have : i = S.length := by omega
  subst this
  rw [List.take_length] at k6
  refine ⟨⟨by unfold roomy; omega, ⟨trivial, by rw [mou_sort_Ints]; show C.length < 4611686018427387904; omega⟩, k1⟩, ⟨k5, fun z => by rw [k6, hmem]⟩, by omega⟩
theorem isAction_code {a : Int × Int × Int × Int} (h : v_impl_IsAction a = true) : 0 ≤ a.2.1 ∧ a.2.1 ≤ 56 := by
  rw [ve_impl_IsAction] at h
  simp only [bSel_eq, bOr_eq, bAnd_eq, iEq_eq, iNe_eq, ve_impl_isCode, iGe_eq, iLe_eq] at h
  repeat' split at h
  all_goals simp only [Bool.and_eq_true, Bool.or_eq_true, Bool.not_eq_true', Bool.not_eq_false', Bool.and_eq_false_iff, Bool.or_eq_false_iff, decide_eq_true_eq, decide_eq_false_iff_not, Bool.not_eq_true, Bool.not_eq_false, beq_iff_eq, beq_eq_false_iff_ne] at *
  all_goals omega
abbrev HdX := List (Int × Int × Int × Int × Int)
def codesL (x : HdX) : List Int := x.map fun a => a.2.2.1
theorem codesL_get (x : HdX) {i : Nat} (h : i < x.length) : (codesL x).getD i 0 = (x.getD i (0, 0, 0, 0, 0)).2.2.1 := by
  rw [getD_of x _ h, getD_of (codesL x) 0 (by simpa [codesL] using h)]; simp [codesL]
theorem specKeys (x : HdX) (hl : x.length ≤ 1048576) :
    LoopOk lc_spec_ReportOf_2 (lf_spec_ReportOf_2 x) (lp_spec_ReportOf_2 x) (1, []) ∧ (loopV lc_spec_ReportOf_2 (lf_spec_ReportOf_2 x) (1, [])).2.Pairwise (· < ·) ∧ ∀ z, z ∈ (loopV lc_spec_ReportOf_2 (lf_spec_ReportOf_2 x) (1, [])).2 ↔ (z ∈ codesL x ∧ 1 ≤ z ∧ z ≤ 56) := by
  have inner : ∀ (c : Int) (l : List Int), l.length ≤ 60 → LoopOk (lc_spec_ReportOf_3 x (c, l)) lf_spec_ReportOf_3 (lp_spec_ReportOf_3 x (c, l)) 0 ∧ iLt (loopV (lc_spec_ReportOf_3 x (c, l)) lf_spec_ReportOf_3 0) (lLen x) = decide (c ∈ codesL x) := by
    intro c l hll
    obtain ⟨h1, h2⟩ := seek_at (c := lc_spec_ReportOf_3 x (c, l)) (f := lf_spec_ReportOf_3) (p := lp_spec_ReportOf_3 x (c, l)) x (0, 0, 0, 0, 0) (fun a => decide (a.2.2.1 = c)) hl
      (fun i hi => by simp only [lc_spec_ReportOf_3, bAnd_eq, iLt_eq, lLen_eq, bNot_eq, iEq_eq, lGet_eq, iNat_eq, Int.toNat_natCast, Int.ofNat_lt])
      (fun i hi => rfl) (fun i hi => by
        have r1 : roomy ((l.length + [c].length) * 1) := by unfold roomy; simp only [List.length_cons, List.length_nil]; omega
        simp only [lp_spec_ReportOf_3, iLt_eq, lLen_eq, iNat_eq, Int.toNat_natCast, decide_eq_true_eq]
        exact ⟨fun h => ⟨⟨by omega, by omega⟩, by omega, fun _ => r1, fun _ => trivial⟩, fun _ => trivial⟩)
    refine ⟨h1, ?_⟩
    rw [h2, Bool.eq_iff_iff, List.any_eq_true, decide_eq_true_eq, codesL, List.mem_map]
    simp only [decide_eq_true_eq]
  have key := loop_one (c := lc_spec_ReportOf_2) (f := lf_spec_ReportOf_2 x) (p := lp_spec_ReportOf_2 x) (x0 := (1, []))
    (fun st => 1 ≤ st.1 ∧ st.1 ≤ 57 ∧ (st.2.length : Int) < st.1 ∧ st.2.Pairwise (· < ·) ∧ ∀ z, z ∈ st.2 ↔ (z ∈ codesL x ∧ 1 ≤ z ∧ z < st.1)) (fun st => 57 - st.1.toNat) (by
    rintro ⟨c, l⟩ ⟨h1, h2, h3, h4, h5⟩
    simp only at h1 h2 h3 h4 h5
    obtain ⟨i1, i2⟩ := inner c l (by omega)
    refine ⟨⟨fun _ => i1, fun _ => trivial⟩, fun h => ?_⟩
    simp only [lc_spec_ReportOf_2, iLe_eq, decide_eq_true_eq] at h
    have s1 : iAdd .i64 c 1 = c + 1 := iAdd_i64 (by unfold In64; omega)
    simp only [lf_spec_ReportOf_2, s1, i2, bSel_eq, lApp_eq, decide_eq_true_eq]
    refine ⟨⟨by omega, by omega, ?_, ?_, fun z => ?_⟩, by omega⟩
    · split
      · simp only [List.length_append, List.length_cons, List.length_nil]; omega
      · omega
    · split
      · refine List.pairwise_append.2 ⟨h4, List.pairwise_singleton _ _, fun a ha b hb => ?_⟩
        rw [List.mem_singleton] at hb
        have := ((h5 a).1 ha).2.2
        omega
      · exact h4
    · split
      · next hb =>
        rw [List.mem_append, List.mem_singleton, h5]
        constructor
        · rintro (⟨a1, a2, a3⟩ | e)
          · exact ⟨a1, a2, by omega⟩
          · subst e; exact ⟨hb, by omega, by omega⟩
        · rintro ⟨a1, a2, a3⟩
          by_cases e : z = c
          · exact .inr e
          · exact .inl ⟨a1, a2, by omega⟩
      · next hb =>
        rw [h5]
        constructor
        · rintro ⟨a1, a2, a3⟩; exact ⟨a1, a2, by omega⟩
        · rintro ⟨a1, a2, a3⟩
          have : z ≠ c := fun e => hb (e ▸ a1)
          exact ⟨a1, a2, by omega⟩) ⟨by simp, by simp, by simp, List.Pairwise.nil, by simp⟩
  obtain ⟨k1, ⟨k2, k3, k4, k5, k6⟩, k7⟩ := key
  simp only [lc_spec_ReportOf_2, iLe_eq, decide_eq_false_iff_not] at k7
  refine ⟨k1, k5, fun z => ?_⟩
  rw [k6]
  constructor
  · rintro ⟨a, b, c⟩; exact ⟨a, b, by omega⟩
  · rintro ⟨a, b, c⟩; exact ⟨a, b, by omega⟩
theorem modsTwo (x : HdX) (hl : x.length ≤ 1048576) :
    LoopOk (lc_spec_ReportOf_1 x) (lf_spec_ReportOf_1 x) (lp_spec_ReportOf_1 x) (0, 0) ∧ LoopOk (lc_impl_ReportOf_1 x) (lf_impl_ReportOf_1 x) (lp_impl_ReportOf_1 x) ([], 0, 0) ∧
    (loopV (lc_impl_ReportOf_1 x) (lf_impl_ReportOf_1 x) ([], 0, 0)).2.2 = (loopV (lc_spec_ReportOf_1 x) (lf_spec_ReportOf_1 x) (0, 0)).2 ∧ (loopV (lc_impl_ReportOf_1 x) (lf_impl_ReportOf_1 x) ([], 0, 0)).1 = codesL x := by
  obtain ⟨a1, a2, ⟨i, h1, h2, h3⟩, a4⟩ := loop_two (c := lc_spec_ReportOf_1 x) (f := lf_spec_ReportOf_1 x) (p := lp_spec_ReportOf_1 x) (d := lc_impl_ReportOf_1 x) (g := lf_impl_ReportOf_1 x) (q := lp_impl_ReportOf_1 x) (x0 := (0, 0)) (y0 := ([], 0, 0))
    (fun s t => ∃ i : Nat, i ≤ x.length ∧ s.1 = (i : Int) ∧ t = ((codesL x).take i, s.1, s.2)) (fun s => x.length - s.1.toNat) (by
      rintro ⟨n, m⟩ t ⟨i, hi, h1, rfl⟩
      simp only at h1
      subst h1
      have hcl : (codesL x).length = x.length := by simp [codesL]
      have hlen : ((codesL x).take i).length = i := by rw [List.length_take]; omega
      have s1 : iAdd .i64 (i : Int) 1 = (i : Int) + 1 := iAdd_i64 (by unfold In64; omega)
      simp only [lc_spec_ReportOf_1, lf_spec_ReportOf_1, lp_spec_ReportOf_1, lc_impl_ReportOf_1, lf_impl_ReportOf_1, lp_impl_ReportOf_1, iLt_eq, lLen_eq, iNat_eq, Int.toNat_natCast, decide_eq_true_eq, s1, hlen, List.length_cons, List.length_nil, lApp_eq, lGet_eq]
      refine ⟨⟨fun h => ⟨⟨⟨by omega, by omega⟩, by omega, fun _ => trivial, fun _ => ⟨⟨by omega, by omega⟩, by omega⟩⟩, fun _ => ⟨⟨by omega, by omega⟩, by omega⟩, fun _ => trivial⟩, fun _ => trivial⟩, ⟨fun h => ⟨⟨by omega, by omega⟩, by omega, by unfold roomy; omega⟩, fun _ => trivial⟩, trivial, fun h => ⟨⟨i + 1, by omega, by omega, ?_⟩, by omega⟩⟩
      have hi' : i < x.length := by omega
      rw [← take_snoc (codesL x) 0 (by omega), codesL_get x hi']) ⟨0, by omega, rfl, rfl⟩
  refine ⟨a1, a2, by rw [h3], ?_⟩
  rw [h3]
  simp only [lc_spec_ReportOf_1, h2, iLt_eq, lLen_eq, decide_eq_false_iff_not] at a4
  rw [List.take_of_length_le]
  simp only [codesL, List.length_map]; omega
theorem reportOf_two (x : HdX) (hl : x.length ≤ 1048576) : ok_spec_ReportOf x ∧ ok_impl_ReportOf x ∧ v_impl_ReportOf x = v_spec_ReportOf x ∧ (v_impl_ReportOf x).2.length ≤ 1048576 := by
  rw [oe_spec_ReportOf, oe_impl_ReportOf, ve_spec_ReportOf, ve_impl_ReportOf, isHeld_eq]
  have o1 := ok_spec_IsHeld_t x hl
  have o2 := ok_impl_IsHeld_t x hl
  by_cases h : v_impl_IsHeld x = true
  · obtain ⟨m1, m2, m3, m4⟩ := modsTwo x hl
    obtain ⟨s1, s2, s3⟩ := specKeys x hl
    have hcl : (codesL x).length = x.length := by simp [codesL]
    obtain ⟨c1, ⟨c2, c3⟩, c4⟩ := codesOf_eq (codesL x) (by omega)
    have hh := isHeld_all hl h
    have e : v_impl_codesOf (codesL x) = (loopV lc_spec_ReportOf_2 (lf_spec_ReportOf_2 x) (1, [])).2 := inc_ext c2 s2 fun z => by
      rw [c3, s3]
      constructor
      · rintro ⟨a, b⟩
        refine ⟨a, ?_⟩
        obtain ⟨k, hk, rfl⟩ := List.mem_map.1 a
        have := isAction_code (hh k hk).2.2.1
        omega
      · rintro ⟨a, b, c⟩; exact ⟨a, by omega⟩
    rw [m3, m4, ← e]
    refine ⟨⟨o1, fun _ => trivial, fun _ => ⟨m1, s1⟩⟩, ⟨o2, fun _ => trivial, fun _ => ⟨m2, c1⟩⟩, rfl, ?_⟩
    rw [bSel_eq]; split
    · simp
    · simp only; omega
  · have hb : bNot (v_impl_IsHeld x) = true := by rw [bNot_eq]; simpa using h
    rw [hb]
    simp [bSel_t, o1, o2]
theorem mh0_HeldS (x : HdX) (h : sm_HeldS x) : mok_laws_markHeldS x ∧ 0 ≤ (mg_laws_markHeldS x 1).2 := by
  have hl : x.length ≤ 1048576 := h.1
  let mi : (Int × Int × Int × Int × Int) → Int → (Int × Int × Int × Int × Int) × Int := fun a k => ((k, (IntKind.i64.wrap (k + 1)), (IntKind.i64.wrap ((IntKind.i64.wrap (k + 1)) + 1)), (IntKind.i64.wrap ((IntKind.i64.wrap ((IntKind.i64.wrap (k + 1)) + 1)) + 1)), (IntKind.i64.wrap ((IntKind.i64.wrap ((IntKind.i64.wrap ((IntKind.i64.wrap (k + 1)) + 1)) + 1)) + 1))), (IntKind.i64.wrap ((IntKind.i64.wrap ((IntKind.i64.wrap ((IntKind.i64.wrap ((IntKind.i64.wrap (k + 1)) + 1)) + 1)) + 1)) + 1)))
  have hU : UpF mi x 5 := by
    intro a ha k k0 k1
    have e0 : IntKind.i64.wrap (k + 1) = k + 1 := wrapP (by omega) (by omega)
    have e1 : IntKind.i64.wrap ((k + 1) + 1) = (k + 1) + 1 := wrapP (by omega) (by omega)
    have e2 : IntKind.i64.wrap (((k + 1) + 1) + 1) = ((k + 1) + 1) + 1 := wrapP (by omega) (by omega)
    have e3 : IntKind.i64.wrap ((((k + 1) + 1) + 1) + 1) = (((k + 1) + 1) + 1) + 1 := wrapP (by omega) (by omega)
    have e4 : IntKind.i64.wrap (((((k + 1) + 1) + 1) + 1) + 1) = ((((k + 1) + 1) + 1) + 1) + 1 := wrapP (by omega) (by omega)
    have ee : (mi a k).2 = (((((k + 1) + 1) + 1) + 1) + 1) := by simp only [mi, e0, e1, e2, e3, e4]
    rw [ee]
    omega
  have hB : x.length * 5 ≤ 5242880 := mul_lim hl (by decide)
  have up := mkL_up (m := 1) hU (by omega) (by omega)
  have hmg : mg_laws_markHeldS x 1 = mkL mi x 1 := by rw [mgu_laws_markHeldS]; rfl
  rw [hmg]
  exact ⟨by rw [mou_laws_markHeldS]; exact ⟨Nat.le_trans h.1 (by decide), fun a ha => ⟨trivial, trivial, trivial, trivial, trivial⟩⟩, by omega⟩
theorem wl_HeldS_ro {x : HdX} (h : TuX.wf h_laws_FnExactReportOf x) : wl_HeldS x := by
  exact ⟨h.1, fun a _ => by simp [wl_Held, wl_Action]⟩
theorem plain_FnExactReportOf (x : HdX) (hw : TuX.wf h_laws_FnExactReportOf x) : ok_laws_FnExactReportOf x ∧ v_laws_FnExactReportOf x = true := by
  rw [oe_laws_FnExactReportOf, ve_laws_FnExactReportOf]
  obtain ⟨k1, k2⟩ := sz_HeldS x (wl_HeldS_ro hw) 1048576 (by omega) (by omega)
  rcases k2 with k2 | ⟨k2, _, k3⟩
  · have e : iLt (v_laws_szHeldS (x, 1048576)) 0 = true := by rw [iLt_eq]; simpa using k2
    simp only [e]; simp [bOr_eq, k1]
  · have e : iLt (v_laws_szHeldS (x, 1048576)) 0 = false := by rw [iLt_eq]; simpa using k2
    obtain ⟨t1, t2⟩ := to_HeldS x k3
    obtain ⟨q1, q2⟩ := eq_HeldS x x k3
    have q2 := q2.2 rfl
    obtain ⟨r1, r2, r3, r4⟩ := reportOf_two x k3.1
    rw [t2, ← r3]
    have hsm : sm_Report (v_impl_ReportOf x) := ⟨r4, trivial⟩
    obtain ⟨p1, p2⟩ := eqR _ hsm
    obtain ⟨m1, m2⟩ := mh0_HeldS x k3
    obtain ⟨n1, ⟨n2, n3⟩, n4, n5⟩ := mh_Report _ hsm 1 (by omega) (by omega)
    have c1 : iLt (mg_laws_markHeldS x 1).2 0 = false := by rw [iLt_eq]; simp; omega
    have c2 : iLt (mg_laws_markReport (v_impl_ReportOf x) 1).2 0 = false := by rw [iLt_eq]; simp; omega
    simp only [e, k1, t1, r1, r2, q1, q2, p1, p2, m1, n1, n4, n5, c1, c2]
    simp [bOr_eq, bAnd_eq, bNot_eq, bIff_eq, iNe_eq, DMk.ok]
    all_goals first | exact n1 | exact m1 | exact ⟨m1, n1⟩
end Go.Ag
