/- Part 5 of what FnExactIsDecider needs. No conditions. -/
import Derived.KernelRfl
import Derived.Test.YthljgcjmaabnoaaLibD
namespace Go.Ag
set_option linter.unusedSimpArgs false
set_option linter.unusedVariables false
section
set_option maxRecDepth 8000
noncomputable def dc_spec_l1In:DCode:=
 (.seq [2,1,0] (.region [oa 0 6 (.mv (.c (.bool false)))])
 (.seq [6] (.region [om 0 7 0,
 om 1 8 1,
 oa 2 9 (.bin .geq (.t 7) (.t 8)),
 om 3 10 9,
 og 4 11 (.mv (.t 0)) 10 true,
 og 5 12 (.mv (.t 2)) 10 true,
 og 6 13 (.bin .leq (.t 11) (.t 12)) 10 true,
 oa 7 14 (.pick (.t 10) (.t 13) (.c (.bool false))),
 om 8 6 14])
  .ret))
noncomputable def df_spec_l1In:DFun:=⟨3,15,0,true,[.tmp 6],dc_spec_l1In⟩
noncomputable def pf_spec_l1In:PFun:=df_spec_l1In.er
noncomputable def f_spec_l1In:AFun:=pf_spec_l1In.er
@[irreducible] noncomputable def s_spec_l1In:CallSem:=funSem f_spec_l1In
@[irreducible] noncomputable def p_spec_l1In:PSem:=pfunSem pf_spec_l1In
theorem sp_spec_l1In:SoundP s_spec_l1In p_spec_l1In:=by unfold s_spec_l1In p_spec_l1In;exact pfun_sound (f:=pf_spec_l1In) trivial
def h_spec_l1In:List HT:=[.one .frz (.int .i64),.one .frz (.int .i64),.one .frz (.int .i64)]
def q_spec_l1In:QT:=.one (.one .own (.bool))
@[irreducible] noncomputable def v_spec_l1In(x:Int×Int×Int):Bool:=(shut fun x=>fnV df_spec_l1In h_spec_l1In q_spec_l1In x).1 x
@[irreducible] noncomputable def ok_spec_l1In(x:Int×Int×Int):Prop:=(shut fun x=>fnOk df_spec_l1In h_spec_l1In q_spec_l1In x).1 x
theorem vu_spec_l1In (x):v_spec_l1In x=fnV df_spec_l1In h_spec_l1In q_spec_l1In x:=by unfold v_spec_l1In;exact congrFun (shut _).2 x
theorem ou_spec_l1In (x):ok_spec_l1In x=fnOk df_spec_l1In h_spec_l1In q_spec_l1In x:=by unfold ok_spec_l1In;exact congrFun (shut _).2 x
noncomputable def D_spec_l1In:DSem:=DSemOf h_spec_l1In q_spec_l1In ok_spec_l1In v_spec_l1In
theorem ck_spec_l1In(x:Int×Int×Int):fnChk df_spec_l1In h_spec_l1In q_spec_l1In x=true:=by kernel_rfl
theorem ob_spec_l1In:AllD df_spec_l1In.body.obs:=trivial
theorem st_spec_l1In:fnSt df_spec_l1In h_spec_l1In q_spec_l1In=true:=by kernel_rfl
theorem sd_spec_l1In:SoundD p_spec_l1In D_spec_l1In:=by unfold p_spec_l1In;exact soundD_of (f:=df_spec_l1In) (hs:=h_spec_l1In) (q:=q_spec_l1In) ob_spec_l1In st_spec_l1In ck_spec_l1In (fun x h=>Eq.mp (ou_spec_l1In x) h) (fun x=>(vu_spec_l1In x).symm)
noncomputable def dc_spec_IsAction:DCode:=
 (.seq [1] (.region [oa 0 1 (.boxB 0 4 (.t 0)),
 oa 1 2 (.mv (.c (.bool false)))])
  (.seq [3,1] (.region [oa 0 6 (.fieldA 1 (.t 1)),
 oa 1 7 (.loadB 0 none (.t 6)),
 oc 2 8 s_spec_l1In p_spec_l1In D_spec_l1In [(.t 7),(.c (.int .i64 1)),(.c (.int .i64 56))],
 om 3 3 8])
  (.seq [4,3,1] (.region [oa 0 9 (.fieldA 2 (.t 1)),
 oa 1 10 (.loadB 0 none (.t 9)),
 oc 2 11 s_spec_l1In p_spec_l1In D_spec_l1In [(.t 10),(.c (.int .i64 1)),(.c (.int .i64 15))],
 om 3 4 11])
  (.seq [5,4,3,1] (.region [oa 0 12 (.fieldA 3 (.t 1)),
 oa 1 13 (.loadB 0 none (.t 12)),
 oc 2 14 s_spec_l1In p_spec_l1In D_spec_l1In [(.t 13),(.c (.int .i64 1)),(.c (.int .i64 3))],
 om 3 5 14])
  (.seq [] (.seq [16,5,4,3,1] (.region [oa 0 15 (.fieldA 0 (.t 1)),
 oa 1 16 (.loadB 0 none (.t 15))])
  (.block 0 (.seq [17,16,5,4,3,1] (.seq [17,16,5,4,3,1] (.region [oa 0 18 (.bin .eql (.t 16) (.c (.int .i64 0))),
 om 1 17 18])
  (.cond (.t 17) .skip (.seq [17,16,5,4,3,1] (.region [oa 0 19 (.bin .eql (.t 16) (.c (.int .i64 1))),
 om 1 17 19])
  (.cond (.t 17) .skip (.region [oa 0 20 (.bin .eql (.t 16) (.c (.int .i64 10))),
 om 1 17 20])))))
  (.cond (.t 17) (.seq [2] (.region [oa 0 21 (.fieldA 1 (.t 1)),
 oa 1 22 (.loadB 0 none (.t 21)),
 oa 2 23 (.bin .eql (.t 22) (.c (.int .i64 0))),
 om 3 24 23,
 og 4 25 (.fieldA 2 (.t 1)) 24 true,
 og 5 26 (.loadB 0 none (.t 25)) 24 true,
 og 6 27 (.bin .eql (.t 26) (.c (.int .i64 0))) 24 true,
 oa 7 28 (.pick (.t 24) (.t 27) (.c (.bool false))),
 om 8 29 28,
 og 9 30 (.fieldA 3 (.t 1)) 29 true,
 og 10 31 (.loadB 0 none (.t 30)) 29 true,
 og 11 32 (.bin .eql (.t 31) (.c (.int .i64 0))) 29 true,
 oa 12 33 (.pick (.t 29) (.t 32) (.c (.bool false))),
 om 13 2 33])
  .ret) (.seq [34,16,5,4,3,1] (.region [oa 0 35 (.bin .eql (.t 16) (.c (.int .i64 2))),
 om 1 34 35])
  (.cond (.t 34) (.seq [2] (.region [oa 0 36 (.fieldA 3 (.t 1)),
 oa 1 37 (.loadB 0 none (.t 36)),
 oa 2 38 (.bin .eql (.t 37) (.c (.int .i64 0))),
 om 3 39 38,
 og 4 40 (.mv (.t 3)) 39 true,
 og 5 41 (.mv (.t 40)) 39 true,
 og 6 42 (.fieldA 1 (.t 1)) 41 false,
 og 7 43 (.loadB 0 none (.t 42)) 41 false,
 og 8 44 (.bin .eql (.t 43) (.c (.int .i64 0))) 41 false,
 og 9 45 (.mv (.t 44)) 41 false,
 og 10 46 (.mv (.t 4)) 45 true,
 og 11 47 (.pick (.t 45) (.t 46) (.c (.bool false))) 41 false,
 og 12 48 (.pick (.t 41) (.c (.bool true)) (.t 47)) 39 true,
 oa 13 49 (.pick (.t 39) (.t 48) (.c (.bool false))),
 om 14 50 49,
 og 15 51 (.mv (.t 4)) 50 true,
 og 16 52 (.mv (.t 51)) 50 true,
 og 17 53 (.fieldA 2 (.t 1)) 52 false,
 og 18 54 (.loadB 0 none (.t 53)) 52 false,
 og 19 55 (.bin .eql (.t 54) (.c (.int .i64 0))) 52 false,
 og 20 56 (.pick (.t 52) (.c (.bool true)) (.t 55)) 50 true,
 oa 21 57 (.pick (.t 50) (.t 56) (.c (.bool false))),
 om 22 2 57])
  .ret) (.seq [58,16,5,4,3,1] (.seq [58,16,5,4,3,1] (.region [oa 0 59 (.bin .eql (.t 16) (.c (.int .i64 3))),
 om 1 58 59])
  (.cond (.t 58) .skip (.region [oa 0 60 (.bin .eql (.t 16) (.c (.int .i64 4))),
 om 1 58 60])))
  (.cond (.t 58) (.seq [2] (.region [om 0 61 5,
 om 1 62 61,
 og 2 63 (.fieldA 1 (.t 1)) 62 true,
 og 3 64 (.loadB 0 none (.t 63)) 62 true,
 og 4 65 (.bin .eql (.t 64) (.c (.int .i64 0))) 62 true,
 oa 5 66 (.pick (.t 62) (.t 65) (.c (.bool false))),
 om 6 67 66,
 og 7 68 (.fieldA 2 (.t 1)) 67 true,
 og 8 69 (.loadB 0 none (.t 68)) 67 true,
 og 9 70 (.bin .eql (.t 69) (.c (.int .i64 0))) 67 true,
 oa 10 71 (.pick (.t 67) (.t 70) (.c (.bool false))),
 om 11 2 71])
  .ret) (.seq [72,16,5,4,3,1] (.seq [72,16,5,4,3,1] (.region [oa 0 73 (.bin .eql (.t 16) (.c (.int .i64 5))),
 om 1 72 73])
  (.cond (.t 72) .skip (.region [oa 0 74 (.bin .eql (.t 16) (.c (.int .i64 9))),
 om 1 72 74])))
  (.cond (.t 72) (.seq [2] (.region [oa 0 75 (.fieldA 3 (.t 1)),
 oa 1 76 (.loadB 0 none (.t 75)),
 oc 2 77 s_spec_l1In p_spec_l1In D_spec_l1In [(.t 76),(.c (.int .i64 0)),(.c (.int .i64 3))],
 om 3 78 77,
 og 4 79 (.fieldA 1 (.t 1)) 78 true,
 og 5 80 (.loadB 0 none (.t 79)) 78 true,
 og 6 81 (.bin .eql (.t 80) (.c (.int .i64 0))) 78 true,
 oa 7 82 (.pick (.t 78) (.t 81) (.c (.bool false))),
 om 8 83 82,
 og 9 84 (.fieldA 2 (.t 1)) 83 true,
 og 10 85 (.loadB 0 none (.t 84)) 83 true,
 og 11 86 (.bin .eql (.t 85) (.c (.int .i64 0))) 83 true,
 oa 12 87 (.pick (.t 83) (.t 86) (.c (.bool false))),
 om 13 2 87])
  .ret) (.seq [88,16,5,4,3,1] (.region [oa 0 89 (.bin .eql (.t 16) (.c (.int .i64 6))),
 om 1 88 89])
  (.cond (.t 88) (.seq [2] (.region [om 0 90 3,
 om 1 91 90,
 og 2 92 (.mv (.t 4)) 91 true,
 oa 3 93 (.pick (.t 91) (.t 92) (.c (.bool false))),
 om 4 94 93,
 og 5 95 (.fieldA 3 (.t 1)) 94 true,
 og 6 96 (.loadB 0 none (.t 95)) 94 true,
 og 7 97 (.bin .eql (.t 96) (.c (.int .i64 0))) 94 true,
 oa 8 98 (.pick (.t 94) (.t 97) (.c (.bool false))),
 om 9 2 98])
  .ret) (.seq [99,16,5,4,3,1] (.region [oa 0 100 (.bin .eql (.t 16) (.c (.int .i64 7))),
 om 1 99 100])
  (.cond (.t 99) (.seq [2] (.region [om 0 101 3,
 om 1 102 101,
 og 2 103 (.mv (.t 5)) 102 true,
 oa 3 104 (.pick (.t 102) (.t 103) (.c (.bool false))),
 om 4 105 104,
 og 5 106 (.fieldA 2 (.t 1)) 105 true,
 og 6 107 (.loadB 0 none (.t 106)) 105 true,
 og 7 108 (.bin .eql (.t 107) (.c (.int .i64 0))) 105 true,
 oa 8 109 (.pick (.t 105) (.t 108) (.c (.bool false))),
 om 9 2 109])
  .ret) (.seq [110,4,1] (.region [oa 0 111 (.bin .eql (.t 16) (.c (.int .i64 8))),
 om 1 110 111])
  (.cond (.t 110) (.seq [2] (.region [om 0 112 4,
 om 1 113 112,
 og 2 114 (.fieldA 1 (.t 1)) 113 true,
 og 3 115 (.loadB 0 none (.t 114)) 113 true,
 og 4 116 (.bin .eql (.t 115) (.c (.int .i64 0))) 113 true,
 oa 5 117 (.pick (.t 113) (.t 116) (.c (.bool false))),
 om 6 118 117,
 og 7 119 (.fieldA 3 (.t 1)) 118 true,
 og 8 120 (.loadB 0 none (.t 119)) 118 true,
 og 9 121 (.bin .eql (.t 120) (.c (.int .i64 0))) 118 true,
 oa 10 122 (.pick (.t 118) (.t 121) (.c (.bool false))),
 om 11 2 122])
  .ret) .skip))))))))))))))))
  (.seq [2] (.region [oa 0 2 (.mv (.c (.bool false)))])
  .ret))))))
noncomputable def df_spec_IsAction:DFun:=⟨1,123,1,true,[.tmp 2],dc_spec_IsAction⟩
noncomputable def pf_spec_IsAction:PFun:=df_spec_IsAction.er
noncomputable def f_spec_IsAction:AFun:=pf_spec_IsAction.er
@[irreducible] noncomputable def s_spec_IsAction:CallSem:=funSem f_spec_IsAction
@[irreducible] noncomputable def p_spec_IsAction:PSem:=pfunSem pf_spec_IsAction
theorem sp_spec_IsAction:SoundP s_spec_IsAction p_spec_IsAction:=by unfold s_spec_IsAction p_spec_IsAction;exact pfun_sound (f:=pf_spec_IsAction) ⟨sp_spec_l1In,sp_spec_l1In,sp_spec_l1In,sp_spec_l1In,trivial⟩
def h_spec_IsAction:List HT:=[.agg [(.frz,.int .i64),(.frz,.int .i64),(.frz,.int .i64),(.frz,.int .i64)]]
def q_spec_IsAction:QT:=.one (.one .own (.bool))
@[irreducible] noncomputable def v_spec_IsAction(x:Int×Int×Int×Int):Bool:=(shut fun x=>fnV df_spec_IsAction h_spec_IsAction q_spec_IsAction x).1 x
@[irreducible] noncomputable def ok_spec_IsAction(x:Int×Int×Int×Int):Prop:=(shut fun x=>fnOk df_spec_IsAction h_spec_IsAction q_spec_IsAction x).1 x
theorem vu_spec_IsAction (x):v_spec_IsAction x=fnV df_spec_IsAction h_spec_IsAction q_spec_IsAction x:=by unfold v_spec_IsAction;exact congrFun (shut _).2 x
theorem ou_spec_IsAction (x):ok_spec_IsAction x=fnOk df_spec_IsAction h_spec_IsAction q_spec_IsAction x:=by unfold ok_spec_IsAction;exact congrFun (shut _).2 x
noncomputable def D_spec_IsAction:DSem:=DSemOf h_spec_IsAction q_spec_IsAction ok_spec_IsAction v_spec_IsAction
theorem ck_spec_IsAction(x:Int×Int×Int×Int):fnChk df_spec_IsAction h_spec_IsAction q_spec_IsAction x=true:=by kernel_rfl
theorem ob_spec_IsAction:AllD df_spec_IsAction.body.obs:=⟨sd_spec_l1In,sd_spec_l1In,sd_spec_l1In,sd_spec_l1In,trivial⟩
theorem st_spec_IsAction:fnSt df_spec_IsAction h_spec_IsAction q_spec_IsAction=true:=by kernel_rfl
theorem sd_spec_IsAction:SoundD p_spec_IsAction D_spec_IsAction:=by unfold p_spec_IsAction;exact soundD_of (f:=df_spec_IsAction) (hs:=h_spec_IsAction) (q:=q_spec_IsAction) ob_spec_IsAction st_spec_IsAction ck_spec_IsAction (fun x h=>Eq.mp (ou_spec_IsAction x) h) (fun x=>(vu_spec_IsAction x).symm)
noncomputable def dc_impl_isCode:DCode:=
 (.seq [0] (.region [oa 0 2 (.mv (.c (.bool false)))])
 (.seq [2] (.region [om 0 3 0,
 oa 1 4 (.bin .geq (.t 3) (.c (.int .i64 1))),
 om 2 5 4,
 og 3 6 (.mv (.t 0)) 5 true,
 og 4 7 (.bin .leq (.t 6) (.c (.int .i64 56))) 5 true,
 oa 5 8 (.pick (.t 5) (.t 7) (.c (.bool false))),
 om 6 2 8])
  .ret))
noncomputable def df_impl_isCode:DFun:=⟨1,9,0,true,[.tmp 2],dc_impl_isCode⟩
noncomputable def pf_impl_isCode:PFun:=df_impl_isCode.er
noncomputable def f_impl_isCode:AFun:=pf_impl_isCode.er
@[irreducible] noncomputable def s_impl_isCode:CallSem:=funSem f_impl_isCode
@[irreducible] noncomputable def p_impl_isCode:PSem:=pfunSem pf_impl_isCode
theorem sp_impl_isCode:SoundP s_impl_isCode p_impl_isCode:=by unfold s_impl_isCode p_impl_isCode;exact pfun_sound (f:=pf_impl_isCode) trivial
def h_impl_isCode:List HT:=[.one .frz (.int .i64)]
def q_impl_isCode:QT:=.one (.one .own (.bool))
@[irreducible] noncomputable def v_impl_isCode(x:Int):Bool:=(shut fun x=>fnV df_impl_isCode h_impl_isCode q_impl_isCode x).1 x
@[irreducible] noncomputable def ok_impl_isCode(x:Int):Prop:=(shut fun x=>fnOk df_impl_isCode h_impl_isCode q_impl_isCode x).1 x
theorem vu_impl_isCode (x):v_impl_isCode x=fnV df_impl_isCode h_impl_isCode q_impl_isCode x:=by unfold v_impl_isCode;exact congrFun (shut _).2 x
theorem ou_impl_isCode (x):ok_impl_isCode x=fnOk df_impl_isCode h_impl_isCode q_impl_isCode x:=by unfold ok_impl_isCode;exact congrFun (shut _).2 x
noncomputable def D_impl_isCode:DSem:=DSemOf h_impl_isCode q_impl_isCode ok_impl_isCode v_impl_isCode
theorem ck_impl_isCode(x:Int):fnChk df_impl_isCode h_impl_isCode q_impl_isCode x=true:=by kernel_rfl
theorem ob_impl_isCode:AllD df_impl_isCode.body.obs:=trivial
theorem st_impl_isCode:fnSt df_impl_isCode h_impl_isCode q_impl_isCode=true:=by kernel_rfl
theorem sd_impl_isCode:SoundD p_impl_isCode D_impl_isCode:=by unfold p_impl_isCode;exact soundD_of (f:=df_impl_isCode) (hs:=h_impl_isCode) (q:=q_impl_isCode) ob_impl_isCode st_impl_isCode ck_impl_isCode (fun x h=>Eq.mp (ou_impl_isCode x) h) (fun x=>(vu_impl_isCode x).symm)
noncomputable def dc_impl_isMods:DCode:=
 (.seq [0] (.region [oa 0 2 (.mv (.c (.bool false)))])
 (.seq [2] (.region [om 0 3 0,
 oa 1 4 (.bin .geq (.t 3) (.c (.int .i64 1))),
 om 2 5 4,
 og 3 6 (.mv (.t 0)) 5 true,
 og 4 7 (.bin .leq (.t 6) (.c (.int .i64 15))) 5 true,
 oa 5 8 (.pick (.t 5) (.t 7) (.c (.bool false))),
 om 6 2 8])
  .ret))
noncomputable def df_impl_isMods:DFun:=⟨1,9,0,true,[.tmp 2],dc_impl_isMods⟩
noncomputable def pf_impl_isMods:PFun:=df_impl_isMods.er
noncomputable def f_impl_isMods:AFun:=pf_impl_isMods.er
@[irreducible] noncomputable def s_impl_isMods:CallSem:=funSem f_impl_isMods
@[irreducible] noncomputable def p_impl_isMods:PSem:=pfunSem pf_impl_isMods
theorem sp_impl_isMods:SoundP s_impl_isMods p_impl_isMods:=by unfold s_impl_isMods p_impl_isMods;exact pfun_sound (f:=pf_impl_isMods) trivial
def h_impl_isMods:List HT:=[.one .frz (.int .i64)]
def q_impl_isMods:QT:=.one (.one .own (.bool))
@[irreducible] noncomputable def v_impl_isMods(x:Int):Bool:=(shut fun x=>fnV df_impl_isMods h_impl_isMods q_impl_isMods x).1 x
@[irreducible] noncomputable def ok_impl_isMods(x:Int):Prop:=(shut fun x=>fnOk df_impl_isMods h_impl_isMods q_impl_isMods x).1 x
theorem vu_impl_isMods (x):v_impl_isMods x=fnV df_impl_isMods h_impl_isMods q_impl_isMods x:=by unfold v_impl_isMods;exact congrFun (shut _).2 x
theorem ou_impl_isMods (x):ok_impl_isMods x=fnOk df_impl_isMods h_impl_isMods q_impl_isMods x:=by unfold ok_impl_isMods;exact congrFun (shut _).2 x
noncomputable def D_impl_isMods:DSem:=DSemOf h_impl_isMods q_impl_isMods ok_impl_isMods v_impl_isMods
theorem ck_impl_isMods(x:Int):fnChk df_impl_isMods h_impl_isMods q_impl_isMods x=true:=by kernel_rfl
theorem ob_impl_isMods:AllD df_impl_isMods.body.obs:=trivial
theorem st_impl_isMods:fnSt df_impl_isMods h_impl_isMods q_impl_isMods=true:=by kernel_rfl
theorem sd_impl_isMods:SoundD p_impl_isMods D_impl_isMods:=by unfold p_impl_isMods;exact soundD_of (f:=df_impl_isMods) (hs:=h_impl_isMods) (q:=q_impl_isMods) ob_impl_isMods st_impl_isMods ck_impl_isMods (fun x h=>Eq.mp (ou_impl_isMods x) h) (fun x=>(vu_impl_isMods x).symm)
noncomputable def dc_impl_isUpper:DCode:=
 (.seq [0] (.region [oa 0 2 (.mv (.c (.bool false)))])
 (.seq [2] (.region [om 0 3 0,
 oa 1 4 (.bin .geq (.t 3) (.c (.int .i64 1))),
 om 2 5 4,
 og 3 6 (.mv (.t 0)) 5 true,
 og 4 7 (.bin .leq (.t 6) (.c (.int .i64 3))) 5 true,
 oa 5 8 (.pick (.t 5) (.t 7) (.c (.bool false))),
 om 6 2 8])
  .ret))
noncomputable def df_impl_isUpper:DFun:=⟨1,9,0,true,[.tmp 2],dc_impl_isUpper⟩
noncomputable def pf_impl_isUpper:PFun:=df_impl_isUpper.er
noncomputable def f_impl_isUpper:AFun:=pf_impl_isUpper.er
@[irreducible] noncomputable def s_impl_isUpper:CallSem:=funSem f_impl_isUpper
@[irreducible] noncomputable def p_impl_isUpper:PSem:=pfunSem pf_impl_isUpper
theorem sp_impl_isUpper:SoundP s_impl_isUpper p_impl_isUpper:=by unfold s_impl_isUpper p_impl_isUpper;exact pfun_sound (f:=pf_impl_isUpper) trivial
def h_impl_isUpper:List HT:=[.one .frz (.int .i64)]
def q_impl_isUpper:QT:=.one (.one .own (.bool))
@[irreducible] noncomputable def v_impl_isUpper(x:Int):Bool:=(shut fun x=>fnV df_impl_isUpper h_impl_isUpper q_impl_isUpper x).1 x
@[irreducible] noncomputable def ok_impl_isUpper(x:Int):Prop:=(shut fun x=>fnOk df_impl_isUpper h_impl_isUpper q_impl_isUpper x).1 x
theorem vu_impl_isUpper (x):v_impl_isUpper x=fnV df_impl_isUpper h_impl_isUpper q_impl_isUpper x:=by unfold v_impl_isUpper;exact congrFun (shut _).2 x
theorem ou_impl_isUpper (x):ok_impl_isUpper x=fnOk df_impl_isUpper h_impl_isUpper q_impl_isUpper x:=by unfold ok_impl_isUpper;exact congrFun (shut _).2 x
noncomputable def D_impl_isUpper:DSem:=DSemOf h_impl_isUpper q_impl_isUpper ok_impl_isUpper v_impl_isUpper
theorem ck_impl_isUpper(x:Int):fnChk df_impl_isUpper h_impl_isUpper q_impl_isUpper x=true:=by kernel_rfl
theorem ob_impl_isUpper:AllD df_impl_isUpper.body.obs:=trivial
theorem st_impl_isUpper:fnSt df_impl_isUpper h_impl_isUpper q_impl_isUpper=true:=by kernel_rfl
theorem sd_impl_isUpper:SoundD p_impl_isUpper D_impl_isUpper:=by unfold p_impl_isUpper;exact soundD_of (f:=df_impl_isUpper) (hs:=h_impl_isUpper) (q:=q_impl_isUpper) ob_impl_isUpper st_impl_isUpper ck_impl_isUpper (fun x h=>Eq.mp (ou_impl_isUpper x) h) (fun x=>(vu_impl_isUpper x).symm)
noncomputable def dc_impl_IsAction:DCode:=
 (.seq [1] (.region [oa 0 1 (.boxB 0 4 (.t 0)),
 oa 1 2 (.mv (.c (.bool false)))])
  (.seq [] (.seq [4,1] (.region [oa 0 3 (.fieldA 0 (.t 1)),
 oa 1 4 (.loadB 0 none (.t 3))])
  (.block 0 (.seq [5,4,1] (.seq [5,4,1] (.region [oa 0 6 (.bin .eql (.t 4) (.c (.int .i64 0))),
 om 1 5 6])
  (.cond (.t 5) .skip (.seq [5,4,1] (.region [oa 0 7 (.bin .eql (.t 4) (.c (.int .i64 1))),
 om 1 5 7])
  (.cond (.t 5) .skip (.region [oa 0 8 (.bin .eql (.t 4) (.c (.int .i64 10))),
 om 1 5 8])))))
  (.cond (.t 5) (.seq [2] (.region [oa 0 9 (.fieldA 1 (.t 1)),
 oa 1 10 (.loadB 0 none (.t 9)),
 oa 2 11 (.bin .eql (.t 10) (.c (.int .i64 0))),
 om 3 12 11,
 og 4 13 (.fieldA 2 (.t 1)) 12 true,
 og 5 14 (.loadB 0 none (.t 13)) 12 true,
 og 6 15 (.bin .eql (.t 14) (.c (.int .i64 0))) 12 true,
 oa 7 16 (.pick (.t 12) (.t 15) (.c (.bool false))),
 om 8 17 16,
 og 9 18 (.fieldA 3 (.t 1)) 17 true,
 og 10 19 (.loadB 0 none (.t 18)) 17 true,
 og 11 20 (.bin .eql (.t 19) (.c (.int .i64 0))) 17 true,
 oa 12 21 (.pick (.t 17) (.t 20) (.c (.bool false))),
 om 13 2 21])
  .ret) (.seq [22,4,1] (.region [oa 0 23 (.bin .eql (.t 4) (.c (.int .i64 2))),
 om 1 22 23])
  (.cond (.t 22) (.seq [2] (.region [oa 0 24 (.fieldA 3 (.t 1)),
 oa 1 25 (.loadB 0 none (.t 24)),
 oa 2 26 (.bin .eql (.t 25) (.c (.int .i64 0))),
 om 3 27 26,
 og 4 28 (.fieldA 1 (.t 1)) 27 true,
 og 5 29 (.loadB 0 none (.t 28)) 27 true,
 og 6 30 (.bin .eql (.t 29) (.c (.int .i64 0))) 27 true,
 og 7 31 (.mv (.t 30)) 27 true,
 og 8 32 (.fieldA 1 (.t 1)) 31 false,
 og 9 33 (.loadB 0 none (.t 32)) 31 false,
 ⟨10,some 34,.call false s_impl_isCode p_impl_isCode D_impl_isCode [(.t 33)],(some (31,false)),[]⟩,
 og 11 35 (.pick (.t 31) (.c (.bool true)) (.t 34)) 27 true,
 oa 12 36 (.pick (.t 27) (.t 35) (.c (.bool false))),
 om 13 37 36,
 og 14 38 (.fieldA 2 (.t 1)) 37 true,
 og 15 39 (.loadB 0 none (.t 38)) 37 true,
 og 16 40 (.bin .eql (.t 39) (.c (.int .i64 0))) 37 true,
 og 17 41 (.mv (.t 40)) 37 true,
 og 18 42 (.fieldA 2 (.t 1)) 41 false,
 og 19 43 (.loadB 0 none (.t 42)) 41 false,
 ⟨20,some 44,.call false s_impl_isMods p_impl_isMods D_impl_isMods [(.t 43)],(some (41,false)),[]⟩,
 og 21 45 (.pick (.t 41) (.c (.bool true)) (.t 44)) 37 true,
 oa 22 46 (.pick (.t 37) (.t 45) (.c (.bool false))),
 om 23 47 46,
 og 24 48 (.fieldA 1 (.t 1)) 47 true,
 og 25 49 (.loadB 0 none (.t 48)) 47 true,
 og 26 50 (.bin .neq (.t 49) (.c (.int .i64 0))) 47 true,
 og 27 51 (.mv (.t 50)) 47 true,
 og 28 52 (.fieldA 2 (.t 1)) 51 false,
 og 29 53 (.loadB 0 none (.t 52)) 51 false,
 og 30 54 (.bin .neq (.t 53) (.c (.int .i64 0))) 51 false,
 og 31 55 (.pick (.t 51) (.c (.bool true)) (.t 54)) 47 true,
 oa 32 56 (.pick (.t 47) (.t 55) (.c (.bool false))),
 om 33 2 56])
  .ret) (.seq [57,4,1] (.seq [57,4,1] (.region [oa 0 58 (.bin .eql (.t 4) (.c (.int .i64 3))),
 om 1 57 58])
  (.cond (.t 57) .skip (.region [oa 0 59 (.bin .eql (.t 4) (.c (.int .i64 4))),
 om 1 57 59])))
  (.cond (.t 57) (.seq [2] (.region [oa 0 60 (.fieldA 1 (.t 1)),
 oa 1 61 (.loadB 0 none (.t 60)),
 oa 2 62 (.bin .eql (.t 61) (.c (.int .i64 0))),
 om 3 63 62,
 og 4 64 (.fieldA 2 (.t 1)) 63 true,
 og 5 65 (.loadB 0 none (.t 64)) 63 true,
 og 6 66 (.bin .eql (.t 65) (.c (.int .i64 0))) 63 true,
 oa 7 67 (.pick (.t 63) (.t 66) (.c (.bool false))),
 om 8 68 67,
 og 9 69 (.fieldA 3 (.t 1)) 68 true,
 og 10 70 (.loadB 0 none (.t 69)) 68 true,
 ⟨11,some 71,.call false s_impl_isUpper p_impl_isUpper D_impl_isUpper [(.t 70)],(some (68,true)),[]⟩,
 oa 12 72 (.pick (.t 68) (.t 71) (.c (.bool false))),
 om 13 2 72])
  .ret) (.seq [73,4,1] (.region [oa 0 74 (.bin .eql (.t 4) (.c (.int .i64 5))),
 om 1 73 74])
  (.cond (.t 73) (.seq [2] (.region [oa 0 75 (.fieldA 1 (.t 1)),
 oa 1 76 (.loadB 0 none (.t 75)),
 oa 2 77 (.bin .eql (.t 76) (.c (.int .i64 0))),
 om 3 78 77,
 og 4 79 (.fieldA 2 (.t 1)) 78 true,
 og 5 80 (.loadB 0 none (.t 79)) 78 true,
 og 6 81 (.bin .eql (.t 80) (.c (.int .i64 0))) 78 true,
 oa 7 82 (.pick (.t 78) (.t 81) (.c (.bool false))),
 om 8 83 82,
 og 9 84 (.fieldA 3 (.t 1)) 83 true,
 og 10 85 (.loadB 0 none (.t 84)) 83 true,
 og 11 86 (.bin .geq (.t 85) (.c (.int .i64 0))) 83 true,
 oa 12 87 (.pick (.t 83) (.t 86) (.c (.bool false))),
 om 13 88 87,
 og 14 89 (.fieldA 3 (.t 1)) 88 true,
 og 15 90 (.loadB 0 none (.t 89)) 88 true,
 og 16 91 (.bin .leq (.t 90) (.c (.int .i64 3))) 88 true,
 oa 17 92 (.pick (.t 88) (.t 91) (.c (.bool false))),
 om 18 2 92])
  .ret) (.seq [93,4,1] (.region [oa 0 94 (.bin .eql (.t 4) (.c (.int .i64 9))),
 om 1 93 94])
  (.cond (.t 93) (.seq [2] (.region [oa 0 95 (.fieldA 1 (.t 1)),
 oa 1 96 (.loadB 0 none (.t 95)),
 oa 2 97 (.bin .eql (.t 96) (.c (.int .i64 0))),
 om 3 98 97,
 og 4 99 (.fieldA 2 (.t 1)) 98 true,
 og 5 100 (.loadB 0 none (.t 99)) 98 true,
 og 6 101 (.bin .eql (.t 100) (.c (.int .i64 0))) 98 true,
 oa 7 102 (.pick (.t 98) (.t 101) (.c (.bool false))),
 om 8 103 102,
 og 9 104 (.fieldA 3 (.t 1)) 103 true,
 og 10 105 (.loadB 0 none (.t 104)) 103 true,
 og 11 106 (.bin .geq (.t 105) (.c (.int .i64 0))) 103 true,
 oa 12 107 (.pick (.t 103) (.t 106) (.c (.bool false))),
 om 13 108 107,
 og 14 109 (.fieldA 3 (.t 1)) 108 true,
 og 15 110 (.loadB 0 none (.t 109)) 108 true,
 og 16 111 (.bin .leq (.t 110) (.c (.int .i64 3))) 108 true,
 oa 17 112 (.pick (.t 108) (.t 111) (.c (.bool false))),
 om 18 2 112])
  .ret) (.seq [113,4,1] (.region [oa 0 114 (.bin .eql (.t 4) (.c (.int .i64 6))),
 om 1 113 114])
  (.cond (.t 113) (.seq [2] (.region [oa 0 115 (.fieldA 1 (.t 1)),
 oa 1 116 (.loadB 0 none (.t 115)),
 oc 2 117 s_impl_isCode p_impl_isCode D_impl_isCode [(.t 116)],
 om 3 118 117,
 og 4 119 (.fieldA 2 (.t 1)) 118 true,
 og 5 120 (.loadB 0 none (.t 119)) 118 true,
 ⟨6,some 121,.call false s_impl_isMods p_impl_isMods D_impl_isMods [(.t 120)],(some (118,true)),[]⟩,
 oa 7 122 (.pick (.t 118) (.t 121) (.c (.bool false))),
 om 8 123 122,
 og 9 124 (.fieldA 3 (.t 1)) 123 true,
 og 10 125 (.loadB 0 none (.t 124)) 123 true,
 og 11 126 (.bin .eql (.t 125) (.c (.int .i64 0))) 123 true,
 oa 12 127 (.pick (.t 123) (.t 126) (.c (.bool false))),
 om 13 2 127])
  .ret) (.seq [128,4,1] (.region [oa 0 129 (.bin .eql (.t 4) (.c (.int .i64 7))),
 om 1 128 129])
  (.cond (.t 128) (.seq [2] (.region [oa 0 130 (.fieldA 1 (.t 1)),
 oa 1 131 (.loadB 0 none (.t 130)),
 oc 2 132 s_impl_isCode p_impl_isCode D_impl_isCode [(.t 131)],
 om 3 133 132,
 og 4 134 (.fieldA 2 (.t 1)) 133 true,
 og 5 135 (.loadB 0 none (.t 134)) 133 true,
 og 6 136 (.bin .eql (.t 135) (.c (.int .i64 0))) 133 true,
 oa 7 137 (.pick (.t 133) (.t 136) (.c (.bool false))),
 om 8 138 137,
 og 9 139 (.fieldA 3 (.t 1)) 138 true,
 og 10 140 (.loadB 0 none (.t 139)) 138 true,
 ⟨11,some 141,.call false s_impl_isUpper p_impl_isUpper D_impl_isUpper [(.t 140)],(some (138,true)),[]⟩,
 oa 12 142 (.pick (.t 138) (.t 141) (.c (.bool false))),
 om 13 2 142])
  .ret) (.seq [143,1] (.region [oa 0 144 (.bin .eql (.t 4) (.c (.int .i64 8))),
 om 1 143 144])
  (.cond (.t 143) (.seq [2] (.region [oa 0 145 (.fieldA 1 (.t 1)),
 oa 1 146 (.loadB 0 none (.t 145)),
 oa 2 147 (.bin .eql (.t 146) (.c (.int .i64 0))),
 om 3 148 147,
 og 4 149 (.fieldA 2 (.t 1)) 148 true,
 og 5 150 (.loadB 0 none (.t 149)) 148 true,
 ⟨6,some 151,.call false s_impl_isMods p_impl_isMods D_impl_isMods [(.t 150)],(some (148,true)),[]⟩,
 oa 7 152 (.pick (.t 148) (.t 151) (.c (.bool false))),
 om 8 153 152,
 og 9 154 (.fieldA 3 (.t 1)) 153 true,
 og 10 155 (.loadB 0 none (.t 154)) 153 true,
 og 11 156 (.bin .eql (.t 155) (.c (.int .i64 0))) 153 true,
 oa 12 157 (.pick (.t 153) (.t 156) (.c (.bool false))),
 om 13 2 157])
  .ret) .skip))))))))))))))))))
  (.seq [2] (.region [oa 0 2 (.mv (.c (.bool false)))])
  .ret)))
noncomputable def df_impl_IsAction:DFun:=⟨1,158,1,true,[.tmp 2],dc_impl_IsAction⟩
noncomputable def pf_impl_IsAction:PFun:=df_impl_IsAction.er
noncomputable def f_impl_IsAction:AFun:=pf_impl_IsAction.er
@[irreducible] noncomputable def s_impl_IsAction:CallSem:=funSem f_impl_IsAction
@[irreducible] noncomputable def p_impl_IsAction:PSem:=pfunSem pf_impl_IsAction
theorem sp_impl_IsAction:SoundP s_impl_IsAction p_impl_IsAction:=by unfold s_impl_IsAction p_impl_IsAction;exact pfun_sound (f:=pf_impl_IsAction) ⟨sp_impl_isCode,sp_impl_isMods,sp_impl_isUpper,sp_impl_isCode,sp_impl_isMods,sp_impl_isCode,sp_impl_isUpper,sp_impl_isMods,trivial⟩
def h_impl_IsAction:List HT:=[.agg [(.frz,.int .i64),(.frz,.int .i64),(.frz,.int .i64),(.frz,.int .i64)]]
def q_impl_IsAction:QT:=.one (.one .own (.bool))
@[irreducible] noncomputable def v_impl_IsAction(x:Int×Int×Int×Int):Bool:=(shut fun x=>fnV df_impl_IsAction h_impl_IsAction q_impl_IsAction x).1 x
@[irreducible] noncomputable def ok_impl_IsAction(x:Int×Int×Int×Int):Prop:=(shut fun x=>fnOk df_impl_IsAction h_impl_IsAction q_impl_IsAction x).1 x
theorem vu_impl_IsAction (x):v_impl_IsAction x=fnV df_impl_IsAction h_impl_IsAction q_impl_IsAction x:=by unfold v_impl_IsAction;exact congrFun (shut _).2 x
theorem ou_impl_IsAction (x):ok_impl_IsAction x=fnOk df_impl_IsAction h_impl_IsAction q_impl_IsAction x:=by unfold ok_impl_IsAction;exact congrFun (shut _).2 x
noncomputable def D_impl_IsAction:DSem:=DSemOf h_impl_IsAction q_impl_IsAction ok_impl_IsAction v_impl_IsAction
theorem ck_impl_IsAction(x:Int×Int×Int×Int):fnChk df_impl_IsAction h_impl_IsAction q_impl_IsAction x=true:=by kernel_rfl
theorem ob_impl_IsAction:AllD df_impl_IsAction.body.obs:=⟨sd_impl_isCode,sd_impl_isMods,sd_impl_isUpper,sd_impl_isCode,sd_impl_isMods,sd_impl_isCode,sd_impl_isUpper,sd_impl_isMods,trivial⟩
theorem st_impl_IsAction:fnSt df_impl_IsAction h_impl_IsAction q_impl_IsAction=true:=by kernel_rfl
theorem sd_impl_IsAction:SoundD p_impl_IsAction D_impl_IsAction:=by unfold p_impl_IsAction;exact soundD_of (f:=df_impl_IsAction) (hs:=h_impl_IsAction) (q:=q_impl_IsAction) ob_impl_IsAction st_impl_IsAction ck_impl_IsAction (fun x h=>Eq.mp (ou_impl_IsAction x) h) (fun x=>(vu_impl_IsAction x).symm)
noncomputable def dc_laws_eqAction:DCode:=
 (.seq [3,2] (.region [oa 0 2 (.boxB 0 4 (.t 0)),
 oa 1 3 (.boxB 1 4 (.t 1)),
 oa 2 4 (.mv (.c (.bool false)))])
  (.seq [3,2] (.seq [9,3,2] (.region [oa 0 5 (.fieldA 0 (.t 2)),
 oa 1 6 (.loadB 0 none (.t 5)),
 oa 2 7 (.fieldA 0 (.t 3)),
 oa 3 8 (.loadB 1 none (.t 7)),
 oa 4 9 (.bin .neq (.t 6) (.t 8))])
  (.cond (.t 9) (.seq [4] (.region [oa 0 4 (.mv (.c (.bool false)))])
  .ret) .skip))
  (.seq [3,2] (.seq [14,3,2] (.region [oa 0 10 (.fieldA 1 (.t 2)),
 oa 1 11 (.loadB 0 none (.t 10)),
 oa 2 12 (.fieldA 1 (.t 3)),
 oa 3 13 (.loadB 1 none (.t 12)),
 oa 4 14 (.bin .neq (.t 11) (.t 13))])
  (.cond (.t 14) (.seq [4] (.region [oa 0 4 (.mv (.c (.bool false)))])
  .ret) .skip))
  (.seq [3,2] (.seq [19,3,2] (.region [oa 0 15 (.fieldA 2 (.t 2)),
 oa 1 16 (.loadB 0 none (.t 15)),
 oa 2 17 (.fieldA 2 (.t 3)),
 oa 3 18 (.loadB 1 none (.t 17)),
 oa 4 19 (.bin .neq (.t 16) (.t 18))])
  (.cond (.t 19) (.seq [4] (.region [oa 0 4 (.mv (.c (.bool false)))])
  .ret) .skip))
  (.seq [] (.seq [24] (.region [oa 0 20 (.fieldA 3 (.t 2)),
 oa 1 21 (.loadB 0 none (.t 20)),
 oa 2 22 (.fieldA 3 (.t 3)),
 oa 3 23 (.loadB 1 none (.t 22)),
 oa 4 24 (.bin .neq (.t 21) (.t 23))])
  (.cond (.t 24) (.seq [4] (.region [oa 0 4 (.mv (.c (.bool false)))])
  .ret) .skip))
  (.seq [4] (.region [oa 0 4 (.mv (.c (.bool true)))])
  .ret))))))
noncomputable def df_laws_eqAction:DFun:=⟨2,25,2,true,[.tmp 4],dc_laws_eqAction⟩
noncomputable def pf_laws_eqAction:PFun:=df_laws_eqAction.er
noncomputable def f_laws_eqAction:AFun:=pf_laws_eqAction.er
@[irreducible] noncomputable def s_laws_eqAction:CallSem:=funSem f_laws_eqAction
@[irreducible] noncomputable def p_laws_eqAction:PSem:=pfunSem pf_laws_eqAction
theorem sp_laws_eqAction:SoundP s_laws_eqAction p_laws_eqAction:=by unfold s_laws_eqAction p_laws_eqAction;exact pfun_sound (f:=pf_laws_eqAction) trivial
def h_laws_eqAction:List HT:=[.agg [(.frz,.int .i64),(.frz,.int .i64),(.frz,.int .i64),(.frz,.int .i64)],.agg [(.frz,.int .i64),(.frz,.int .i64),(.frz,.int .i64),(.frz,.int .i64)]]
def q_laws_eqAction:QT:=.one (.one .own (.bool))
@[irreducible] noncomputable def v_laws_eqAction(x:(Int×Int×Int×Int)×(Int×Int×Int×Int)):Bool:=(shut fun x=>fnV df_laws_eqAction h_laws_eqAction q_laws_eqAction x).1 x
@[irreducible] noncomputable def ok_laws_eqAction(x:(Int×Int×Int×Int)×(Int×Int×Int×Int)):Prop:=(shut fun x=>fnOk df_laws_eqAction h_laws_eqAction q_laws_eqAction x).1 x
theorem vu_laws_eqAction (x):v_laws_eqAction x=fnV df_laws_eqAction h_laws_eqAction q_laws_eqAction x:=by unfold v_laws_eqAction;exact congrFun (shut _).2 x
theorem ou_laws_eqAction (x):ok_laws_eqAction x=fnOk df_laws_eqAction h_laws_eqAction q_laws_eqAction x:=by unfold ok_laws_eqAction;exact congrFun (shut _).2 x
noncomputable def D_laws_eqAction:DSem:=DSemOf h_laws_eqAction q_laws_eqAction ok_laws_eqAction v_laws_eqAction
theorem ck_laws_eqAction(x:(Int×Int×Int×Int)×(Int×Int×Int×Int)):fnChk df_laws_eqAction h_laws_eqAction q_laws_eqAction x=true:=by kernel_rfl
theorem ob_laws_eqAction:AllD df_laws_eqAction.body.obs:=trivial
theorem st_laws_eqAction:fnSt df_laws_eqAction h_laws_eqAction q_laws_eqAction=true:=by kernel_rfl
theorem sd_laws_eqAction:SoundD p_laws_eqAction D_laws_eqAction:=by unfold p_laws_eqAction;exact soundD_of (f:=df_laws_eqAction) (hs:=h_laws_eqAction) (q:=q_laws_eqAction) ob_laws_eqAction st_laws_eqAction ck_laws_eqAction (fun x h=>Eq.mp (ou_laws_eqAction x) h) (fun x=>(vu_laws_eqAction x).symm)
end
section
set_option maxRecDepth 100000
theorem ve_spec_l1In (x):v_spec_l1In x=(bAnd (iGe x.1 x.2.1) (iLe x.1 x.2.2)):=(vu_spec_l1In x).trans (by kernel_rfl)
theorem oe_spec_l1In (x):ok_spec_l1In x=True:=(ou_spec_l1In x).trans (by kernel_rfl)
theorem ve_spec_IsAction (x):v_spec_IsAction x=(bSel (bOr (iEq x.1 0) (bOr (iEq x.1 1) (iEq x.1 10))) (bAnd (iEq x.2.1 0) (bAnd (iEq x.2.2.1 0) (iEq x.2.2.2 0))) (bSel (iEq x.1 2) (bAnd (iEq x.2.2.2 0) (bSel (v_spec_l1In (x.2.1,1,56)) (bOr (v_spec_l1In (x.2.2.1,1,15)) (iEq x.2.2.1 0)) (bAnd (iEq x.2.1 0) (bAnd (v_spec_l1In (x.2.2.1,1,15)) (bOr (v_spec_l1In (x.2.2.1,1,15)) (iEq x.2.2.1 0)))))) (bSel (bOr (iEq x.1 3) (iEq x.1 4)) (bAnd (v_spec_l1In (x.2.2.2,1,3)) (bAnd (iEq x.2.1 0) (iEq x.2.2.1 0))) (bSel (bOr (iEq x.1 5) (iEq x.1 9)) (bAnd (v_spec_l1In (x.2.2.2,0,3)) (bAnd (iEq x.2.1 0) (iEq x.2.2.1 0))) (bSel (iEq x.1 6) (bAnd (v_spec_l1In (x.2.1,1,56)) (bAnd (v_spec_l1In (x.2.2.1,1,15)) (iEq x.2.2.2 0))) (bSel (iEq x.1 7) (bAnd (v_spec_l1In (x.2.1,1,56)) (bAnd (v_spec_l1In (x.2.2.2,1,3)) (iEq x.2.2.1 0))) (bAnd (iEq x.1 8) (bAnd (v_spec_l1In (x.2.2.1,1,15)) (bAnd (iEq x.2.1 0) (iEq x.2.2.2 0)))))))))):=(vu_spec_IsAction x).trans (by kernel_rfl)
theorem oe_spec_IsAction (x):ok_spec_IsAction x=((ok_spec_l1In (x.2.1,1,56))∧((ok_spec_l1In (x.2.2.1,1,15))∧((ok_spec_l1In (x.2.2.2,1,3))∧(((bOr (iEq x.1 0) (bOr (iEq x.1 1) (iEq x.1 10)))=true→True)∧((bOr (iEq x.1 0) (bOr (iEq x.1 1) (iEq x.1 10)))=false→(((iEq x.1 2)=true→True)∧((iEq x.1 2)=false→(((bOr (iEq x.1 3) (iEq x.1 4))=true→True)∧((bOr (iEq x.1 3) (iEq x.1 4))=false→(((bOr (iEq x.1 5) (iEq x.1 9))=true→(ok_spec_l1In (x.2.2.2,0,3)))∧((bOr (iEq x.1 5) (iEq x.1 9))=false→True))))))))))):=(ou_spec_IsAction x).trans (by kernel_rfl)
theorem ve_impl_isCode (x):v_impl_isCode x=(bAnd (iGe x 1) (iLe x 56)):=(vu_impl_isCode x).trans (by kernel_rfl)
theorem oe_impl_isCode (x):ok_impl_isCode x=True:=(ou_impl_isCode x).trans (by kernel_rfl)
theorem ve_impl_isMods (x):v_impl_isMods x=(bAnd (iGe x 1) (iLe x 15)):=(vu_impl_isMods x).trans (by kernel_rfl)
theorem oe_impl_isMods (x):ok_impl_isMods x=True:=(ou_impl_isMods x).trans (by kernel_rfl)
theorem ve_impl_isUpper (x):v_impl_isUpper x=(bAnd (iGe x 1) (iLe x 3)):=(vu_impl_isUpper x).trans (by kernel_rfl)
theorem oe_impl_isUpper (x):ok_impl_isUpper x=True:=(ou_impl_isUpper x).trans (by kernel_rfl)
theorem ve_impl_IsAction (x):v_impl_IsAction x=(bSel (bOr (iEq x.1 0) (bOr (iEq x.1 1) (iEq x.1 10))) (bAnd (iEq x.2.1 0) (bAnd (iEq x.2.2.1 0) (iEq x.2.2.2 0))) (bSel (iEq x.1 2) (bAnd (iEq x.2.2.2 0) (bSel (iEq x.2.1 0) (bSel (iEq x.2.2.1 0) (bOr (iNe x.2.1 0) (iNe x.2.2.1 0)) (bAnd (v_impl_isMods x.2.2.1) (bOr (iNe x.2.1 0) (iNe x.2.2.1 0)))) (bAnd (v_impl_isCode x.2.1) (bSel (iEq x.2.2.1 0) (bOr (iNe x.2.1 0) (iNe x.2.2.1 0)) (bAnd (v_impl_isMods x.2.2.1) (bOr (iNe x.2.1 0) (iNe x.2.2.1 0))))))) (bSel (bOr (iEq x.1 3) (iEq x.1 4)) (bAnd (iEq x.2.1 0) (bAnd (iEq x.2.2.1 0) (v_impl_isUpper x.2.2.2))) (bSel (iEq x.1 5) (bAnd (iEq x.2.1 0) (bAnd (iEq x.2.2.1 0) (bAnd (iGe x.2.2.2 0) (iLe x.2.2.2 3)))) (bSel (iEq x.1 9) (bAnd (iEq x.2.1 0) (bAnd (iEq x.2.2.1 0) (bAnd (iGe x.2.2.2 0) (iLe x.2.2.2 3)))) (bSel (iEq x.1 6) (bAnd (v_impl_isCode x.2.1) (bAnd (v_impl_isMods x.2.2.1) (iEq x.2.2.2 0))) (bSel (iEq x.1 7) (bAnd (v_impl_isCode x.2.1) (bAnd (iEq x.2.2.1 0) (v_impl_isUpper x.2.2.2))) (bAnd (iEq x.1 8) (bAnd (iEq x.2.1 0) (bAnd (v_impl_isMods x.2.2.1) (iEq x.2.2.2 0))))))))))):=(vu_impl_IsAction x).trans (by kernel_rfl)
theorem oe_impl_IsAction (x):ok_impl_IsAction x=(((bOr (iEq x.1 0) (bOr (iEq x.1 1) (iEq x.1 10)))=true→True)∧((bOr (iEq x.1 0) (bOr (iEq x.1 1) (iEq x.1 10)))=false→(((iEq x.1 2)=true→(((iEq x.2.2.2 0)=true→(((iEq x.2.1 0)=true→(((iEq x.2.2.1 0)=true→True)∧((iEq x.2.2.1 0)=false→(ok_impl_isMods x.2.2.1))))∧((iEq x.2.1 0)=false→((ok_impl_isCode x.2.1)∧(((v_impl_isCode x.2.1)=true→(((iEq x.2.2.1 0)=true→True)∧((iEq x.2.2.1 0)=false→(ok_impl_isMods x.2.2.1))))∧((v_impl_isCode x.2.1)=false→True))))))∧((iEq x.2.2.2 0)=false→True)))∧((iEq x.1 2)=false→(((bOr (iEq x.1 3) (iEq x.1 4))=true→(((iEq x.2.1 0)=true→(((iEq x.2.2.1 0)=true→(ok_impl_isUpper x.2.2.2))∧((iEq x.2.2.1 0)=false→True)))∧((iEq x.2.1 0)=false→True)))∧((bOr (iEq x.1 3) (iEq x.1 4))=false→(((iEq x.1 5)=true→True)∧((iEq x.1 5)=false→(((iEq x.1 9)=true→True)∧((iEq x.1 9)=false→(((iEq x.1 6)=true→((ok_impl_isCode x.2.1)∧(((v_impl_isCode x.2.1)=true→(ok_impl_isMods x.2.2.1))∧((v_impl_isCode x.2.1)=false→True))))∧((iEq x.1 6)=false→(((iEq x.1 7)=true→((ok_impl_isCode x.2.1)∧(((v_impl_isCode x.2.1)=true→(((iEq x.2.2.1 0)=true→(ok_impl_isUpper x.2.2.2))∧((iEq x.2.2.1 0)=false→True)))∧((v_impl_isCode x.2.1)=false→True))))∧((iEq x.1 7)=false→(((iEq x.1 8)=true→(((iEq x.2.1 0)=true→(ok_impl_isMods x.2.2.1))∧((iEq x.2.1 0)=false→True)))∧((iEq x.1 8)=false→True)))))))))))))))):=(ou_impl_IsAction x).trans (by kernel_rfl)
theorem ve_laws_eqAction (x):v_laws_eqAction x=(bAnd (bNot (iNe x.1.1 x.2.1)) (bAnd (bNot (iNe x.1.2.1 x.2.2.1)) (bAnd (bNot (iNe x.1.2.2.1 x.2.2.2.1)) (bNot (iNe x.1.2.2.2 x.2.2.2.2))))):=(vu_laws_eqAction x).trans (by kernel_rfl)
theorem oe_laws_eqAction (x):ok_laws_eqAction x=True:=(ou_laws_eqAction x).trans (by kernel_rfl)
end
theorem isAction_eq(x:Int×Int×Int×Int):v_spec_IsAction x=v_impl_IsAction x:=by
 simp only[ve_spec_IsAction,ve_impl_IsAction,ve_spec_l1In,ve_impl_isCode,ve_impl_isMods,ve_impl_isUpper,bNot_eq,bAnd_eq,bOr_eq,bIff_eq,bSel_eq,iEq_eq,iNe_eq,iLt_eq,iLe_eq,iGt_eq,iGe_eq,sEq_eq,sNe_eq,lLen_eq,lN_eq,lGet_eq,lSet_eq,lSub_eq,lTake_eq,lApp_eq,lRep_eq,iNat_eq,sAdd_eq]
 rw[Bool.eq_iff_iff]
 repeat' split
 all_goals simp only[Bool.and_eq_true,Bool.or_eq_true,Bool.not_eq_true',Bool.not_eq_false',Bool.and_eq_false_iff,Bool.or_eq_false_iff,decide_eq_true_eq,decide_eq_false_iff_not,Bool.not_eq_true,Bool.not_eq_false,beq_iff_eq,beq_eq_false_iff_ne] at *
 all_goals omega
theorem ok_spec_IsAction_t(x:Int×Int×Int×Int):ok_spec_IsAction x:=by
 have h:∀ y,ok_spec_l1In y:=fun y=>by rw[oe_spec_l1In];trivial
 rw[oe_spec_IsAction]
 simp[h]
theorem ok_impl_IsAction_t(x:Int×Int×Int×Int):ok_impl_IsAction x:=by
 have h1:∀ y,ok_impl_isCode y:=fun y=>by rw[oe_impl_isCode];trivial
 have h2:∀ y,ok_impl_isMods y:=fun y=>by rw[oe_impl_isMods];trivial
 have h3:∀ y,ok_impl_isUpper y:=fun y=>by rw[oe_impl_isUpper];trivial
 rw[oe_impl_IsAction]
 simp[h1,h2,h3]
theorem l1In_eq(a b c:Int):v_spec_l1In (a,b,c)=(decide (b≤a)&&decide (a≤c)):=by rw[ve_spec_l1In];simp only[bAnd_eq,iGe_eq,iLe_eq]
theorem ok_l1In (x):ok_spec_l1In x:=by rw[oe_spec_l1In];trivial
section
set_option maxRecDepth 8000
noncomputable def dc_laws_szHeldS:DCode:=
 (.seq [1,0] (.region [oi 0 4 0])
 (.seq [1] (.region [om 0 5 1,
 on 1 6 0,
 oa 2 7 (.len (.t 6)),
 oa 3 8 (.bin .sub (.t 5) (.t 7)),
 om 4 1 8])
  (.seq [1] (.seq [10,1] (.region [om 0 9 1,
 oa 1 10 (.bin .lss (.t 9) (.c (.int .i64 0)))])
  (.cond (.t 10) (.seq [4] (.region [oi 0 4 (-1)])
  .ret) .skip))
  (.seq [4] (.region [om 0 11 1,
 om 1 4 11])
  .ret))))
noncomputable def df_laws_szHeldS:DFun:=⟨2,12,0,true,[.tmp 4],dc_laws_szHeldS⟩
noncomputable def pf_laws_szHeldS:PFun:=df_laws_szHeldS.er
noncomputable def f_laws_szHeldS:AFun:=pf_laws_szHeldS.er
@[irreducible] noncomputable def s_laws_szHeldS:CallSem:=funSem f_laws_szHeldS
@[irreducible] noncomputable def p_laws_szHeldS:PSem:=pfunSem pf_laws_szHeldS
theorem sp_laws_szHeldS:SoundP s_laws_szHeldS p_laws_szHeldS:=by unfold s_laws_szHeldS p_laws_szHeldS;exact pfun_sound (f:=pf_laws_szHeldS) trivial
def h_laws_szHeldS:List HT:=[.one .frz (.sl rI5),.one .frz (.int .i64)]
def q_laws_szHeldS:QT:=.one (.one .own (.int .i64))
@[irreducible] noncomputable def v_laws_szHeldS(x:(List (Int×Int×Int×Int×Int))×Int):Int:=(shut fun x=>fnV df_laws_szHeldS h_laws_szHeldS q_laws_szHeldS x).1 x
@[irreducible] noncomputable def ok_laws_szHeldS(x:(List (Int×Int×Int×Int×Int))×Int):Prop:=(shut fun x=>fnOk df_laws_szHeldS h_laws_szHeldS q_laws_szHeldS x).1 x
theorem vu_laws_szHeldS (x):v_laws_szHeldS x=fnV df_laws_szHeldS h_laws_szHeldS q_laws_szHeldS x:=by unfold v_laws_szHeldS;exact congrFun (shut _).2 x
theorem ou_laws_szHeldS (x):ok_laws_szHeldS x=fnOk df_laws_szHeldS h_laws_szHeldS q_laws_szHeldS x:=by unfold ok_laws_szHeldS;exact congrFun (shut _).2 x
noncomputable def D_laws_szHeldS:DSem:=DSemOf h_laws_szHeldS q_laws_szHeldS ok_laws_szHeldS v_laws_szHeldS
theorem ck_laws_szHeldS(x:(List (Int×Int×Int×Int×Int))×Int):fnChk df_laws_szHeldS h_laws_szHeldS q_laws_szHeldS x=true:=by kernel_rfl
theorem ob_laws_szHeldS:AllD df_laws_szHeldS.body.obs:=trivial
theorem st_laws_szHeldS:fnSt df_laws_szHeldS h_laws_szHeldS q_laws_szHeldS=true:=by kernel_rfl
theorem sd_laws_szHeldS:SoundD p_laws_szHeldS D_laws_szHeldS:=by unfold p_laws_szHeldS;exact soundD_of (f:=df_laws_szHeldS) (hs:=h_laws_szHeldS) (q:=q_laws_szHeldS) ob_laws_szHeldS st_laws_szHeldS ck_laws_szHeldS (fun x h=>Eq.mp (ou_laws_szHeldS x) h) (fun x=>(vu_laws_szHeldS x).symm)
noncomputable def dc_laws_toAction:DCode:=
 (.seq [2,1] (.region [oa 0 1 (.boxB 0 4 (.t 0)),
 oa 1 2 (.allocB 1 [(.int .i64 0),(.int .i64 0),(.int .i64 0),(.int .i64 0)])])
  (.seq [3,2,1] (.region [oa 0 3 (.allocB 2 [(.int .i64 0),(.int .i64 0),(.int .i64 0),(.int .i64 0)])])
  (.seq [3,2,1] (.region [oa 0 4 (.fieldA 0 (.t 1)),
 ob 1 5 (.loadB 0 none (.t 4)),
 oa 2 6 (.fieldA 0 (.t 3)),
 os 3 (.storeB 2 1 (.t 6) (.t 5))])
  (.seq [3,2,1] (.region [oa 0 7 (.fieldA 1 (.t 1)),
 ob 1 8 (.loadB 0 none (.t 7)),
 oa 2 9 (.fieldA 1 (.t 3)),
 os 3 (.storeB 2 1 (.t 9) (.t 8))])
  (.seq [3,2,1] (.region [oa 0 10 (.fieldA 2 (.t 1)),
 ob 1 11 (.loadB 0 none (.t 10)),
 oa 2 12 (.fieldA 2 (.t 3)),
 os 3 (.storeB 2 1 (.t 12) (.t 11))])
  (.seq [3,2] (.region [oa 0 13 (.fieldA 3 (.t 1)),
 ob 1 14 (.loadB 0 none (.t 13)),
 oa 2 15 (.fieldA 3 (.t 3)),
 os 3 (.storeB 2 1 (.t 15) (.t 14))])
  (.seq [2] (.region [ob 0 16 (.loadB 2 (some 4) (.t 3)),
 os 1 (.storeB 1 4 (.t 2) (.t 16))])
  .ret)))))))
noncomputable def df_laws_toAction:DFun:=⟨1,17,3,true,[.cell 2 (some 4)],dc_laws_toAction⟩
noncomputable def pf_laws_toAction:PFun:=df_laws_toAction.er
noncomputable def f_laws_toAction:AFun:=pf_laws_toAction.er
@[irreducible] noncomputable def s_laws_toAction:CallSem:=funSem f_laws_toAction
@[irreducible] noncomputable def p_laws_toAction:PSem:=pfunSem pf_laws_toAction
theorem sp_laws_toAction:SoundP s_laws_toAction p_laws_toAction:=by unfold s_laws_toAction p_laws_toAction;exact pfun_sound (f:=pf_laws_toAction) trivial
def h_laws_toAction:List HT:=[.agg [(.frz,.int .i64),(.frz,.int .i64),(.frz,.int .i64),(.frz,.int .i64)]]
def q_laws_toAction:QT:=.one (.agg [(.own,.int .i64),(.own,.int .i64),(.own,.int .i64),(.own,.int .i64)])
@[irreducible] noncomputable def v_laws_toAction(x:Int×Int×Int×Int):Int×Int×Int×Int:=(shut fun x=>fnV df_laws_toAction h_laws_toAction q_laws_toAction x).1 x
@[irreducible] noncomputable def ok_laws_toAction(x:Int×Int×Int×Int):Prop:=(shut fun x=>fnOk df_laws_toAction h_laws_toAction q_laws_toAction x).1 x
theorem vu_laws_toAction (x):v_laws_toAction x=fnV df_laws_toAction h_laws_toAction q_laws_toAction x:=by unfold v_laws_toAction;exact congrFun (shut _).2 x
theorem ou_laws_toAction (x):ok_laws_toAction x=fnOk df_laws_toAction h_laws_toAction q_laws_toAction x:=by unfold ok_laws_toAction;exact congrFun (shut _).2 x
noncomputable def D_laws_toAction:DSem:=DSemOf h_laws_toAction q_laws_toAction ok_laws_toAction v_laws_toAction
theorem ck_laws_toAction(x:Int×Int×Int×Int):fnChk df_laws_toAction h_laws_toAction q_laws_toAction x=true:=by kernel_rfl
theorem ob_laws_toAction:AllD df_laws_toAction.body.obs:=trivial
theorem st_laws_toAction:fnSt df_laws_toAction h_laws_toAction q_laws_toAction=true:=by kernel_rfl
theorem sd_laws_toAction:SoundD p_laws_toAction D_laws_toAction:=by unfold p_laws_toAction;exact soundD_of (f:=df_laws_toAction) (hs:=h_laws_toAction) (q:=q_laws_toAction) ob_laws_toAction st_laws_toAction ck_laws_toAction (fun x h=>Eq.mp (ou_laws_toAction x) h) (fun x=>(vu_laws_toAction x).symm)
noncomputable def dc_laws_toHeld:DCode:=
 (.seq [2,1] (.region [oa 0 1 (.boxB 0 5 (.t 0)),
 oa 1 2 (.allocB 1 [(.int .i64 0),(.int .i64 0),(.int .i64 0),(.int .i64 0),(.int .i64 0)])])
  (.seq [3,2,1] (.region [oa 0 3 (.allocB 2 [(.int .i64 0),(.int .i64 0),(.int .i64 0),(.int .i64 0),(.int .i64 0)])])
  (.seq [3,2,1] (.region [oa 0 4 (.fieldA 0 (.t 1)),
 ob 1 5 (.loadB 0 none (.t 4)),
 oa 2 6 (.fieldA 0 (.t 3)),
 os 3 (.storeB 2 1 (.t 6) (.t 5))])
  (.seq [3,2] (.region [oa 0 7 (.fieldA 1 (.t 1)),
 oa 1 8 (.loadB 0 (some 4) (.t 7)),
 oc 2 9 s_laws_toAction p_laws_toAction D_laws_toAction [(.t 8)],
 oa 3 10 (.fieldA 1 (.t 3)),
 os 4 (.storeB 2 4 (.t 10) (.t 9))])
  (.seq [2] (.region [ob 0 11 (.loadB 2 (some 5) (.t 3)),
 os 1 (.storeB 1 5 (.t 2) (.t 11))])
  .ret)))))
noncomputable def df_laws_toHeld:DFun:=⟨1,12,3,true,[.cell 2 (some 5)],dc_laws_toHeld⟩
noncomputable def pf_laws_toHeld:PFun:=df_laws_toHeld.er
noncomputable def f_laws_toHeld:AFun:=pf_laws_toHeld.er
@[irreducible] noncomputable def s_laws_toHeld:CallSem:=funSem f_laws_toHeld
@[irreducible] noncomputable def p_laws_toHeld:PSem:=pfunSem pf_laws_toHeld
theorem sp_laws_toHeld:SoundP s_laws_toHeld p_laws_toHeld:=by unfold s_laws_toHeld p_laws_toHeld;exact pfun_sound (f:=pf_laws_toHeld) ⟨sp_laws_toAction,trivial⟩
def h_laws_toHeld:List HT:=[.agg [(.frz,.int .i64),(.frz,.int .i64),(.frz,.int .i64),(.frz,.int .i64),(.frz,.int .i64)]]
def q_laws_toHeld:QT:=.one (.agg [(.own,.int .i64),(.own,.int .i64),(.own,.int .i64),(.own,.int .i64),(.own,.int .i64)])
@[irreducible] noncomputable def v_laws_toHeld(x:Int×Int×Int×Int×Int):Int×Int×Int×Int×Int:=(shut fun x=>fnV df_laws_toHeld h_laws_toHeld q_laws_toHeld x).1 x
@[irreducible] noncomputable def ok_laws_toHeld(x:Int×Int×Int×Int×Int):Prop:=(shut fun x=>fnOk df_laws_toHeld h_laws_toHeld q_laws_toHeld x).1 x
theorem vu_laws_toHeld (x):v_laws_toHeld x=fnV df_laws_toHeld h_laws_toHeld q_laws_toHeld x:=by unfold v_laws_toHeld;exact congrFun (shut _).2 x
theorem ou_laws_toHeld (x):ok_laws_toHeld x=fnOk df_laws_toHeld h_laws_toHeld q_laws_toHeld x:=by unfold ok_laws_toHeld;exact congrFun (shut _).2 x
noncomputable def D_laws_toHeld:DSem:=DSemOf h_laws_toHeld q_laws_toHeld ok_laws_toHeld v_laws_toHeld
theorem ck_laws_toHeld(x:Int×Int×Int×Int×Int):fnChk df_laws_toHeld h_laws_toHeld q_laws_toHeld x=true:=by kernel_rfl
theorem ob_laws_toHeld:AllD df_laws_toHeld.body.obs:=⟨sd_laws_toAction,trivial⟩
theorem st_laws_toHeld:fnSt df_laws_toHeld h_laws_toHeld q_laws_toHeld=true:=by kernel_rfl
theorem sd_laws_toHeld:SoundD p_laws_toHeld D_laws_toHeld:=by unfold p_laws_toHeld;exact soundD_of (f:=df_laws_toHeld) (hs:=h_laws_toHeld) (q:=q_laws_toHeld) ob_laws_toHeld st_laws_toHeld ck_laws_toHeld (fun x h=>Eq.mp (ou_laws_toHeld x) h) (fun x=>(vu_laws_toHeld x).symm)
noncomputable def dc_laws_toHeldS:DCode:=
 (.seq [0] (.region [oa 0 2 (.mv (.c .nils))])
 (.seq [3,0] (.region [on 0 5 0,
 oa 1 6 (.len (.t 5)),
 ⟨2,some 7,.a false (.mkSlice 5 [(.int .i64 0),(.int .i64 0),(.int .i64 0),(.int .i64 0),(.int .i64 0)] (.t 6)) (some rI5),none,[]⟩,
 om 3 3 7])
  (.seq [3] (.seq [4,3,0] (.region [oi 0 4 0])
  (.block 0 (.loop [0,3,4] 1 (.seq [4,3,0] (.seq [11,4,3,0] (.region [om 0 8 4,
 on 1 9 0,
 oa 2 10 (.len (.t 9)),
 oa 3 11 (.bin .lss (.t 8) (.t 10))])
  (.cond (.t 11) .skip (.exit 0)))
  (.seq [4,3,0] (.block 1 (.region [on 0 14 3,
 om 1 15 4,
 on 2 16 0,
 om 3 17 4,
 oa 4 18 (.indexA 5 (.t 16) (.t 17)),
 oa 5 19 (.loadH (some 5) (.t 18)),
 oc 6 20 s_laws_toHeld p_laws_toHeld D_laws_toHeld [(.t 19)],
 oa 7 21 (.indexA 5 (.t 14) (.t 15)),
 os 8 (.storeH 5 (.t 21) (.t 20))]))
  (.region [om 0 12 4,
 oa 1 13 (.bin .add (.t 12) (.c (.int .i64 1))),
 om 2 4 13]))))))
  (.seq [2] (.region [om 0 22 3,
 om 1 2 22])
  .ret))))
noncomputable def df_laws_toHeldS:DFun:=⟨1,23,0,false,[.tmp 2],dc_laws_toHeldS⟩
noncomputable def pf_laws_toHeldS:PFun:=df_laws_toHeldS.er
noncomputable def f_laws_toHeldS:AFun:=pf_laws_toHeldS.er
@[irreducible] noncomputable def s_laws_toHeldS:CallSem:=funSem f_laws_toHeldS
@[irreducible] noncomputable def p_laws_toHeldS:PSem:=pfunSem pf_laws_toHeldS
theorem sp_laws_toHeldS:SoundP s_laws_toHeldS p_laws_toHeldS:=by unfold s_laws_toHeldS p_laws_toHeldS;exact pfun_sound (f:=pf_laws_toHeldS) ⟨sp_laws_toHeld,trivial⟩
def h_laws_toHeldS:List HT:=[.one .frz (.sl rI5)]
def q_laws_toHeldS:QT:=.one (.one .own (.sl rI5))
@[irreducible] noncomputable def v_laws_toHeldS(x:List (Int×Int×Int×Int×Int)):List (Int×Int×Int×Int×Int):=(shut fun x=>fnV df_laws_toHeldS h_laws_toHeldS q_laws_toHeldS x).1 x
@[irreducible] noncomputable def ok_laws_toHeldS(x:List (Int×Int×Int×Int×Int)):Prop:=(shut fun x=>fnOk df_laws_toHeldS h_laws_toHeldS q_laws_toHeldS x).1 x
theorem vu_laws_toHeldS (x):v_laws_toHeldS x=fnV df_laws_toHeldS h_laws_toHeldS q_laws_toHeldS x:=by unfold v_laws_toHeldS;exact congrFun (shut _).2 x
theorem ou_laws_toHeldS (x):ok_laws_toHeldS x=fnOk df_laws_toHeldS h_laws_toHeldS q_laws_toHeldS x:=by unfold ok_laws_toHeldS;exact congrFun (shut _).2 x
noncomputable def D_laws_toHeldS:DSem:=DSemOf h_laws_toHeldS q_laws_toHeldS ok_laws_toHeldS v_laws_toHeldS
theorem ck_laws_toHeldS(x:List (Int×Int×Int×Int×Int)):fnChk df_laws_toHeldS h_laws_toHeldS q_laws_toHeldS x=true:=by kernel_rfl
theorem ob_laws_toHeldS:AllD df_laws_toHeldS.body.obs:=⟨sd_laws_toHeld,trivial⟩
theorem st_laws_toHeldS:fnSt df_laws_toHeldS h_laws_toHeldS q_laws_toHeldS=true:=by kernel_rfl
theorem sd_laws_toHeldS:SoundD p_laws_toHeldS D_laws_toHeldS:=by unfold p_laws_toHeldS;exact soundD_of (f:=df_laws_toHeldS) (hs:=h_laws_toHeldS) (q:=q_laws_toHeldS) ob_laws_toHeldS st_laws_toHeldS ck_laws_toHeldS (fun x h=>Eq.mp (ou_laws_toHeldS x) h) (fun x=>(vu_laws_toHeldS x).symm)
noncomputable def dc_spec_IsTapHold:DCode:=
 (.seq [1] (.region [oa 0 1 (.boxB 0 4 (.t 0)),
 oa 1 2 (.mv (.c (.bool false)))])
  (.seq [2] (.region [oa 0 3 (.loadB 0 (some 4) (.t 1)),
 oc 1 4 s_spec_IsAction p_spec_IsAction D_spec_IsAction [(.t 3)],
 om 2 5 4,
 og 3 6 (.fieldA 0 (.t 1)) 5 true,
 og 4 7 (.loadB 0 none (.t 6)) 5 true,
 og 5 8 (.bin .eql (.t 7) (.c (.int .i64 6))) 5 true,
 og 6 9 (.mv (.t 8)) 5 true,
 og 7 10 (.fieldA 0 (.t 1)) 9 false,
 og 8 11 (.loadB 0 none (.t 10)) 9 false,
 og 9 12 (.bin .eql (.t 11) (.c (.int .i64 7))) 9 false,
 og 10 13 (.pick (.t 9) (.c (.bool true)) (.t 12)) 5 true,
 oa 11 14 (.pick (.t 5) (.t 13) (.c (.bool false))),
 om 12 2 14])
  .ret))
noncomputable def df_spec_IsTapHold:DFun:=⟨1,15,1,true,[.tmp 2],dc_spec_IsTapHold⟩
noncomputable def pf_spec_IsTapHold:PFun:=df_spec_IsTapHold.er
noncomputable def f_spec_IsTapHold:AFun:=pf_spec_IsTapHold.er
@[irreducible] noncomputable def s_spec_IsTapHold:CallSem:=funSem f_spec_IsTapHold
@[irreducible] noncomputable def p_spec_IsTapHold:PSem:=pfunSem pf_spec_IsTapHold
theorem sp_spec_IsTapHold:SoundP s_spec_IsTapHold p_spec_IsTapHold:=by unfold s_spec_IsTapHold p_spec_IsTapHold;exact pfun_sound (f:=pf_spec_IsTapHold) ⟨sp_spec_IsAction,trivial⟩
def h_spec_IsTapHold:List HT:=[.agg [(.frz,.int .i64),(.frz,.int .i64),(.frz,.int .i64),(.frz,.int .i64)]]
def q_spec_IsTapHold:QT:=.one (.one .own (.bool))
@[irreducible] noncomputable def v_spec_IsTapHold(x:Int×Int×Int×Int):Bool:=(shut fun x=>fnV df_spec_IsTapHold h_spec_IsTapHold q_spec_IsTapHold x).1 x
@[irreducible] noncomputable def ok_spec_IsTapHold(x:Int×Int×Int×Int):Prop:=(shut fun x=>fnOk df_spec_IsTapHold h_spec_IsTapHold q_spec_IsTapHold x).1 x
theorem vu_spec_IsTapHold (x):v_spec_IsTapHold x=fnV df_spec_IsTapHold h_spec_IsTapHold q_spec_IsTapHold x:=by unfold v_spec_IsTapHold;exact congrFun (shut _).2 x
theorem ou_spec_IsTapHold (x):ok_spec_IsTapHold x=fnOk df_spec_IsTapHold h_spec_IsTapHold q_spec_IsTapHold x:=by unfold ok_spec_IsTapHold;exact congrFun (shut _).2 x
noncomputable def D_spec_IsTapHold:DSem:=DSemOf h_spec_IsTapHold q_spec_IsTapHold ok_spec_IsTapHold v_spec_IsTapHold
theorem ck_spec_IsTapHold(x:Int×Int×Int×Int):fnChk df_spec_IsTapHold h_spec_IsTapHold q_spec_IsTapHold x=true:=by kernel_rfl
theorem ob_spec_IsTapHold:AllD df_spec_IsTapHold.body.obs:=⟨sd_spec_IsAction,trivial⟩
theorem st_spec_IsTapHold:fnSt df_spec_IsTapHold h_spec_IsTapHold q_spec_IsTapHold=true:=by kernel_rfl
theorem sd_spec_IsTapHold:SoundD p_spec_IsTapHold D_spec_IsTapHold:=by unfold p_spec_IsTapHold;exact soundD_of (f:=df_spec_IsTapHold) (hs:=h_spec_IsTapHold) (q:=q_spec_IsTapHold) ob_spec_IsTapHold st_spec_IsTapHold ck_spec_IsTapHold (fun x h=>Eq.mp (ou_spec_IsTapHold x) h) (fun x=>(vu_spec_IsTapHold x).symm)
noncomputable def dc_spec_IsHeld:DCode:=
 (.seq [0] (.region [oa 0 2 (.mv (.c (.bool false)))])
 (.seq [3,0] (.region [oi 0 3 0])
 (.seq [] (.seq [4,3,0] (.region [oi 0 4 0])
 (.block 0 (.loop [0,3,4] 1 (.seq [4,3,0] (.seq [9,4,3,0] (.region [om 0 6 4,
 on 1 7 0,
 oa 2 8 (.len (.t 7)),
 oa 3 9 (.bin .lss (.t 6) (.t 8))])
  (.cond (.t 9) .skip (.exit 0)))
  (.seq [4,3,0] (.block 1 (.seq [5,4,3,0] (.region [on 0 12 0,
 om 1 13 4,
 oa 2 14 (.indexA 5 (.t 12) (.t 13)),
 oa 3 15 (.fieldA 1 (.t 14)),
 ob 4 16 (.loadH (some 4) (.t 15)),
 oa 5 5 (.allocB 0 [(.int .i64 0),(.int .i64 0),(.int .i64 0),(.int .i64 0)]),
 os 6 (.storeB 0 4 (.t 5) (.t 16))])
  (.seq [4,3,0] (.seq [48,4,3,0] (.region [on 0 17 0,
 om 1 18 4,
 oa 2 19 (.indexA 5 (.t 17) (.t 18)),
 oa 3 20 (.fieldA 0 (.t 19)),
 oa 4 21 (.loadH none (.t 20)),
 oc 5 22 s_spec_l1In p_spec_l1In D_spec_l1In [(.t 21),(.c (.int .i64 0)),(.c (.int .i64 31))],
 oa 6 23 (.un .not (.t 22)),
 om 7 24 23,
 og 8 25 (.mv (.t 3)) 24 false,
 ⟨9,some 26,.a true (.mv (.t 0)) none,(some (24,false)),[]⟩,
 og 10 27 (.mv (.t 4)) 24 false,
 og 11 28 (.indexA 5 (.t 26) (.t 27)) 24 false,
 og 12 29 (.fieldA 0 (.t 28)) 24 false,
 og 13 30 (.loadH none (.t 29)) 24 false,
 og 14 31 (.bin .shr (.t 25) (.t 30)) 24 false,
 og 15 32 (.bin .and (.t 31) (.c (.int .i64 1))) 24 false,
 og 16 33 (.bin .eql (.t 32) (.c (.int .i64 1))) 24 false,
 oa 17 34 (.pick (.t 24) (.c (.bool true)) (.t 33)),
 om 18 35 34,
 og 19 36 (.loadB 0 (some 4) (.t 5)) 35 false,
 ⟨20,some 37,.call false s_spec_IsAction p_spec_IsAction D_spec_IsAction [(.t 36)],(some (35,false)),[]⟩,
 og 21 38 (.un .not (.t 37)) 35 false,
 oa 22 39 (.pick (.t 35) (.c (.bool true)) (.t 38)),
 om 23 40 39,
 og 24 41 (.fieldA 0 (.t 5)) 40 false,
 og 25 42 (.loadB 0 none (.t 41)) 40 false,
 og 26 43 (.bin .eql (.t 42) (.c (.int .i64 1))) 40 false,
 oa 27 44 (.pick (.t 40) (.c (.bool true)) (.t 43)),
 om 28 45 44,
 og 29 46 (.loadB 0 (some 4) (.t 5)) 45 false,
 ⟨30,some 47,.call false s_spec_IsTapHold p_spec_IsTapHold D_spec_IsTapHold [(.t 46)],(some (45,false)),[]⟩,
 oa 31 48 (.pick (.t 45) (.c (.bool true)) (.t 47))])
  (.cond (.t 48) (.seq [2] (.region [oa 0 2 (.mv (.c (.bool false)))])
  .ret) .skip))
  (.region [om 0 49 3,
 on 1 50 0,
 om 2 51 4,
 oa 3 52 (.indexA 5 (.t 50) (.t 51)),
 oa 4 53 (.fieldA 0 (.t 52)),
 oa 5 54 (.loadH none (.t 53)),
 oa 6 55 (.bin .shl (.c (.int .i64 1)) (.t 54)),
 oa 7 56 (.bin .or (.t 49) (.t 55)),
 om 8 3 56]))))
  (.region [om 0 10 4,
 oa 1 11 (.bin .add (.t 10) (.c (.int .i64 1))),
 om 2 4 11]))))))
  (.seq [2] (.region [oa 0 2 (.mv (.c (.bool true)))])
  .ret))))
noncomputable def df_spec_IsHeld:DFun:=⟨1,57,1,true,[.tmp 2],dc_spec_IsHeld⟩
noncomputable def pf_spec_IsHeld:PFun:=df_spec_IsHeld.er
noncomputable def f_spec_IsHeld:AFun:=pf_spec_IsHeld.er
@[irreducible] noncomputable def s_spec_IsHeld:CallSem:=funSem f_spec_IsHeld
@[irreducible] noncomputable def p_spec_IsHeld:PSem:=pfunSem pf_spec_IsHeld
theorem sp_spec_IsHeld:SoundP s_spec_IsHeld p_spec_IsHeld:=by unfold s_spec_IsHeld p_spec_IsHeld;exact pfun_sound (f:=pf_spec_IsHeld) ⟨sp_spec_l1In,sp_spec_IsAction,sp_spec_IsTapHold,trivial⟩
def h_spec_IsHeld:List HT:=[.one .frz (.sl rI5)]
def q_spec_IsHeld:QT:=.one (.one .own (.bool))
@[irreducible] noncomputable def v_spec_IsHeld(x:List (Int×Int×Int×Int×Int)):Bool:=(shut fun x=>fnV df_spec_IsHeld h_spec_IsHeld q_spec_IsHeld x).1 x
@[irreducible] noncomputable def ok_spec_IsHeld(x:List (Int×Int×Int×Int×Int)):Prop:=(shut fun x=>fnOk df_spec_IsHeld h_spec_IsHeld q_spec_IsHeld x).1 x
theorem vu_spec_IsHeld (x):v_spec_IsHeld x=fnV df_spec_IsHeld h_spec_IsHeld q_spec_IsHeld x:=by unfold v_spec_IsHeld;exact congrFun (shut _).2 x
theorem ou_spec_IsHeld (x):ok_spec_IsHeld x=fnOk df_spec_IsHeld h_spec_IsHeld q_spec_IsHeld x:=by unfold ok_spec_IsHeld;exact congrFun (shut _).2 x
noncomputable def D_spec_IsHeld:DSem:=DSemOf h_spec_IsHeld q_spec_IsHeld ok_spec_IsHeld v_spec_IsHeld
theorem ck_spec_IsHeld(x:List (Int×Int×Int×Int×Int)):fnChk df_spec_IsHeld h_spec_IsHeld q_spec_IsHeld x=true:=by kernel_rfl
theorem ob_spec_IsHeld:AllD df_spec_IsHeld.body.obs:=⟨sd_spec_l1In,sd_spec_IsAction,sd_spec_IsTapHold,trivial⟩
theorem st_spec_IsHeld:fnSt df_spec_IsHeld h_spec_IsHeld q_spec_IsHeld=true:=by kernel_rfl
theorem sd_spec_IsHeld:SoundD p_spec_IsHeld D_spec_IsHeld:=by unfold p_spec_IsHeld;exact soundD_of (f:=df_spec_IsHeld) (hs:=h_spec_IsHeld) (q:=q_spec_IsHeld) ob_spec_IsHeld st_spec_IsHeld ck_spec_IsHeld (fun x h=>Eq.mp (ou_spec_IsHeld x) h) (fun x=>(vu_spec_IsHeld x).symm)
noncomputable def dc_impl_bit:DCode:=
 (.seq [1,0] (.region [oi 0 4 0])
 (.seq [4] (.region [om 0 5 0,
 om 1 6 1,
 oa 2 7 (.bin .shr (.t 5) (.t 6)),
 oa 3 8 (.bin .and (.t 7) (.c (.int .i64 1))),
 om 4 4 8])
  .ret))
noncomputable def df_impl_bit:DFun:=⟨2,9,0,true,[.tmp 4],dc_impl_bit⟩
noncomputable def pf_impl_bit:PFun:=df_impl_bit.er
noncomputable def f_impl_bit:AFun:=pf_impl_bit.er
@[irreducible] noncomputable def s_impl_bit:CallSem:=funSem f_impl_bit
@[irreducible] noncomputable def p_impl_bit:PSem:=pfunSem pf_impl_bit
theorem sp_impl_bit:SoundP s_impl_bit p_impl_bit:=by unfold s_impl_bit p_impl_bit;exact pfun_sound (f:=pf_impl_bit) trivial
def h_impl_bit:List HT:=[.one .frz (.int .i64),.one .frz (.int .i64)]
def q_impl_bit:QT:=.one (.one .own (.int .i64))
@[irreducible] noncomputable def v_impl_bit(x:Int×Int):Int:=(shut fun x=>fnV df_impl_bit h_impl_bit q_impl_bit x).1 x
@[irreducible] noncomputable def ok_impl_bit(x:Int×Int):Prop:=(shut fun x=>fnOk df_impl_bit h_impl_bit q_impl_bit x).1 x
theorem vu_impl_bit (x):v_impl_bit x=fnV df_impl_bit h_impl_bit q_impl_bit x:=by unfold v_impl_bit;exact congrFun (shut _).2 x
theorem ou_impl_bit (x):ok_impl_bit x=fnOk df_impl_bit h_impl_bit q_impl_bit x:=by unfold ok_impl_bit;exact congrFun (shut _).2 x
noncomputable def D_impl_bit:DSem:=DSemOf h_impl_bit q_impl_bit ok_impl_bit v_impl_bit
theorem ck_impl_bit(x:Int×Int):fnChk df_impl_bit h_impl_bit q_impl_bit x=true:=by kernel_rfl
theorem ob_impl_bit:AllD df_impl_bit.body.obs:=trivial
theorem st_impl_bit:fnSt df_impl_bit h_impl_bit q_impl_bit=true:=by kernel_rfl
theorem sd_impl_bit:SoundD p_impl_bit D_impl_bit:=by unfold p_impl_bit;exact soundD_of (f:=df_impl_bit) (hs:=h_impl_bit) (q:=q_impl_bit) ob_impl_bit st_impl_bit ck_impl_bit (fun x h=>Eq.mp (ou_impl_bit x) h) (fun x=>(vu_impl_bit x).symm)
noncomputable def dc_impl_IsHeld:DCode:=
 (.seq [0] (.region [oa 0 2 (.mv (.c (.bool false)))])
 (.seq [3,0] (.region [oi 0 3 0])
 (.seq [] (.seq [8,7,6,3] (.region [on 0 6 0,
 oa 1 7 (.len (.t 6)),
 oi 2 8 0])
  (.block 0 (.loop [3,6,7,8] 1 (.seq [9,8,7,6,3] (.region [oa 0 9 (.bin .lss (.t 8) (.t 7))])
  (.seq [8,7,6,3] (.cond (.t 9) .skip (.exit 0))
  (.seq [8,7,6,3] (.block 1 (.seq [8,7,6,5,3] (.region [oa 0 10 (.indexA 5 (.t 6) (.t 8)),
 ob 1 11 (.loadH (some 5) (.t 10)),
 oa 2 5 (.allocB 0 [(.int .i64 0),(.int .i64 0),(.int .i64 0),(.int .i64 0),(.int .i64 0)]),
 os 3 (.storeB 0 5 (.t 5) (.t 11))])
  (.seq [8,7,6,5,3] (.seq [32,8,7,6,5,3] (.region [oa 0 12 (.fieldA 0 (.t 5)),
 oa 1 13 (.loadB 0 none (.t 12)),
 oa 2 14 (.bin .lss (.t 13) (.c (.int .i64 0))),
 om 3 15 14,
 og 4 16 (.fieldA 0 (.t 5)) 15 false,
 og 5 17 (.loadB 0 none (.t 16)) 15 false,
 og 6 18 (.bin .gtr (.t 17) (.c (.int .i64 31))) 15 false,
 oa 7 19 (.pick (.t 15) (.c (.bool true)) (.t 18)),
 om 8 20 19,
 og 9 21 (.mv (.t 3)) 20 false,
 og 10 22 (.fieldA 0 (.t 5)) 20 false,
 og 11 23 (.loadB 0 none (.t 22)) 20 false,
 ⟨12,some 24,.call false s_impl_bit p_impl_bit D_impl_bit [(.t 21),(.t 23)],(some (20,false)),[]⟩,
 og 13 25 (.bin .eql (.t 24) (.c (.int .i64 1))) 20 false,
 oa 14 26 (.pick (.t 20) (.c (.bool true)) (.t 25)),
 om 15 27 26,
 og 16 28 (.fieldA 1 (.t 5)) 27 false,
 og 17 29 (.loadB 0 (some 4) (.t 28)) 27 false,
 ⟨18,some 30,.call false s_impl_IsAction p_impl_IsAction D_impl_IsAction [(.t 29)],(some (27,false)),[]⟩,
 og 19 31 (.un .not (.t 30)) 27 false,
 oa 20 32 (.pick (.t 27) (.c (.bool true)) (.t 31))])
  (.cond (.t 32) (.seq [2] (.region [oa 0 2 (.mv (.c (.bool false)))])
  .ret) .skip))
  (.seq [8,7,6,5,3] (.seq [35,8,7,6,5,3] (.region [oa 0 33 (.fieldA 1 (.t 5)),
 oa 1 34 (.fieldA 0 (.t 33)),
 oa 2 35 (.loadB 0 none (.t 34))])
  (.block 2 (.seq [36,8,7,6,5,3] (.seq [36,35,8,7,6,5,3] (.region [oa 0 37 (.bin .eql (.t 35) (.c (.int .i64 1))),
 om 1 36 37])
  (.cond (.t 36) .skip (.seq [36,35,8,7,6,5,3] (.region [oa 0 38 (.bin .eql (.t 35) (.c (.int .i64 6))),
 om 1 36 38])
  (.cond (.t 36) .skip (.region [oa 0 39 (.bin .eql (.t 35) (.c (.int .i64 7))),
 om 1 36 39])))))
  (.cond (.t 36) (.seq [2] (.region [oa 0 2 (.mv (.c (.bool false)))])
  .ret) .skip))))
  (.region [om 0 40 3,
 oa 1 41 (.fieldA 0 (.t 5)),
 oa 2 42 (.loadB 0 none (.t 41)),
 oa 3 43 (.bin .shl (.c (.int .i64 1)) (.t 42)),
 oa 4 44 (.bin .or (.t 40) (.t 43)),
 om 5 3 44])))))
  (.region [oa 0 45 (.bin .add (.t 8) (.c (.int .i64 1))),
 om 1 8 45])))))))
  (.seq [2] (.region [oa 0 2 (.mv (.c (.bool true)))])
  .ret))))
noncomputable def df_impl_IsHeld:DFun:=⟨1,46,1,true,[.tmp 2],dc_impl_IsHeld⟩
noncomputable def pf_impl_IsHeld:PFun:=df_impl_IsHeld.er
noncomputable def f_impl_IsHeld:AFun:=pf_impl_IsHeld.er
@[irreducible] noncomputable def s_impl_IsHeld:CallSem:=funSem f_impl_IsHeld
@[irreducible] noncomputable def p_impl_IsHeld:PSem:=pfunSem pf_impl_IsHeld
theorem sp_impl_IsHeld:SoundP s_impl_IsHeld p_impl_IsHeld:=by unfold s_impl_IsHeld p_impl_IsHeld;exact pfun_sound (f:=pf_impl_IsHeld) ⟨sp_impl_bit,sp_impl_IsAction,trivial⟩
def h_impl_IsHeld:List HT:=[.one .frz (.sl rI5)]
def q_impl_IsHeld:QT:=.one (.one .own (.bool))
@[irreducible] noncomputable def v_impl_IsHeld(x:List (Int×Int×Int×Int×Int)):Bool:=(shut fun x=>fnV df_impl_IsHeld h_impl_IsHeld q_impl_IsHeld x).1 x
@[irreducible] noncomputable def ok_impl_IsHeld(x:List (Int×Int×Int×Int×Int)):Prop:=(shut fun x=>fnOk df_impl_IsHeld h_impl_IsHeld q_impl_IsHeld x).1 x
theorem vu_impl_IsHeld (x):v_impl_IsHeld x=fnV df_impl_IsHeld h_impl_IsHeld q_impl_IsHeld x:=by unfold v_impl_IsHeld;exact congrFun (shut _).2 x
theorem ou_impl_IsHeld (x):ok_impl_IsHeld x=fnOk df_impl_IsHeld h_impl_IsHeld q_impl_IsHeld x:=by unfold ok_impl_IsHeld;exact congrFun (shut _).2 x
noncomputable def D_impl_IsHeld:DSem:=DSemOf h_impl_IsHeld q_impl_IsHeld ok_impl_IsHeld v_impl_IsHeld
theorem ck_impl_IsHeld(x:List (Int×Int×Int×Int×Int)):fnChk df_impl_IsHeld h_impl_IsHeld q_impl_IsHeld x=true:=by kernel_rfl
theorem ob_impl_IsHeld:AllD df_impl_IsHeld.body.obs:=⟨sd_impl_bit,sd_impl_IsAction,trivial⟩
theorem st_impl_IsHeld:fnSt df_impl_IsHeld h_impl_IsHeld q_impl_IsHeld=true:=by kernel_rfl
theorem sd_impl_IsHeld:SoundD p_impl_IsHeld D_impl_IsHeld:=by unfold p_impl_IsHeld;exact soundD_of (f:=df_impl_IsHeld) (hs:=h_impl_IsHeld) (q:=q_impl_IsHeld) ob_impl_IsHeld st_impl_IsHeld ck_impl_IsHeld (fun x h=>Eq.mp (ou_impl_IsHeld x) h) (fun x=>(vu_impl_IsHeld x).symm)
noncomputable def dc_laws_eqHeld:DCode:=
 (.seq [3,2] (.region [oa 0 2 (.boxB 0 5 (.t 0)),
 oa 1 3 (.boxB 1 5 (.t 1)),
 oa 2 4 (.mv (.c (.bool false)))])
  (.seq [3,2] (.seq [9,3,2] (.region [oa 0 5 (.fieldA 0 (.t 2)),
 oa 1 6 (.loadB 0 none (.t 5)),
 oa 2 7 (.fieldA 0 (.t 3)),
 oa 3 8 (.loadB 1 none (.t 7)),
 oa 4 9 (.bin .neq (.t 6) (.t 8))])
  (.cond (.t 9) (.seq [4] (.region [oa 0 4 (.mv (.c (.bool false)))])
  .ret) .skip))
  (.seq [] (.seq [15] (.region [oa 0 10 (.fieldA 1 (.t 2)),
 oa 1 11 (.loadB 0 (some 4) (.t 10)),
 oa 2 12 (.fieldA 1 (.t 3)),
 oa 3 13 (.loadB 1 (some 4) (.t 12)),
 oc 4 14 s_laws_eqAction p_laws_eqAction D_laws_eqAction [(.t 11),(.t 13)],
 oa 5 15 (.un .not (.t 14))])
  (.cond (.t 15) (.seq [4] (.region [oa 0 4 (.mv (.c (.bool false)))])
  .ret) .skip))
  (.seq [4] (.region [oa 0 4 (.mv (.c (.bool true)))])
  .ret))))
noncomputable def df_laws_eqHeld:DFun:=⟨2,16,2,true,[.tmp 4],dc_laws_eqHeld⟩
noncomputable def pf_laws_eqHeld:PFun:=df_laws_eqHeld.er
noncomputable def f_laws_eqHeld:AFun:=pf_laws_eqHeld.er
@[irreducible] noncomputable def s_laws_eqHeld:CallSem:=funSem f_laws_eqHeld
@[irreducible] noncomputable def p_laws_eqHeld:PSem:=pfunSem pf_laws_eqHeld
theorem sp_laws_eqHeld:SoundP s_laws_eqHeld p_laws_eqHeld:=by unfold s_laws_eqHeld p_laws_eqHeld;exact pfun_sound (f:=pf_laws_eqHeld) ⟨sp_laws_eqAction,trivial⟩
def h_laws_eqHeld:List HT:=[.agg [(.frz,.int .i64),(.frz,.int .i64),(.frz,.int .i64),(.frz,.int .i64),(.frz,.int .i64)],.agg [(.frz,.int .i64),(.frz,.int .i64),(.frz,.int .i64),(.frz,.int .i64),(.frz,.int .i64)]]
def q_laws_eqHeld:QT:=.one (.one .own (.bool))
@[irreducible] noncomputable def v_laws_eqHeld(x:(Int×Int×Int×Int×Int)×(Int×Int×Int×Int×Int)):Bool:=(shut fun x=>fnV df_laws_eqHeld h_laws_eqHeld q_laws_eqHeld x).1 x
@[irreducible] noncomputable def ok_laws_eqHeld(x:(Int×Int×Int×Int×Int)×(Int×Int×Int×Int×Int)):Prop:=(shut fun x=>fnOk df_laws_eqHeld h_laws_eqHeld q_laws_eqHeld x).1 x
theorem vu_laws_eqHeld (x):v_laws_eqHeld x=fnV df_laws_eqHeld h_laws_eqHeld q_laws_eqHeld x:=by unfold v_laws_eqHeld;exact congrFun (shut _).2 x
theorem ou_laws_eqHeld (x):ok_laws_eqHeld x=fnOk df_laws_eqHeld h_laws_eqHeld q_laws_eqHeld x:=by unfold ok_laws_eqHeld;exact congrFun (shut _).2 x
noncomputable def D_laws_eqHeld:DSem:=DSemOf h_laws_eqHeld q_laws_eqHeld ok_laws_eqHeld v_laws_eqHeld
theorem ck_laws_eqHeld(x:(Int×Int×Int×Int×Int)×(Int×Int×Int×Int×Int)):fnChk df_laws_eqHeld h_laws_eqHeld q_laws_eqHeld x=true:=by kernel_rfl
theorem ob_laws_eqHeld:AllD df_laws_eqHeld.body.obs:=⟨sd_laws_eqAction,trivial⟩
theorem st_laws_eqHeld:fnSt df_laws_eqHeld h_laws_eqHeld q_laws_eqHeld=true:=by kernel_rfl
theorem sd_laws_eqHeld:SoundD p_laws_eqHeld D_laws_eqHeld:=by unfold p_laws_eqHeld;exact soundD_of (f:=df_laws_eqHeld) (hs:=h_laws_eqHeld) (q:=q_laws_eqHeld) ob_laws_eqHeld st_laws_eqHeld ck_laws_eqHeld (fun x h=>Eq.mp (ou_laws_eqHeld x) h) (fun x=>(vu_laws_eqHeld x).symm)
noncomputable def dc_laws_eqHeldS:DCode:=
 (.seq [1,0] (.region [oa 0 4 (.mv (.c (.bool false)))])
 (.seq [1,0] (.seq [10,1,0] (.region [on 0 6 0,
 oa 1 7 (.len (.t 6)),
 on 2 8 1,
 oa 3 9 (.len (.t 8)),
 oa 4 10 (.bin .neq (.t 7) (.t 9))])
  (.cond (.t 10) (.seq [4] (.region [oa 0 4 (.mv (.c (.bool false)))])
  .ret) .skip))
  (.seq [] (.seq [5,1,0] (.region [oi 0 5 0])
  (.block 0 (.loop [0,1,5] 1 (.seq [5,1,0] (.seq [14,5,1,0] (.region [om 0 11 5,
 on 1 12 0,
 oa 2 13 (.len (.t 12)),
 oa 3 14 (.bin .lss (.t 11) (.t 13))])
  (.cond (.t 14) .skip (.exit 0)))
  (.seq [5,1,0] (.block 1 (.seq [26,5,1,0] (.region [on 0 17 0,
 om 1 18 5,
 xA 2 19 (.indexA 5 (.t 17) (.t 18)) (rg 2),
 xA 3 20 (.loadH (some 5) (.t 19)) (rg 3),
 on 4 21 1,
 om 5 22 5,
 xA 6 23 (.indexA 5 (.t 21) (.t 22)) [4,5],
 xA 7 24 (.loadH (some 5) (.t 23)) [4,5,6],
 xC 8 25 s_laws_eqHeld p_laws_eqHeld D_laws_eqHeld [(.t 20),(.t 24)] (rg 8),
 xA 9 26 (.un .not (.t 25)) (rg 9)])
  (.cond (.t 26) (.seq [4] (.region [oa 0 4 (.mv (.c (.bool false)))])
  .ret) .skip)))
  (.region [om 0 15 5,
 oa 1 16 (.bin .add (.t 15) (.c (.int .i64 1))),
 om 2 5 16]))))))
  (.seq [4] (.region [oa 0 4 (.mv (.c (.bool true)))])
  .ret))))
noncomputable def df_laws_eqHeldS:DFun:=⟨2,27,0,true,[.tmp 4],dc_laws_eqHeldS⟩
noncomputable def pf_laws_eqHeldS:PFun:=df_laws_eqHeldS.er
noncomputable def f_laws_eqHeldS:AFun:=pf_laws_eqHeldS.er
@[irreducible] noncomputable def s_laws_eqHeldS:CallSem:=funSem f_laws_eqHeldS
@[irreducible] noncomputable def p_laws_eqHeldS:PSem:=pfunSem pf_laws_eqHeldS
theorem sp_laws_eqHeldS:SoundP s_laws_eqHeldS p_laws_eqHeldS:=by unfold s_laws_eqHeldS p_laws_eqHeldS;exact pfun_sound (f:=pf_laws_eqHeldS) ⟨sp_laws_eqHeld,trivial⟩
def h_laws_eqHeldS:List HT:=[.one .frz (.sl rI5),.one .frz (.sl rI5)]
def q_laws_eqHeldS:QT:=.one (.one .own (.bool))
@[irreducible] noncomputable def v_laws_eqHeldS(x:(List (Int×Int×Int×Int×Int))×(List (Int×Int×Int×Int×Int))):Bool:=(shut fun x=>fnV df_laws_eqHeldS h_laws_eqHeldS q_laws_eqHeldS x).1 x
@[irreducible] noncomputable def ok_laws_eqHeldS(x:(List (Int×Int×Int×Int×Int))×(List (Int×Int×Int×Int×Int))):Prop:=(shut fun x=>fnOk df_laws_eqHeldS h_laws_eqHeldS q_laws_eqHeldS x).1 x
theorem vu_laws_eqHeldS (x):v_laws_eqHeldS x=fnV df_laws_eqHeldS h_laws_eqHeldS q_laws_eqHeldS x:=by unfold v_laws_eqHeldS;exact congrFun (shut _).2 x
theorem ou_laws_eqHeldS (x):ok_laws_eqHeldS x=fnOk df_laws_eqHeldS h_laws_eqHeldS q_laws_eqHeldS x:=by unfold ok_laws_eqHeldS;exact congrFun (shut _).2 x
noncomputable def D_laws_eqHeldS:DSem:=DSemOf h_laws_eqHeldS q_laws_eqHeldS ok_laws_eqHeldS v_laws_eqHeldS
theorem ck_laws_eqHeldS(x:(List (Int×Int×Int×Int×Int))×(List (Int×Int×Int×Int×Int))):fnChk df_laws_eqHeldS h_laws_eqHeldS q_laws_eqHeldS x=true:=by kernel_rfl
theorem ob_laws_eqHeldS:AllD df_laws_eqHeldS.body.obs:=⟨sd_laws_eqHeld,trivial⟩
theorem st_laws_eqHeldS:fnSt df_laws_eqHeldS h_laws_eqHeldS q_laws_eqHeldS=true:=by kernel_rfl
theorem sd_laws_eqHeldS:SoundD p_laws_eqHeldS D_laws_eqHeldS:=by unfold p_laws_eqHeldS;exact soundD_of (f:=df_laws_eqHeldS) (hs:=h_laws_eqHeldS) (q:=q_laws_eqHeldS) ob_laws_eqHeldS st_laws_eqHeldS ck_laws_eqHeldS (fun x h=>Eq.mp (ou_laws_eqHeldS x) h) (fun x=>(vu_laws_eqHeldS x).symm)
end
section
set_option maxRecDepth 100000
theorem ve_laws_szHeldS (x):v_laws_szHeldS x=(bSel (iLt (iSub .i64 x.2 (lLen x.1)) 0) (-1) (iSub .i64 x.2 (lLen x.1))):=(vu_laws_szHeldS x).trans (by kernel_rfl)
theorem oe_laws_szHeldS (x):ok_laws_szHeldS x=True:=(ou_laws_szHeldS x).trans (by kernel_rfl)
theorem ve_laws_toAction (x):v_laws_toAction x=(x.1,x.2.1,x.2.2.1,x.2.2.2):=(vu_laws_toAction x).trans (by kernel_rfl)
theorem oe_laws_toAction (x):ok_laws_toAction x=True:=(ou_laws_toAction x).trans (by kernel_rfl)
theorem ve_laws_toHeld (x):v_laws_toHeld x=(x.1,(v_laws_toAction (x.2.1,x.2.2.1,x.2.2.2.1,x.2.2.2.2)).1,(v_laws_toAction (x.2.1,x.2.2.1,x.2.2.2.1,x.2.2.2.2)).2.1,(v_laws_toAction (x.2.1,x.2.2.1,x.2.2.2.1,x.2.2.2.2)).2.2.1,(v_laws_toAction (x.2.1,x.2.2.1,x.2.2.2.1,x.2.2.2.2)).2.2.2):=(vu_laws_toHeld x).trans (by kernel_rfl)
theorem oe_laws_toHeld (x):ok_laws_toHeld x=(ok_laws_toAction (x.2.1,x.2.2.1,x.2.2.2.1,x.2.2.2.2)):=(ou_laws_toHeld x).trans (by kernel_rfl)
theorem ve_laws_toHeldS (x):v_laws_toHeldS x=(loopV (fun(x0:((List (Int×(Int×(Int×(Int×Int)))))×Int))=>(iLt x0.2 (lLen x))) (fun(x0:((List (Int×(Int×(Int×(Int×Int)))))×Int))=>((lSet x0.1 (iNat x0.2) ((v_laws_toHeld ((lGet x (iNat x0.2) (0,0,0,0,0)).1,(lGet x (iNat x0.2) (0,0,0,0,0)).2.1,(lGet x (iNat x0.2) (0,0,0,0,0)).2.2.1,(lGet x (iNat x0.2) (0,0,0,0,0)).2.2.2.1,(lGet x (iNat x0.2) (0,0,0,0,0)).2.2.2.2)).1,(v_laws_toHeld ((lGet x (iNat x0.2) (0,0,0,0,0)).1,(lGet x (iNat x0.2) (0,0,0,0,0)).2.1,(lGet x (iNat x0.2) (0,0,0,0,0)).2.2.1,(lGet x (iNat x0.2) (0,0,0,0,0)).2.2.2.1,(lGet x (iNat x0.2) (0,0,0,0,0)).2.2.2.2)).2.1,(v_laws_toHeld ((lGet x (iNat x0.2) (0,0,0,0,0)).1,(lGet x (iNat x0.2) (0,0,0,0,0)).2.1,(lGet x (iNat x0.2) (0,0,0,0,0)).2.2.1,(lGet x (iNat x0.2) (0,0,0,0,0)).2.2.2.1,(lGet x (iNat x0.2) (0,0,0,0,0)).2.2.2.2)).2.2.1,(v_laws_toHeld ((lGet x (iNat x0.2) (0,0,0,0,0)).1,(lGet x (iNat x0.2) (0,0,0,0,0)).2.1,(lGet x (iNat x0.2) (0,0,0,0,0)).2.2.1,(lGet x (iNat x0.2) (0,0,0,0,0)).2.2.2.1,(lGet x (iNat x0.2) (0,0,0,0,0)).2.2.2.2)).2.2.2.1,(v_laws_toHeld ((lGet x (iNat x0.2) (0,0,0,0,0)).1,(lGet x (iNat x0.2) (0,0,0,0,0)).2.1,(lGet x (iNat x0.2) (0,0,0,0,0)).2.2.1,(lGet x (iNat x0.2) (0,0,0,0,0)).2.2.2.1,(lGet x (iNat x0.2) (0,0,0,0,0)).2.2.2.2)).2.2.2.2)),(iAdd .i64 x0.2 1))) ((lRep (lLen x) (0,0,0,0,0)),0)).1:=(vu_laws_toHeldS x).trans (by kernel_rfl)
theorem oe_laws_toHeldS (x):ok_laws_toHeldS x=((((0:Int)≤(lLen x))∧(roomy ((Int.toNat (lLen x))*5)))∧(LoopOk (fun(x0:((List (Int×(Int×(Int×(Int×Int)))))×Int))=>(iLt x0.2 (lLen x))) (fun(x0:((List (Int×(Int×(Int×(Int×Int)))))×Int))=>((lSet x0.1 (iNat x0.2) ((v_laws_toHeld ((lGet x (iNat x0.2) (0,0,0,0,0)).1,(lGet x (iNat x0.2) (0,0,0,0,0)).2.1,(lGet x (iNat x0.2) (0,0,0,0,0)).2.2.1,(lGet x (iNat x0.2) (0,0,0,0,0)).2.2.2.1,(lGet x (iNat x0.2) (0,0,0,0,0)).2.2.2.2)).1,(v_laws_toHeld ((lGet x (iNat x0.2) (0,0,0,0,0)).1,(lGet x (iNat x0.2) (0,0,0,0,0)).2.1,(lGet x (iNat x0.2) (0,0,0,0,0)).2.2.1,(lGet x (iNat x0.2) (0,0,0,0,0)).2.2.2.1,(lGet x (iNat x0.2) (0,0,0,0,0)).2.2.2.2)).2.1,(v_laws_toHeld ((lGet x (iNat x0.2) (0,0,0,0,0)).1,(lGet x (iNat x0.2) (0,0,0,0,0)).2.1,(lGet x (iNat x0.2) (0,0,0,0,0)).2.2.1,(lGet x (iNat x0.2) (0,0,0,0,0)).2.2.2.1,(lGet x (iNat x0.2) (0,0,0,0,0)).2.2.2.2)).2.2.1,(v_laws_toHeld ((lGet x (iNat x0.2) (0,0,0,0,0)).1,(lGet x (iNat x0.2) (0,0,0,0,0)).2.1,(lGet x (iNat x0.2) (0,0,0,0,0)).2.2.1,(lGet x (iNat x0.2) (0,0,0,0,0)).2.2.2.1,(lGet x (iNat x0.2) (0,0,0,0,0)).2.2.2.2)).2.2.2.1,(v_laws_toHeld ((lGet x (iNat x0.2) (0,0,0,0,0)).1,(lGet x (iNat x0.2) (0,0,0,0,0)).2.1,(lGet x (iNat x0.2) (0,0,0,0,0)).2.2.1,(lGet x (iNat x0.2) (0,0,0,0,0)).2.2.2.1,(lGet x (iNat x0.2) (0,0,0,0,0)).2.2.2.2)).2.2.2.2)),(iAdd .i64 x0.2 1))) (fun(x0:((List (Int×(Int×(Int×(Int×Int)))))×Int))=>(((iLt x0.2 (lLen x))=true→((((0:Int)≤x0.2)∧(x0.2<(((List.length x):Int))))∧(((iNat x0.2)<(List.length x))∧((ok_laws_toHeld ((lGet x (iNat x0.2) (0,0,0,0,0)).1,(lGet x (iNat x0.2) (0,0,0,0,0)).2.1,(lGet x (iNat x0.2) (0,0,0,0,0)).2.2.1,(lGet x (iNat x0.2) (0,0,0,0,0)).2.2.2.1,(lGet x (iNat x0.2) (0,0,0,0,0)).2.2.2.2))∧((((0:Int)≤x0.2)∧(x0.2<(((List.length x0.1):Int))))∧((iNat x0.2)<(List.length x0.1)))))))∧((iLt x0.2 (lLen x))=false→True))) ((lRep (lLen x) (0,0,0,0,0)),0))):=(ou_laws_toHeldS x).trans (by kernel_rfl)
theorem ve_spec_IsTapHold (x):v_spec_IsTapHold x=(bAnd (v_spec_IsAction (x.1,x.2.1,x.2.2.1,x.2.2.2)) (bOr (iEq x.1 6) (iEq x.1 7))):=(vu_spec_IsTapHold x).trans (by kernel_rfl)
theorem oe_spec_IsTapHold (x):ok_spec_IsTapHold x=(ok_spec_IsAction (x.1,x.2.1,x.2.2.1,x.2.2.2)):=(ou_spec_IsTapHold x).trans (by kernel_rfl)
theorem ve_spec_IsHeld (x):v_spec_IsHeld x=(bNot (iLt (loopV (fun(x0:(Int×Int))=>(bAnd (iLt x0.2 (lLen x)) (bNot (bOr (bNot (v_spec_l1In ((lGet x (iNat x0.2) (0,0,0,0,0)).1,0,31))) (bOr (iEq (iAnd .i64 (iShr .i64 x0.1 (lGet x (iNat x0.2) (0,0,0,0,0)).1) 1) 1) (bOr (bNot (v_spec_IsAction ((lGet x (iNat x0.2) (0,0,0,0,0)).2.1,(lGet x (iNat x0.2) (0,0,0,0,0)).2.2.1,(lGet x (iNat x0.2) (0,0,0,0,0)).2.2.2.1,(lGet x (iNat x0.2) (0,0,0,0,0)).2.2.2.2))) (bOr (iEq (lGet x (iNat x0.2) (0,0,0,0,0)).2.1 1) (v_spec_IsTapHold ((lGet x (iNat x0.2) (0,0,0,0,0)).2.1,(lGet x (iNat x0.2) (0,0,0,0,0)).2.2.1,(lGet x (iNat x0.2) (0,0,0,0,0)).2.2.2.1,(lGet x (iNat x0.2) (0,0,0,0,0)).2.2.2.2))))))))) (fun(x0:(Int×Int))=>((iOr .i64 x0.1 (iShl .i64 1 (lGet x (iNat x0.2) (0,0,0,0,0)).1)),(iAdd .i64 x0.2 1))) (0,0)).2 (lLen x))):=(vu_spec_IsHeld x).trans (by kernel_rfl)
theorem oe_spec_IsHeld (x):ok_spec_IsHeld x=(LoopOk (fun(x0:(Int×Int))=>(bAnd (iLt x0.2 (lLen x)) (bNot (bOr (bNot (v_spec_l1In ((lGet x (iNat x0.2) (0,0,0,0,0)).1,0,31))) (bOr (iEq (iAnd .i64 (iShr .i64 x0.1 (lGet x (iNat x0.2) (0,0,0,0,0)).1) 1) 1) (bOr (bNot (v_spec_IsAction ((lGet x (iNat x0.2) (0,0,0,0,0)).2.1,(lGet x (iNat x0.2) (0,0,0,0,0)).2.2.1,(lGet x (iNat x0.2) (0,0,0,0,0)).2.2.2.1,(lGet x (iNat x0.2) (0,0,0,0,0)).2.2.2.2))) (bOr (iEq (lGet x (iNat x0.2) (0,0,0,0,0)).2.1 1) (v_spec_IsTapHold ((lGet x (iNat x0.2) (0,0,0,0,0)).2.1,(lGet x (iNat x0.2) (0,0,0,0,0)).2.2.1,(lGet x (iNat x0.2) (0,0,0,0,0)).2.2.2.1,(lGet x (iNat x0.2) (0,0,0,0,0)).2.2.2.2))))))))) (fun(x0:(Int×Int))=>((iOr .i64 x0.1 (iShl .i64 1 (lGet x (iNat x0.2) (0,0,0,0,0)).1)),(iAdd .i64 x0.2 1))) (fun(x0:(Int×Int))=>(((iLt x0.2 (lLen x))=true→((((0:Int)≤x0.2)∧(x0.2<(((List.length x):Int))))∧(((iNat x0.2)<(List.length x))∧(((((0:Int)≤x0.2)∧(x0.2<(((List.length x):Int))))∧(((iNat x0.2)<(List.length x))∧((ok_spec_l1In ((lGet x (iNat x0.2) (0,0,0,0,0)).1,0,31))∧(((bNot (v_spec_l1In ((lGet x (iNat x0.2) (0,0,0,0,0)).1,0,31)))=true→True)∧((bNot (v_spec_l1In ((lGet x (iNat x0.2) (0,0,0,0,0)).1,0,31)))=false→((((0:Int)≤x0.2)∧(x0.2<(((List.length x):Int))))∧(((iNat x0.2)<(List.length x))∧(((0:Int)≤(lGet x (iNat x0.2) (0,0,0,0,0)).1)∧(((iEq (iAnd .i64 (iShr .i64 x0.1 (lGet x (iNat x0.2) (0,0,0,0,0)).1) 1) 1)=true→True)∧((iEq (iAnd .i64 (iShr .i64 x0.1 (lGet x (iNat x0.2) (0,0,0,0,0)).1) 1) 1)=false→((ok_spec_IsAction ((lGet x (iNat x0.2) (0,0,0,0,0)).2.1,(lGet x (iNat x0.2) (0,0,0,0,0)).2.2.1,(lGet x (iNat x0.2) (0,0,0,0,0)).2.2.2.1,(lGet x (iNat x0.2) (0,0,0,0,0)).2.2.2.2))∧(((bNot (v_spec_IsAction ((lGet x (iNat x0.2) (0,0,0,0,0)).2.1,(lGet x (iNat x0.2) (0,0,0,0,0)).2.2.1,(lGet x (iNat x0.2) (0,0,0,0,0)).2.2.2.1,(lGet x (iNat x0.2) (0,0,0,0,0)).2.2.2.2)))=true→True)∧((bNot (v_spec_IsAction ((lGet x (iNat x0.2) (0,0,0,0,0)).2.1,(lGet x (iNat x0.2) (0,0,0,0,0)).2.2.1,(lGet x (iNat x0.2) (0,0,0,0,0)).2.2.2.1,(lGet x (iNat x0.2) (0,0,0,0,0)).2.2.2.2)))=false→(((iEq (lGet x (iNat x0.2) (0,0,0,0,0)).2.1 1)=true→True)∧((iEq (lGet x (iNat x0.2) (0,0,0,0,0)).2.1 1)=false→(ok_spec_IsTapHold ((lGet x (iNat x0.2) (0,0,0,0,0)).2.1,(lGet x (iNat x0.2) (0,0,0,0,0)).2.2.1,(lGet x (iNat x0.2) (0,0,0,0,0)).2.2.2.1,(lGet x (iNat x0.2) (0,0,0,0,0)).2.2.2.2)))))))))))))))))∧(((bOr (bNot (v_spec_l1In ((lGet x (iNat x0.2) (0,0,0,0,0)).1,0,31))) (bOr (iEq (iAnd .i64 (iShr .i64 x0.1 (lGet x (iNat x0.2) (0,0,0,0,0)).1) 1) 1) (bOr (bNot (v_spec_IsAction ((lGet x (iNat x0.2) (0,0,0,0,0)).2.1,(lGet x (iNat x0.2) (0,0,0,0,0)).2.2.1,(lGet x (iNat x0.2) (0,0,0,0,0)).2.2.2.1,(lGet x (iNat x0.2) (0,0,0,0,0)).2.2.2.2))) (bOr (iEq (lGet x (iNat x0.2) (0,0,0,0,0)).2.1 1) (v_spec_IsTapHold ((lGet x (iNat x0.2) (0,0,0,0,0)).2.1,(lGet x (iNat x0.2) (0,0,0,0,0)).2.2.1,(lGet x (iNat x0.2) (0,0,0,0,0)).2.2.2.1,(lGet x (iNat x0.2) (0,0,0,0,0)).2.2.2.2))))))=true→True)∧((bOr (bNot (v_spec_l1In ((lGet x (iNat x0.2) (0,0,0,0,0)).1,0,31))) (bOr (iEq (iAnd .i64 (iShr .i64 x0.1 (lGet x (iNat x0.2) (0,0,0,0,0)).1) 1) 1) (bOr (bNot (v_spec_IsAction ((lGet x (iNat x0.2) (0,0,0,0,0)).2.1,(lGet x (iNat x0.2) (0,0,0,0,0)).2.2.1,(lGet x (iNat x0.2) (0,0,0,0,0)).2.2.2.1,(lGet x (iNat x0.2) (0,0,0,0,0)).2.2.2.2))) (bOr (iEq (lGet x (iNat x0.2) (0,0,0,0,0)).2.1 1) (v_spec_IsTapHold ((lGet x (iNat x0.2) (0,0,0,0,0)).2.1,(lGet x (iNat x0.2) (0,0,0,0,0)).2.2.1,(lGet x (iNat x0.2) (0,0,0,0,0)).2.2.2.1,(lGet x (iNat x0.2) (0,0,0,0,0)).2.2.2.2))))))=false→((((0:Int)≤x0.2)∧(x0.2<(((List.length x):Int))))∧(((iNat x0.2)<(List.length x))∧((0:Int)≤(lGet x (iNat x0.2) (0,0,0,0,0)).1)))))))))∧((iLt x0.2 (lLen x))=false→True))) (0,0)):=(ou_spec_IsHeld x).trans (by kernel_rfl)
theorem ve_impl_bit (x):v_impl_bit x=(iAnd .i64 (iShr .i64 x.1 x.2) 1):=(vu_impl_bit x).trans (by kernel_rfl)
theorem oe_impl_bit (x):ok_impl_bit x=((0:Int)≤x.2):=(ou_impl_bit x).trans (by kernel_rfl)
theorem ve_impl_IsHeld (x):v_impl_IsHeld x=(bNot (iLt (loopV (fun(x0:(Int×Int))=>(bAnd (iLt x0.2 (lLen x)) (bAnd (bNot (bOr (iLt (lGet x (iNat x0.2) (0,0,0,0,0)).1 0) (bOr (iGt (lGet x (iNat x0.2) (0,0,0,0,0)).1 31) (bOr (iEq (v_impl_bit (x0.1,(lGet x (iNat x0.2) (0,0,0,0,0)).1)) 1) (bNot (v_impl_IsAction ((lGet x (iNat x0.2) (0,0,0,0,0)).2.1,(lGet x (iNat x0.2) (0,0,0,0,0)).2.2.1,(lGet x (iNat x0.2) (0,0,0,0,0)).2.2.2.1,(lGet x (iNat x0.2) (0,0,0,0,0)).2.2.2.2))))))) (bNot (bOr (iEq (lGet x (iNat x0.2) (0,0,0,0,0)).2.1 1) (bOr (iEq (lGet x (iNat x0.2) (0,0,0,0,0)).2.1 6) (iEq (lGet x (iNat x0.2) (0,0,0,0,0)).2.1 7))))))) (fun(x0:(Int×Int))=>((iOr .i64 x0.1 (iShl .i64 1 (lGet x (iNat x0.2) (0,0,0,0,0)).1)),(iAdd .i64 x0.2 1))) (0,0)).2 (lLen x))):=(vu_impl_IsHeld x).trans (by kernel_rfl)
theorem oe_impl_IsHeld (x):ok_impl_IsHeld x=(LoopOk (fun(x0:(Int×Int))=>(bAnd (iLt x0.2 (lLen x)) (bAnd (bNot (bOr (iLt (lGet x (iNat x0.2) (0,0,0,0,0)).1 0) (bOr (iGt (lGet x (iNat x0.2) (0,0,0,0,0)).1 31) (bOr (iEq (v_impl_bit (x0.1,(lGet x (iNat x0.2) (0,0,0,0,0)).1)) 1) (bNot (v_impl_IsAction ((lGet x (iNat x0.2) (0,0,0,0,0)).2.1,(lGet x (iNat x0.2) (0,0,0,0,0)).2.2.1,(lGet x (iNat x0.2) (0,0,0,0,0)).2.2.2.1,(lGet x (iNat x0.2) (0,0,0,0,0)).2.2.2.2))))))) (bNot (bOr (iEq (lGet x (iNat x0.2) (0,0,0,0,0)).2.1 1) (bOr (iEq (lGet x (iNat x0.2) (0,0,0,0,0)).2.1 6) (iEq (lGet x (iNat x0.2) (0,0,0,0,0)).2.1 7))))))) (fun(x0:(Int×Int))=>((iOr .i64 x0.1 (iShl .i64 1 (lGet x (iNat x0.2) (0,0,0,0,0)).1)),(iAdd .i64 x0.2 1))) (fun(x0:(Int×Int))=>(((iLt x0.2 (lLen x))=true→((((0:Int)≤x0.2)∧(x0.2<(((List.length x):Int))))∧(((iNat x0.2)<(List.length x))∧((((iLt (lGet x (iNat x0.2) (0,0,0,0,0)).1 0)=true→True)∧((iLt (lGet x (iNat x0.2) (0,0,0,0,0)).1 0)=false→(((iGt (lGet x (iNat x0.2) (0,0,0,0,0)).1 31)=true→True)∧((iGt (lGet x (iNat x0.2) (0,0,0,0,0)).1 31)=false→((ok_impl_bit (x0.1,(lGet x (iNat x0.2) (0,0,0,0,0)).1))∧(((iEq (v_impl_bit (x0.1,(lGet x (iNat x0.2) (0,0,0,0,0)).1)) 1)=true→True)∧((iEq (v_impl_bit (x0.1,(lGet x (iNat x0.2) (0,0,0,0,0)).1)) 1)=false→(ok_impl_IsAction ((lGet x (iNat x0.2) (0,0,0,0,0)).2.1,(lGet x (iNat x0.2) (0,0,0,0,0)).2.2.1,(lGet x (iNat x0.2) (0,0,0,0,0)).2.2.2.1,(lGet x (iNat x0.2) (0,0,0,0,0)).2.2.2.2)))))))))∧(((bOr (iLt (lGet x (iNat x0.2) (0,0,0,0,0)).1 0) (bOr (iGt (lGet x (iNat x0.2) (0,0,0,0,0)).1 31) (bOr (iEq (v_impl_bit (x0.1,(lGet x (iNat x0.2) (0,0,0,0,0)).1)) 1) (bNot (v_impl_IsAction ((lGet x (iNat x0.2) (0,0,0,0,0)).2.1,(lGet x (iNat x0.2) (0,0,0,0,0)).2.2.1,(lGet x (iNat x0.2) (0,0,0,0,0)).2.2.2.1,(lGet x (iNat x0.2) (0,0,0,0,0)).2.2.2.2))))))=true→True)∧((bOr (iLt (lGet x (iNat x0.2) (0,0,0,0,0)).1 0) (bOr (iGt (lGet x (iNat x0.2) (0,0,0,0,0)).1 31) (bOr (iEq (v_impl_bit (x0.1,(lGet x (iNat x0.2) (0,0,0,0,0)).1)) 1) (bNot (v_impl_IsAction ((lGet x (iNat x0.2) (0,0,0,0,0)).2.1,(lGet x (iNat x0.2) (0,0,0,0,0)).2.2.1,(lGet x (iNat x0.2) (0,0,0,0,0)).2.2.2.1,(lGet x (iNat x0.2) (0,0,0,0,0)).2.2.2.2))))))=false→(((bOr (iEq (lGet x (iNat x0.2) (0,0,0,0,0)).2.1 1) (bOr (iEq (lGet x (iNat x0.2) (0,0,0,0,0)).2.1 6) (iEq (lGet x (iNat x0.2) (0,0,0,0,0)).2.1 7)))=true→True)∧((bOr (iEq (lGet x (iNat x0.2) (0,0,0,0,0)).2.1 1) (bOr (iEq (lGet x (iNat x0.2) (0,0,0,0,0)).2.1 6) (iEq (lGet x (iNat x0.2) (0,0,0,0,0)).2.1 7)))=false→((0:Int)≤(lGet x (iNat x0.2) (0,0,0,0,0)).1)))))))))∧((iLt x0.2 (lLen x))=false→True))) (0,0)):=(ou_impl_IsHeld x).trans (by kernel_rfl)
theorem ve_laws_eqHeld (x):v_laws_eqHeld x=(bAnd (bNot (iNe x.1.1 x.2.1)) (bNot (bNot (v_laws_eqAction ((x.1.2.1,x.1.2.2.1,x.1.2.2.2.1,x.1.2.2.2.2),x.2.2.1,x.2.2.2.1,x.2.2.2.2.1,x.2.2.2.2.2))))):=(vu_laws_eqHeld x).trans (by kernel_rfl)
theorem oe_laws_eqHeld (x):ok_laws_eqHeld x=(((iNe x.1.1 x.2.1)=true→True)∧((iNe x.1.1 x.2.1)=false→(ok_laws_eqAction ((x.1.2.1,x.1.2.2.1,x.1.2.2.2.1,x.1.2.2.2.2),x.2.2.1,x.2.2.2.1,x.2.2.2.2.1,x.2.2.2.2.2)))):=(ou_laws_eqHeld x).trans (by kernel_rfl)
theorem ve_laws_eqHeldS (x):v_laws_eqHeldS x=(bAnd (bNot (iNe (lLen x.1) (lLen x.2))) (bNot (iLt (loopV (fun(x0:Int)=>(bAnd (iLt x0 (lLen x.1)) (bNot (bNot (v_laws_eqHeld (((lGet x.1 (iNat x0) (0,0,0,0,0)).1,(lGet x.1 (iNat x0) (0,0,0,0,0)).2.1,(lGet x.1 (iNat x0) (0,0,0,0,0)).2.2.1,(lGet x.1 (iNat x0) (0,0,0,0,0)).2.2.2.1,(lGet x.1 (iNat x0) (0,0,0,0,0)).2.2.2.2),(lGet x.2 (iNat x0) (0,0,0,0,0)).1,(lGet x.2 (iNat x0) (0,0,0,0,0)).2.1,(lGet x.2 (iNat x0) (0,0,0,0,0)).2.2.1,(lGet x.2 (iNat x0) (0,0,0,0,0)).2.2.2.1,(lGet x.2 (iNat x0) (0,0,0,0,0)).2.2.2.2)))))) (fun(x0:Int)=>(iAdd .i64 x0 1)) 0) (lLen x.1)))):=(vu_laws_eqHeldS x).trans (by kernel_rfl)
theorem oe_laws_eqHeldS (x):ok_laws_eqHeldS x=(((iNe (lLen x.1) (lLen x.2))=true→True)∧((iNe (lLen x.1) (lLen x.2))=false→(LoopOk (fun(x0:Int)=>(bAnd (iLt x0 (lLen x.1)) (bNot (bNot (v_laws_eqHeld (((lGet x.1 (iNat x0) (0,0,0,0,0)).1,(lGet x.1 (iNat x0) (0,0,0,0,0)).2.1,(lGet x.1 (iNat x0) (0,0,0,0,0)).2.2.1,(lGet x.1 (iNat x0) (0,0,0,0,0)).2.2.2.1,(lGet x.1 (iNat x0) (0,0,0,0,0)).2.2.2.2),(lGet x.2 (iNat x0) (0,0,0,0,0)).1,(lGet x.2 (iNat x0) (0,0,0,0,0)).2.1,(lGet x.2 (iNat x0) (0,0,0,0,0)).2.2.1,(lGet x.2 (iNat x0) (0,0,0,0,0)).2.2.2.1,(lGet x.2 (iNat x0) (0,0,0,0,0)).2.2.2.2)))))) (fun(x0:Int)=>(iAdd .i64 x0 1)) (fun(x0:Int)=>(((iLt x0 (lLen x.1))=true→((((0:Int)≤x0)∧(x0<(((List.length x.1):Int))))∧(((iNat x0)<(List.length x.1))∧((((0:Int)≤x0)∧(x0<(((List.length x.2):Int))))∧(((iNat x0)<(List.length x.2))∧(ok_laws_eqHeld (((lGet x.1 (iNat x0) (0,0,0,0,0)).1,(lGet x.1 (iNat x0) (0,0,0,0,0)).2.1,(lGet x.1 (iNat x0) (0,0,0,0,0)).2.2.1,(lGet x.1 (iNat x0) (0,0,0,0,0)).2.2.2.1,(lGet x.1 (iNat x0) (0,0,0,0,0)).2.2.2.2),(lGet x.2 (iNat x0) (0,0,0,0,0)).1,(lGet x.2 (iNat x0) (0,0,0,0,0)).2.1,(lGet x.2 (iNat x0) (0,0,0,0,0)).2.2.1,(lGet x.2 (iNat x0) (0,0,0,0,0)).2.2.2.1,(lGet x.2 (iNat x0) (0,0,0,0,0)).2.2.2.2)))))))∧((iLt x0 (lLen x.1))=false→True))) 0))):=(ou_laws_eqHeldS x).trans (by kernel_rfl)
end
def sm_Action(_:Int×Int×Int×Int):Prop:=True
def wl_Action(_:Int×Int×Int×Int):Prop:=True
theorem eq_Action(a b:Int×Int×Int×Int)(h:sm_Action a):ok_laws_eqAction (a,b)∧(v_laws_eqAction (a,b)=true↔a=b):=by
 obtain⟨a0,a1,a2,a3⟩:=a
 obtain⟨b0,b1,b2,b3⟩:=b
 rw[oe_laws_eqAction,ve_laws_eqAction]
 refine⟨by simp,?_⟩
 simp only[bNot_eq,bAnd_eq,bIff_eq,iNe_eq,Bool.and_eq_true,Bool.not_not,decide_eq_true_eq,Prod.mk.injEq,beq_iff_eq]
 try (constructor<;>intro h<;>simp_all)
def sm_Held(x:Int×Int×Int×Int×Int):Prop:=sm_Action (x.2.1,x.2.2.1,x.2.2.2.1,x.2.2.2.2)∧True
def wl_Held(x:Int×Int×Int×Int×Int):Prop:=wl_Action (x.2.1,x.2.2.1,x.2.2.2.1,x.2.2.2.2)∧True
def sm_HeldS(x:List (Int×Int×Int×Int×Int)):Prop:=x.length≤1048576∧∀ a∈x,sm_Held a
def wl_HeldS(x:List (Int×Int×Int×Int×Int)):Prop:=x.length≤9223372036854775807∧∀ a∈x,wl_Held a
theorem sz_HeldS(x:List (Int×Int×Int×Int×Int))(hw:wl_HeldS x)(l:Int)(h0:0≤l)(h1:l≤1048576):ok_laws_szHeldS (x,l)∧(v_laws_szHeldS (x,l)<0∨(0≤v_laws_szHeldS (x,l)∧v_laws_szHeldS (x,l)≤l∧sm_HeldS x)):=by
 rw[oe_laws_szHeldS,ve_laws_szHeldS]
 have hl:x.length≤9223372036854775807:=hw.1
 have hs:iSub .i64 l (lLen x)=l-x.length:=by rw[lLen_eq];exact iSub_i64 (by unfold In64;omega)
 refine⟨trivial,?_⟩
 simp only[hs,iLt_eq,bSel_eq,decide_eq_true_eq]
 split
 · left;omega
 · right;exact⟨by omega,by omega,⟨by omega,fun a _=>by simp[sm_Held,sm_Action]⟩⟩
theorem to_Action(x:Int×Int×Int×Int)(h:sm_Action x):ok_laws_toAction x∧v_laws_toAction x=x:=by
 rw[oe_laws_toAction,ve_laws_toAction]
 exact⟨trivial,rfl⟩
theorem to_Held(x:Int×Int×Int×Int×Int)(h:sm_Held x):ok_laws_toHeld x∧v_laws_toHeld x=x:=by
 rw[oe_laws_toHeld,ve_laws_toHeld]
 have k0:=to_Action (x.2.1,x.2.2.1,x.2.2.2.1,x.2.2.2.2) (by unfold sm_Held at h;exact h.1)
 refine⟨k0.1,?_⟩
 simp only[k0.2]
theorem to_HeldS(x:List (Int×Int×Int×Int×Int))(h:sm_HeldS x):ok_laws_toHeldS x∧v_laws_toHeldS x=x:=by
 rw[oe_laws_toHeldS,ve_laws_toHeldS]
 obtain⟨h1,h2⟩:=h
 have hY:∀ i:Nat,i<x.length→ok_laws_toHeld ((x.getD i (0,0,0,0,0)).1,(x.getD i (0,0,0,0,0)).2.1,(x.getD i (0,0,0,0,0)).2.2.1,(x.getD i (0,0,0,0,0)).2.2.2.1,(x.getD i (0,0,0,0,0)).2.2.2.2)∧v_laws_toHeld ((x.getD i (0,0,0,0,0)).1,(x.getD i (0,0,0,0,0)).2.1,(x.getD i (0,0,0,0,0)).2.2.1,(x.getD i (0,0,0,0,0)).2.2.2.1,(x.getD i (0,0,0,0,0)).2.2.2.2)=x.getD i (0,0,0,0,0):=fun i hi=>to_Held _ (h2 _ (getD_mem x i (0,0,0,0,0) hi))
 refine⟨⟨⟨by rw[lLen_eq];omega,roomy_of (by rw[lLen_eq];omega) (by rw[lLen_eq];omega) (by omega)⟩,copyg_ok x (0,0,0,0,0) (0,0,0,0,0) h1 (fun _=>rfl) (fun l i hi=>by simp only[lSet_eq,lGet_eq,iNat_eq,Int.toNat_natCast];rw[(hY i hi).2]) (fun l i hl hi=>?_)⟩,copyg_v x (0,0,0,0,0) (0,0,0,0,0) h1 (fun _=>rfl) (fun l i hi=>by simp only[lSet_eq,lGet_eq,iNat_eq,Int.toNat_natCast];rw[(hY i hi).2])⟩
 simp only[iLt_eq,lLen_eq,iNat_eq,lGet_eq,decide_eq_true_eq,Int.toNat_natCast]
 exact⟨fun hh=>⟨by omega,by omega,(hY i (by omega)).1,by omega,by omega⟩,fun _=>trivial⟩
theorem eq_Held(a b:Int×Int×Int×Int×Int)(h:sm_Held a):ok_laws_eqHeld (a,b)∧(v_laws_eqHeld (a,b)=true↔a=b):=by
 obtain⟨a0,a1,a2,a3,a4⟩:=a
 obtain⟨b0,b1,b2,b3,b4⟩:=b
 have k0:=eq_Action (a1,a2,a3,a4) (b1,b2,b3,b4) (by unfold sm_Held at h;exact h.1)
 rw[oe_laws_eqHeld,ve_laws_eqHeld]
 refine⟨by simp[k0.1,k0.2],?_⟩
 simp only[k0.1,k0.2,bNot_eq,bAnd_eq,bIff_eq,iNe_eq,Bool.and_eq_true,Bool.not_not,decide_eq_true_eq,Prod.mk.injEq,beq_iff_eq]
 try (constructor<;>intro h<;>simp_all)
theorem eq_HeldS(a b:List (Int×Int×Int×Int×Int))(h:sm_HeldS a):ok_laws_eqHeldS (a,b)∧(v_laws_eqHeldS (a,b)=true↔a=b):=by
 rw[oe_laws_eqHeldS,ve_laws_eqHeldS]
 obtain⟨h1,h2⟩:=h
 have hY:∀ i:Nat,i<a.length→ok_laws_eqHeld (((lGet a i (0,0,0,0,0)).1,(lGet a i (0,0,0,0,0)).2.1,(lGet a i (0,0,0,0,0)).2.2.1,(lGet a i (0,0,0,0,0)).2.2.2.1,(lGet a i (0,0,0,0,0)).2.2.2.2),((lGet b i (0,0,0,0,0)).1,(lGet b i (0,0,0,0,0)).2.1,(lGet b i (0,0,0,0,0)).2.2.1,(lGet b i (0,0,0,0,0)).2.2.2.1,(lGet b i (0,0,0,0,0)).2.2.2.2))∧(v_laws_eqHeld (((lGet a i (0,0,0,0,0)).1,(lGet a i (0,0,0,0,0)).2.1,(lGet a i (0,0,0,0,0)).2.2.1,(lGet a i (0,0,0,0,0)).2.2.2.1,(lGet a i (0,0,0,0,0)).2.2.2.2),((lGet b i (0,0,0,0,0)).1,(lGet b i (0,0,0,0,0)).2.1,(lGet b i (0,0,0,0,0)).2.2.1,(lGet b i (0,0,0,0,0)).2.2.2.1,(lGet b i (0,0,0,0,0)).2.2.2.2))=true↔a.getD i (0,0,0,0,0)=b.getD i (0,0,0,0,0)):=fun i hi=>by
  have:=eq_Held (a.getD i (0,0,0,0,0)) (b.getD i (0,0,0,0,0)) (h2 _ (getD_mem a i (0,0,0,0,0) hi))
  rw[lGet_eq,lGet_eq];exact this
 by_cases hl:a.length=b.length
 · refine⟨⟨fun _=>trivial,fun _=>eq_ok a b (0,0,0,0,0) (fun i=>bNot (v_laws_eqHeld (((lGet a i (0,0,0,0,0)).1,(lGet a i (0,0,0,0,0)).2.1,(lGet a i (0,0,0,0,0)).2.2.1,(lGet a i (0,0,0,0,0)).2.2.2.1,(lGet a i (0,0,0,0,0)).2.2.2.2),((lGet b i (0,0,0,0,0)).1,(lGet b i (0,0,0,0,0)).2.1,(lGet b i (0,0,0,0,0)).2.2.1,(lGet b i (0,0,0,0,0)).2.2.2.1,(lGet b i (0,0,0,0,0)).2.2.2.2)))) hl (fun i hi=>by simp only[bNot_eq,Bool.not_eq_false',(hY i hi).2]) (by omega) (fun i hi=>by simp only[bAnd_eq,iLt_eq,lLen_eq,iNat_eq,bNot_eq,Int.toNat_natCast,Int.ofNat_lt]) (fun i hi=>rfl) (fun i hi=>?_)⟩,?_⟩
   · simp only[iLt_eq,lLen_eq,iNat_eq,decide_eq_true_eq,Int.toNat_natCast]
     exact⟨fun hh=>⟨by omega,by omega,by omega,by omega,(hY i (by omega)).1⟩,fun _=>trivial⟩
   · have hv:=eq_v (c:=fun i:Int=>bAnd (iLt i (lLen a)) (bNot ((fun i=>bNot (v_laws_eqHeld (((lGet a i (0,0,0,0,0)).1,(lGet a i (0,0,0,0,0)).2.1,(lGet a i (0,0,0,0,0)).2.2.1,(lGet a i (0,0,0,0,0)).2.2.2.1,(lGet a i (0,0,0,0,0)).2.2.2.2),((lGet b i (0,0,0,0,0)).1,(lGet b i (0,0,0,0,0)).2.1,(lGet b i (0,0,0,0,0)).2.2.1,(lGet b i (0,0,0,0,0)).2.2.2.1,(lGet b i (0,0,0,0,0)).2.2.2.2)))) i.toNat))) (f:=fun i=>iAdd .i64 i 1) a b (0,0,0,0,0) (fun i=>bNot (v_laws_eqHeld (((lGet a i (0,0,0,0,0)).1,(lGet a i (0,0,0,0,0)).2.1,(lGet a i (0,0,0,0,0)).2.2.1,(lGet a i (0,0,0,0,0)).2.2.2.1,(lGet a i (0,0,0,0,0)).2.2.2.2),((lGet b i (0,0,0,0,0)).1,(lGet b i (0,0,0,0,0)).2.1,(lGet b i (0,0,0,0,0)).2.2.1,(lGet b i (0,0,0,0,0)).2.2.2.1,(lGet b i (0,0,0,0,0)).2.2.2.2)))) hl (fun i hi=>by simp only[bNot_eq,Bool.not_eq_false',(hY i hi).2]) (by omega) (fun i hi=>by simp only[bAnd_eq,iLt_eq,lLen_eq,bNot_eq,Int.toNat_natCast,Int.ofNat_lt]) (fun i hi=>rfl)
     have e1:bNot (iNe (lLen a) (lLen b))=true:=by rw[bNot_eq,iNe_eq,lLen_eq,lLen_eq,hl];simp
     rw[e1,bAnd_eq true,Bool.true_and,bNot_eq (iLt _ (lLen a)),iLt_eq _ (lLen a)]
     simp only[← iNat_eq,lLen_eq] at hv ⊢
     simp only[Bool.not_eq_true',decide_eq_false_iff_not]
     rw[hv];simp
 · have e1:bNot (iNe (lLen a) (lLen b))=false:=by rw[bNot_eq,iNe_eq,lLen_eq,lLen_eq];simp;omega
   refine⟨⟨fun _=>trivial,fun h=>?_⟩,?_⟩
   · rw[bNot_eq] at e1;rw[h] at e1;cases e1
   · rw[e1,bAnd_eq,Bool.false_and];constructor
     · intro h;cases h
     · intro e;subst e;exact absurd rfl hl
theorem ok_TapHold (x):ok_spec_IsTapHold x:=by rw[oe_spec_IsTapHold];exact ok_spec_IsAction_t _
theorem isHeld_eq(x:List (Int×Int×Int×Int×Int)):v_spec_IsHeld x=v_impl_IsHeld x:=by
 rw[ve_spec_IsHeld,ve_impl_IsHeld]
 have:∀ {c c':Int×Int→Bool} {f:Int×Int→Int×Int} {a:Int×Int} {n:Int},(∀ x,c x=c' x)→bNot (iLt (loopV c f a).2 n)=bNot (iLt (loopV c' f a).2 n):=by
  intro c c' f a n h;rw[funext h]
 apply this
 intro st
 rw[Bool.eq_iff_iff]
 simp only[ve_spec_IsTapHold,isAction_eq,l1In_eq,ve_impl_bit,bNot_eq,bAnd_eq,bOr_eq,iEq_eq,iLt_eq,iGt_eq,Bool.and_eq_true,Bool.or_eq_true,Bool.not_eq_true',Bool.not_eq_false',Bool.and_eq_false_iff,Bool.or_eq_false_iff,decide_eq_true_eq,decide_eq_false_iff_not,Bool.not_eq_true,Bool.not_eq_false,beq_iff_eq,beq_eq_false_iff_ne]
 generalize v_impl_IsAction _=A
 cases A<;>simp<;>omega
theorem ok_spec_IsHeld_t(x:List (Int×Int×Int×Int×Int))(h:x.length≤1048576):ok_spec_IsHeld x:=by
 rw[oe_spec_IsHeld]
 refine cnt_ok (fun st=>st.2) x.length (by omega) (fun st _ _ hc=>?_) (fun st=>rfl) (fun st h0 h1=>?_) (by simp) (by simp)
 · simp only[bAnd_eq,iLt_eq,lLen_eq,Bool.and_eq_true,decide_eq_true_eq] at hc
   exact hc.1
 · refine⟨fun hlt=>?_,fun _=>trivial⟩
   simp only[iLt_eq,lLen_eq,decide_eq_true_eq] at hlt
   have h3:st.2.toNat<x.length:=by omega
   simp only[l1In_eq,iNat_eq,h3,h0,hlt,ok_l1In,ok_TapHold,ok_spec_IsAction_t,true_and,implies_true,and_true,bNot_eq,bOr_eq,Bool.and_eq_true,Bool.or_eq_true,Bool.not_eq_true',Bool.not_eq_false',Bool.and_eq_false_iff,Bool.or_eq_false_iff,decide_eq_true_eq,decide_eq_false_iff_not,Bool.not_eq_true,Bool.not_eq_false,beq_iff_eq,beq_eq_false_iff_ne,Bool.not_eq_false',Bool.or_eq_false_iff]
   exact⟨fun hh=>hh.1,fun hh=>hh.1.1⟩
theorem ok_impl_IsHeld_t(x:List (Int×Int×Int×Int×Int))(h:x.length≤1048576):ok_impl_IsHeld x:=by
 rw[oe_impl_IsHeld]
 refine cnt_ok (fun st=>st.2) x.length (by omega) (fun st _ _ hc=>?_) (fun st=>rfl) (fun st h0 h1=>?_) (by simp) (by simp)
 · simp only[bAnd_eq,iLt_eq,lLen_eq,Bool.and_eq_true,decide_eq_true_eq] at hc
   exact hc.1
 · refine⟨fun hlt=>?_,fun _=>trivial⟩
   simp only[iLt_eq,lLen_eq,decide_eq_true_eq] at hlt
   have h3:st.2.toNat<x.length:=by omega
   simp only[oe_impl_bit,iNat_eq,h3,h0,hlt,ok_impl_IsAction_t,true_and,implies_true,and_true,iLt_eq,iGt_eq,bNot_eq,bOr_eq,Bool.and_eq_true,Bool.or_eq_true,Bool.not_eq_true',Bool.not_eq_false',Bool.and_eq_false_iff,Bool.or_eq_false_iff,decide_eq_true_eq,decide_eq_false_iff_not,Bool.not_eq_true,Bool.not_eq_false,beq_iff_eq,beq_eq_false_iff_ne,Bool.not_eq_false',Bool.or_eq_false_iff]
   refine⟨fun h4 h5=>by omega,fun h4 h5=>by omega⟩
def HeldOk(h:Int×Int×Int×Int×Int):Prop:=0≤h.1∧h.1≤31∧v_impl_IsAction h.2=true∧h.2.1≠1∧h.2.1≠6∧h.2.1≠7
theorem isHeld_all{x:List (Int×Int×Int×Int×Int)}(hl:x.length≤1048576)(h:v_impl_IsHeld x=true):∀ a∈x,HeldOk a:=by
 rw[ve_impl_IsHeld,bNot_eq,Bool.not_eq_true',iLt_eq _ (lLen x),decide_eq_false_iff_not] at h
 have key:=loop_inv_v (c:=fun x0:Int×Int=>(bAnd (iLt x0.2 (lLen x)) (bAnd (bNot (bOr (iLt (lGet x (iNat x0.2) (0,0,0,0,0)).1 0) (bOr (iGt (lGet x (iNat x0.2) (0,0,0,0,0)).1 31) (bOr (iEq (v_impl_bit (x0.1,(lGet x (iNat x0.2) (0,0,0,0,0)).1)) 1) (bNot (v_impl_IsAction ((lGet x (iNat x0.2) (0,0,0,0,0)).2.1,(lGet x (iNat x0.2) (0,0,0,0,0)).2.2.1,(lGet x (iNat x0.2) (0,0,0,0,0)).2.2.2.1,(lGet x (iNat x0.2) (0,0,0,0,0)).2.2.2.2))))))) (bNot (bOr (iEq (lGet x (iNat x0.2) (0,0,0,0,0)).2.1 1) (bOr (iEq (lGet x (iNat x0.2) (0,0,0,0,0)).2.1 6) (iEq (lGet x (iNat x0.2) (0,0,0,0,0)).2.1 7)))))))
  (f:=fun x0=>((iOr .i64 x0.1 (iShl .i64 1 (lGet x (iNat x0.2) (0,0,0,0,0)).1)),(iAdd .i64 x0.2 1)))
  (fun st=>∃ i:Nat,st.2=i∧i≤x.length∧∀ j,j<i→HeldOk (x.getD j (0,0,0,0,0))) (fun st=>x.length-st.2.toNat) (fun st hI hc=>?_) (x0:=(0,0)) ⟨0,rfl,Nat.zero_le _,fun j hj=>by omega⟩
 · obtain⟨⟨i,k1,k2,k3⟩,_⟩:=key
   rw[k1,lLen_eq] at h
   have:i=x.length:=by omega
   subst this
   intro a ha
   obtain⟨j,hj,rfl⟩:=List.getElem_of_mem ha
   have:=k3 j hj
   rw[List.getD_eq_getElem?_getD,List.getElem?_eq_getElem hj] at this
   exact this
 · obtain⟨i,k1,k2,k3⟩:=hI
   obtain⟨s,j⟩:=st
   simp only at k1
   subst k1
   simp only[bAnd_eq,bNot_eq,bOr_eq,iLt_eq,iGt_eq,iEq_eq,lLen_eq,lGet_eq,iNat_eq,Int.toNat_natCast,Bool.and_eq_true,Bool.not_eq_true',Bool.or_eq_false_iff,decide_eq_true_eq,decide_eq_false_iff_not,Bool.not_eq_false'] at hc
   obtain⟨c1,⟨c2,c3,_,c5⟩,c6,c7,c8⟩:=hc
   refine⟨⟨i+1,?_,by omega,fun j hj=>?_⟩,?_⟩
   · simp only;rw[iAdd_i64 (by unfold In64;omega)];omega
   · by_cases hji:j=i
     · subst hji;exact⟨by omega,by omega,c5,c6,c7,c8⟩
     · exact k3 j (by omega)
   · simp only;rw[iAdd_i64 (by unfold In64;omega)];omega
section
set_option maxRecDepth 8000
noncomputable def dc_laws_szActionS:DCode:=
 (.seq [1,0] (.region [oi 0 4 0])
 (.seq [1] (.region [om 0 5 1,
 on 1 6 0,
 oa 2 7 (.len (.t 6)),
 oa 3 8 (.bin .sub (.t 5) (.t 7)),
 om 4 1 8])
  (.seq [1] (.seq [10,1] (.region [om 0 9 1,
 oa 1 10 (.bin .lss (.t 9) (.c (.int .i64 0)))])
  (.cond (.t 10) (.seq [4] (.region [oi 0 4 (-1)])
  .ret) .skip))
  (.seq [4] (.region [om 0 11 1,
 om 1 4 11])
  .ret))))
noncomputable def df_laws_szActionS:DFun:=⟨2,12,0,true,[.tmp 4],dc_laws_szActionS⟩
noncomputable def pf_laws_szActionS:PFun:=df_laws_szActionS.er
noncomputable def f_laws_szActionS:AFun:=pf_laws_szActionS.er
@[irreducible] noncomputable def s_laws_szActionS:CallSem:=funSem f_laws_szActionS
@[irreducible] noncomputable def p_laws_szActionS:PSem:=pfunSem pf_laws_szActionS
theorem sp_laws_szActionS:SoundP s_laws_szActionS p_laws_szActionS:=by unfold s_laws_szActionS p_laws_szActionS;exact pfun_sound (f:=pf_laws_szActionS) trivial
def h_laws_szActionS:List HT:=[.one .frz (.sl rI4),.one .frz (.int .i64)]
def q_laws_szActionS:QT:=.one (.one .own (.int .i64))
@[irreducible] noncomputable def v_laws_szActionS(x:(List (Int×Int×Int×Int))×Int):Int:=(shut fun x=>fnV df_laws_szActionS h_laws_szActionS q_laws_szActionS x).1 x
@[irreducible] noncomputable def ok_laws_szActionS(x:(List (Int×Int×Int×Int))×Int):Prop:=(shut fun x=>fnOk df_laws_szActionS h_laws_szActionS q_laws_szActionS x).1 x
theorem vu_laws_szActionS (x):v_laws_szActionS x=fnV df_laws_szActionS h_laws_szActionS q_laws_szActionS x:=by unfold v_laws_szActionS;exact congrFun (shut _).2 x
theorem ou_laws_szActionS (x):ok_laws_szActionS x=fnOk df_laws_szActionS h_laws_szActionS q_laws_szActionS x:=by unfold ok_laws_szActionS;exact congrFun (shut _).2 x
noncomputable def D_laws_szActionS:DSem:=DSemOf h_laws_szActionS q_laws_szActionS ok_laws_szActionS v_laws_szActionS
theorem ck_laws_szActionS(x:(List (Int×Int×Int×Int))×Int):fnChk df_laws_szActionS h_laws_szActionS q_laws_szActionS x=true:=by kernel_rfl
theorem ob_laws_szActionS:AllD df_laws_szActionS.body.obs:=trivial
theorem st_laws_szActionS:fnSt df_laws_szActionS h_laws_szActionS q_laws_szActionS=true:=by kernel_rfl
theorem sd_laws_szActionS:SoundD p_laws_szActionS D_laws_szActionS:=by unfold p_laws_szActionS;exact soundD_of (f:=df_laws_szActionS) (hs:=h_laws_szActionS) (q:=q_laws_szActionS) ob_laws_szActionS st_laws_szActionS ck_laws_szActionS (fun x h=>Eq.mp (ou_laws_szActionS x) h) (fun x=>(vu_laws_szActionS x).symm)
noncomputable def dc_laws_szActionSS:DCode:=
 (.seq [1,0] (.region [oi 0 4 0])
 (.seq [1,0] (.region [om 0 6 1,
 on 1 7 0,
 oa 2 8 (.len (.t 7)),
 oa 3 9 (.bin .sub (.t 6) (.t 8)),
 om 4 1 9])
  (.seq [1,0] (.seq [11,1,0] (.region [om 0 10 1,
 oa 1 11 (.bin .lss (.t 10) (.c (.int .i64 0)))])
  (.cond (.t 11) (.seq [4] (.region [oi 0 4 (-1)])
  .ret) .skip))
  (.seq [1] (.seq [5,1,0] (.region [oi 0 5 0])
  (.block 0 (.loop [0,1,5] 1 (.seq [5,1,0] (.seq [15,5,1,0] (.region [om 0 12 5,
 on 1 13 0,
 oa 2 14 (.len (.t 13)),
 oa 3 15 (.bin .lss (.t 12) (.t 14))])
  (.cond (.t 15) .skip (.exit 0)))
  (.seq [5,1,0] (.block 1 (.seq [5,1,0] (.region [on 0 18 0,
 om 1 19 5,
 oa 2 20 (.indexA 1 (.t 18) (.t 19)),
 oa 3 21 (.loadH none (.t 20)),
 om 4 22 1,
 oc 5 23 s_laws_szActionS p_laws_szActionS D_laws_szActionS [(.t 21),(.t 22)],
 om 6 1 23])
  (.seq [25,5,1,0] (.region [om 0 24 1,
 oa 1 25 (.bin .lss (.t 24) (.c (.int .i64 0)))])
  (.cond (.t 25) (.seq [4] (.region [oi 0 4 (-1)])
  .ret) .skip))))
  (.region [om 0 16 5,
 oa 1 17 (.bin .add (.t 16) (.c (.int .i64 1))),
 om 2 5 17]))))))
  (.seq [4] (.region [om 0 26 1,
 om 1 4 26])
  .ret)))))
noncomputable def df_laws_szActionSS:DFun:=⟨2,27,0,true,[.tmp 4],dc_laws_szActionSS⟩
noncomputable def pf_laws_szActionSS:PFun:=df_laws_szActionSS.er
noncomputable def f_laws_szActionSS:AFun:=pf_laws_szActionSS.er
@[irreducible] noncomputable def s_laws_szActionSS:CallSem:=funSem f_laws_szActionSS
@[irreducible] noncomputable def p_laws_szActionSS:PSem:=pfunSem pf_laws_szActionSS
theorem sp_laws_szActionSS:SoundP s_laws_szActionSS p_laws_szActionSS:=by unfold s_laws_szActionSS p_laws_szActionSS;exact pfun_sound (f:=pf_laws_szActionSS) ⟨sp_laws_szActionS,trivial⟩
def h_laws_szActionSS:List HT:=[.one .frz (.sl (.one (.sl rI4))),.one .frz (.int .i64)]
def q_laws_szActionSS:QT:=.one (.one .own (.int .i64))
@[irreducible] noncomputable def v_laws_szActionSS(x:(List (List (Int×Int×Int×Int)))×Int):Int:=(shut fun x=>fnV df_laws_szActionSS h_laws_szActionSS q_laws_szActionSS x).1 x
@[irreducible] noncomputable def ok_laws_szActionSS(x:(List (List (Int×Int×Int×Int)))×Int):Prop:=(shut fun x=>fnOk df_laws_szActionSS h_laws_szActionSS q_laws_szActionSS x).1 x
theorem vu_laws_szActionSS (x):v_laws_szActionSS x=fnV df_laws_szActionSS h_laws_szActionSS q_laws_szActionSS x:=by unfold v_laws_szActionSS;exact congrFun (shut _).2 x
theorem ou_laws_szActionSS (x):ok_laws_szActionSS x=fnOk df_laws_szActionSS h_laws_szActionSS q_laws_szActionSS x:=by unfold ok_laws_szActionSS;exact congrFun (shut _).2 x
noncomputable def D_laws_szActionSS:DSem:=DSemOf h_laws_szActionSS q_laws_szActionSS ok_laws_szActionSS v_laws_szActionSS
theorem ck_laws_szActionSS(x:(List (List (Int×Int×Int×Int)))×Int):fnChk df_laws_szActionSS h_laws_szActionSS q_laws_szActionSS x=true:=by kernel_rfl
theorem ob_laws_szActionSS:AllD df_laws_szActionSS.body.obs:=⟨sd_laws_szActionS,trivial⟩
theorem st_laws_szActionSS:fnSt df_laws_szActionSS h_laws_szActionSS q_laws_szActionSS=true:=by kernel_rfl
theorem sd_laws_szActionSS:SoundD p_laws_szActionSS D_laws_szActionSS:=by unfold p_laws_szActionSS;exact soundD_of (f:=df_laws_szActionSS) (hs:=h_laws_szActionSS) (q:=q_laws_szActionSS) ob_laws_szActionSS st_laws_szActionSS ck_laws_szActionSS (fun x h=>Eq.mp (ou_laws_szActionSS x) h) (fun x=>(vu_laws_szActionSS x).symm)
noncomputable def dc_laws_szKeymap:DCode:=
 (.seq [2,1] (.region [oa 0 2 (.boxB 0 2 (.t 0)),
 oi 1 4 0])
  (.seq [1] (.region [oa 0 5 (.fieldA 1 (.t 2)),
 oa 1 6 (.loadB 0 none (.t 5)),
 om 2 7 1,
 oc 3 8 s_laws_szActionSS p_laws_szActionSS D_laws_szActionSS [(.t 6),(.t 7)],
 om 4 1 8])
  (.seq [1] (.seq [10,1] (.region [om 0 9 1,
 oa 1 10 (.bin .lss (.t 9) (.c (.int .i64 0)))])
  (.cond (.t 10) (.seq [4] (.region [oi 0 4 (-1)])
  .ret) .skip))
  (.seq [4] (.region [om 0 11 1,
 om 1 4 11])
  .ret))))
noncomputable def df_laws_szKeymap:DFun:=⟨2,12,1,true,[.tmp 4],dc_laws_szKeymap⟩
noncomputable def pf_laws_szKeymap:PFun:=df_laws_szKeymap.er
noncomputable def f_laws_szKeymap:AFun:=pf_laws_szKeymap.er
@[irreducible] noncomputable def s_laws_szKeymap:CallSem:=funSem f_laws_szKeymap
@[irreducible] noncomputable def p_laws_szKeymap:PSem:=pfunSem pf_laws_szKeymap
theorem sp_laws_szKeymap:SoundP s_laws_szKeymap p_laws_szKeymap:=by unfold s_laws_szKeymap p_laws_szKeymap;exact pfun_sound (f:=pf_laws_szKeymap) ⟨sp_laws_szActionSS,trivial⟩
def h_laws_szKeymap:List HT:=[.agg [(.frz,.int .i64),(.frz,.sl (.one (.sl rI4)))],.one .frz (.int .i64)]
def q_laws_szKeymap:QT:=.one (.one .own (.int .i64))
@[irreducible] noncomputable def v_laws_szKeymap(x:(Int×(List (List (Int×Int×Int×Int))))×Int):Int:=(shut fun x=>fnV df_laws_szKeymap h_laws_szKeymap q_laws_szKeymap x).1 x
@[irreducible] noncomputable def ok_laws_szKeymap(x:(Int×(List (List (Int×Int×Int×Int))))×Int):Prop:=(shut fun x=>fnOk df_laws_szKeymap h_laws_szKeymap q_laws_szKeymap x).1 x
theorem vu_laws_szKeymap (x):v_laws_szKeymap x=fnV df_laws_szKeymap h_laws_szKeymap q_laws_szKeymap x:=by unfold v_laws_szKeymap;exact congrFun (shut _).2 x
theorem ou_laws_szKeymap (x):ok_laws_szKeymap x=fnOk df_laws_szKeymap h_laws_szKeymap q_laws_szKeymap x:=by unfold ok_laws_szKeymap;exact congrFun (shut _).2 x
noncomputable def D_laws_szKeymap:DSem:=DSemOf h_laws_szKeymap q_laws_szKeymap ok_laws_szKeymap v_laws_szKeymap
theorem ck_laws_szKeymap(x:(Int×(List (List (Int×Int×Int×Int))))×Int):fnChk df_laws_szKeymap h_laws_szKeymap q_laws_szKeymap x=true:=by kernel_rfl
theorem ob_laws_szKeymap:AllD df_laws_szKeymap.body.obs:=⟨sd_laws_szActionSS,trivial⟩
theorem st_laws_szKeymap:fnSt df_laws_szKeymap h_laws_szKeymap q_laws_szKeymap=true:=by kernel_rfl
theorem sd_laws_szKeymap:SoundD p_laws_szKeymap D_laws_szKeymap:=by unfold p_laws_szKeymap;exact soundD_of (f:=df_laws_szKeymap) (hs:=h_laws_szKeymap) (q:=q_laws_szKeymap) ob_laws_szKeymap st_laws_szKeymap ck_laws_szKeymap (fun x h=>Eq.mp (ou_laws_szKeymap x) h) (fun x=>(vu_laws_szKeymap x).symm)
noncomputable def dc_laws_toActionS:DCode:=
 (.seq [0] (.region [oa 0 2 (.mv (.c .nils))])
 (.seq [3,0] (.region [on 0 5 0,
 oa 1 6 (.len (.t 5)),
 ⟨2,some 7,.a false (.mkSlice 4 [(.int .i64 0),(.int .i64 0),(.int .i64 0),(.int .i64 0)] (.t 6)) (some rI4),none,[]⟩,
 om 3 3 7])
  (.seq [3] (.seq [4,3,0] (.region [oi 0 4 0])
  (.block 0 (.loop [0,3,4] 1 (.seq [4,3,0] (.seq [11,4,3,0] (.region [om 0 8 4,
 on 1 9 0,
 oa 2 10 (.len (.t 9)),
 oa 3 11 (.bin .lss (.t 8) (.t 10))])
  (.cond (.t 11) .skip (.exit 0)))
  (.seq [4,3,0] (.block 1 (.region [on 0 14 3,
 om 1 15 4,
 on 2 16 0,
 om 3 17 4,
 oa 4 18 (.indexA 4 (.t 16) (.t 17)),
 oa 5 19 (.loadH (some 4) (.t 18)),
 oc 6 20 s_laws_toAction p_laws_toAction D_laws_toAction [(.t 19)],
 oa 7 21 (.indexA 4 (.t 14) (.t 15)),
 os 8 (.storeH 4 (.t 21) (.t 20))]))
  (.region [om 0 12 4,
 oa 1 13 (.bin .add (.t 12) (.c (.int .i64 1))),
 om 2 4 13]))))))
  (.seq [2] (.region [om 0 22 3,
 om 1 2 22])
  .ret))))
noncomputable def df_laws_toActionS:DFun:=⟨1,23,0,false,[.tmp 2],dc_laws_toActionS⟩
noncomputable def pf_laws_toActionS:PFun:=df_laws_toActionS.er
noncomputable def f_laws_toActionS:AFun:=pf_laws_toActionS.er
@[irreducible] noncomputable def s_laws_toActionS:CallSem:=funSem f_laws_toActionS
@[irreducible] noncomputable def p_laws_toActionS:PSem:=pfunSem pf_laws_toActionS
theorem sp_laws_toActionS:SoundP s_laws_toActionS p_laws_toActionS:=by unfold s_laws_toActionS p_laws_toActionS;exact pfun_sound (f:=pf_laws_toActionS) ⟨sp_laws_toAction,trivial⟩
def h_laws_toActionS:List HT:=[.one .frz (.sl rI4)]
def q_laws_toActionS:QT:=.one (.one .own (.sl rI4))
@[irreducible] noncomputable def v_laws_toActionS(x:List (Int×Int×Int×Int)):List (Int×Int×Int×Int):=(shut fun x=>fnV df_laws_toActionS h_laws_toActionS q_laws_toActionS x).1 x
@[irreducible] noncomputable def ok_laws_toActionS(x:List (Int×Int×Int×Int)):Prop:=(shut fun x=>fnOk df_laws_toActionS h_laws_toActionS q_laws_toActionS x).1 x
theorem vu_laws_toActionS (x):v_laws_toActionS x=fnV df_laws_toActionS h_laws_toActionS q_laws_toActionS x:=by unfold v_laws_toActionS;exact congrFun (shut _).2 x
theorem ou_laws_toActionS (x):ok_laws_toActionS x=fnOk df_laws_toActionS h_laws_toActionS q_laws_toActionS x:=by unfold ok_laws_toActionS;exact congrFun (shut _).2 x
noncomputable def D_laws_toActionS:DSem:=DSemOf h_laws_toActionS q_laws_toActionS ok_laws_toActionS v_laws_toActionS
theorem ck_laws_toActionS(x:List (Int×Int×Int×Int)):fnChk df_laws_toActionS h_laws_toActionS q_laws_toActionS x=true:=by kernel_rfl
theorem ob_laws_toActionS:AllD df_laws_toActionS.body.obs:=⟨sd_laws_toAction,trivial⟩
theorem st_laws_toActionS:fnSt df_laws_toActionS h_laws_toActionS q_laws_toActionS=true:=by kernel_rfl
theorem sd_laws_toActionS:SoundD p_laws_toActionS D_laws_toActionS:=by unfold p_laws_toActionS;exact soundD_of (f:=df_laws_toActionS) (hs:=h_laws_toActionS) (q:=q_laws_toActionS) ob_laws_toActionS st_laws_toActionS ck_laws_toActionS (fun x h=>Eq.mp (ou_laws_toActionS x) h) (fun x=>(vu_laws_toActionS x).symm)
noncomputable def dc_laws_toActionSS:DCode:=
 (.seq [0] (.region [oa 0 2 (.mv (.c .nils))])
 (.seq [3,0] (.region [on 0 5 0,
 oa 1 6 (.len (.t 5)),
 ⟨2,some 7,.a false (.mkSlice 1 [.nils] (.t 6)) (some (.one (.sl rI4))),none,[]⟩,
 om 3 3 7])
  (.seq [3] (.seq [4,3,0] (.region [oi 0 4 0])
  (.block 0 (.loop [0,3,4] 1 (.seq [4,3,0] (.seq [11,4,3,0] (.region [om 0 8 4,
 on 1 9 0,
 oa 2 10 (.len (.t 9)),
 oa 3 11 (.bin .lss (.t 8) (.t 10))])
  (.cond (.t 11) .skip (.exit 0)))
  (.seq [4,3,0] (.block 1 (.region [on 0 14 3,
 om 1 15 4,
 on 2 16 0,
 om 3 17 4,
 oa 4 18 (.indexA 1 (.t 16) (.t 17)),
 oa 5 19 (.loadH none (.t 18)),
 oc 6 20 s_laws_toActionS p_laws_toActionS D_laws_toActionS [(.t 19)],
 oa 7 21 (.indexA 1 (.t 14) (.t 15)),
 os 8 (.storeH 1 (.t 21) (.t 20))]))
  (.region [om 0 12 4,
 oa 1 13 (.bin .add (.t 12) (.c (.int .i64 1))),
 om 2 4 13]))))))
  (.seq [2] (.region [om 0 22 3,
 om 1 2 22])
  .ret))))
noncomputable def df_laws_toActionSS:DFun:=⟨1,23,0,false,[.tmp 2],dc_laws_toActionSS⟩
noncomputable def pf_laws_toActionSS:PFun:=df_laws_toActionSS.er
noncomputable def f_laws_toActionSS:AFun:=pf_laws_toActionSS.er
@[irreducible] noncomputable def s_laws_toActionSS:CallSem:=funSem f_laws_toActionSS
@[irreducible] noncomputable def p_laws_toActionSS:PSem:=pfunSem pf_laws_toActionSS
theorem sp_laws_toActionSS:SoundP s_laws_toActionSS p_laws_toActionSS:=by unfold s_laws_toActionSS p_laws_toActionSS;exact pfun_sound (f:=pf_laws_toActionSS) ⟨sp_laws_toActionS,trivial⟩
def h_laws_toActionSS:List HT:=[.one .frz (.sl (.one (.sl rI4)))]
def q_laws_toActionSS:QT:=.one (.one .own (.sl (.one (.sl rI4))))
@[irreducible] noncomputable def v_laws_toActionSS(x:List (List (Int×Int×Int×Int))):List (List (Int×Int×Int×Int)):=(shut fun x=>fnV df_laws_toActionSS h_laws_toActionSS q_laws_toActionSS x).1 x
@[irreducible] noncomputable def ok_laws_toActionSS(x:List (List (Int×Int×Int×Int))):Prop:=(shut fun x=>fnOk df_laws_toActionSS h_laws_toActionSS q_laws_toActionSS x).1 x
theorem vu_laws_toActionSS (x):v_laws_toActionSS x=fnV df_laws_toActionSS h_laws_toActionSS q_laws_toActionSS x:=by unfold v_laws_toActionSS;exact congrFun (shut _).2 x
theorem ou_laws_toActionSS (x):ok_laws_toActionSS x=fnOk df_laws_toActionSS h_laws_toActionSS q_laws_toActionSS x:=by unfold ok_laws_toActionSS;exact congrFun (shut _).2 x
noncomputable def D_laws_toActionSS:DSem:=DSemOf h_laws_toActionSS q_laws_toActionSS ok_laws_toActionSS v_laws_toActionSS
theorem ck_laws_toActionSS(x:List (List (Int×Int×Int×Int))):fnChk df_laws_toActionSS h_laws_toActionSS q_laws_toActionSS x=true:=by kernel_rfl
theorem ob_laws_toActionSS:AllD df_laws_toActionSS.body.obs:=⟨sd_laws_toActionS,trivial⟩
theorem st_laws_toActionSS:fnSt df_laws_toActionSS h_laws_toActionSS q_laws_toActionSS=true:=by kernel_rfl
theorem sd_laws_toActionSS:SoundD p_laws_toActionSS D_laws_toActionSS:=by unfold p_laws_toActionSS;exact soundD_of (f:=df_laws_toActionSS) (hs:=h_laws_toActionSS) (q:=q_laws_toActionSS) ob_laws_toActionSS st_laws_toActionSS ck_laws_toActionSS (fun x h=>Eq.mp (ou_laws_toActionSS x) h) (fun x=>(vu_laws_toActionSS x).symm)
noncomputable def dc_laws_toKeymap:DCode:=
 (.seq [2,1] (.region [oa 0 1 (.boxB 0 2 (.t 0)),
 oa 1 2 (.allocB 1 [(.int .i64 0),.nils])])
  (.seq [3,2,1] (.region [oa 0 3 (.allocB 2 [(.int .i64 0),.nils])])
  (.seq [3,2,1] (.region [oa 0 4 (.fieldA 0 (.t 1)),
 ob 1 5 (.loadB 0 none (.t 4)),
 oa 2 6 (.fieldA 0 (.t 3)),
 os 3 (.storeB 2 1 (.t 6) (.t 5))])
  (.seq [3,2] (.region [oa 0 7 (.fieldA 1 (.t 1)),
 oa 1 8 (.loadB 0 none (.t 7)),
 oc 2 9 s_laws_toActionSS p_laws_toActionSS D_laws_toActionSS [(.t 8)],
 oa 3 10 (.fieldA 1 (.t 3)),
 os 4 (.storeB 2 1 (.t 10) (.t 9))])
  (.seq [2] (.region [ob 0 11 (.loadB 2 (some 2) (.t 3)),
 os 1 (.storeB 1 2 (.t 2) (.t 11))])
  .ret)))))
noncomputable def df_laws_toKeymap:DFun:=⟨1,12,3,false,[.cell 2 (some 2)],dc_laws_toKeymap⟩
noncomputable def pf_laws_toKeymap:PFun:=df_laws_toKeymap.er
noncomputable def f_laws_toKeymap:AFun:=pf_laws_toKeymap.er
@[irreducible] noncomputable def s_laws_toKeymap:CallSem:=funSem f_laws_toKeymap
@[irreducible] noncomputable def p_laws_toKeymap:PSem:=pfunSem pf_laws_toKeymap
theorem sp_laws_toKeymap:SoundP s_laws_toKeymap p_laws_toKeymap:=by unfold s_laws_toKeymap p_laws_toKeymap;exact pfun_sound (f:=pf_laws_toKeymap) ⟨sp_laws_toActionSS,trivial⟩
def h_laws_toKeymap:List HT:=[.agg [(.frz,.int .i64),(.frz,.sl (.one (.sl rI4)))]]
def q_laws_toKeymap:QT:=.one (.agg [(.own,.int .i64),(.own,.sl (.one (.sl rI4)))])
@[irreducible] noncomputable def v_laws_toKeymap(x:Int×(List (List (Int×Int×Int×Int)))):Int×(List (List (Int×Int×Int×Int))):=(shut fun x=>fnV df_laws_toKeymap h_laws_toKeymap q_laws_toKeymap x).1 x
@[irreducible] noncomputable def ok_laws_toKeymap(x:Int×(List (List (Int×Int×Int×Int)))):Prop:=(shut fun x=>fnOk df_laws_toKeymap h_laws_toKeymap q_laws_toKeymap x).1 x
theorem vu_laws_toKeymap (x):v_laws_toKeymap x=fnV df_laws_toKeymap h_laws_toKeymap q_laws_toKeymap x:=by unfold v_laws_toKeymap;exact congrFun (shut _).2 x
theorem ou_laws_toKeymap (x):ok_laws_toKeymap x=fnOk df_laws_toKeymap h_laws_toKeymap q_laws_toKeymap x:=by unfold ok_laws_toKeymap;exact congrFun (shut _).2 x
noncomputable def D_laws_toKeymap:DSem:=DSemOf h_laws_toKeymap q_laws_toKeymap ok_laws_toKeymap v_laws_toKeymap
theorem ck_laws_toKeymap(x:Int×(List (List (Int×Int×Int×Int)))):fnChk df_laws_toKeymap h_laws_toKeymap q_laws_toKeymap x=true:=by kernel_rfl
theorem ob_laws_toKeymap:AllD df_laws_toKeymap.body.obs:=⟨sd_laws_toActionSS,trivial⟩
theorem st_laws_toKeymap:fnSt df_laws_toKeymap h_laws_toKeymap q_laws_toKeymap=true:=by kernel_rfl
theorem sd_laws_toKeymap:SoundD p_laws_toKeymap D_laws_toKeymap:=by unfold p_laws_toKeymap;exact soundD_of (f:=df_laws_toKeymap) (hs:=h_laws_toKeymap) (q:=q_laws_toKeymap) ob_laws_toKeymap st_laws_toKeymap ck_laws_toKeymap (fun x h=>Eq.mp (ou_laws_toKeymap x) h) (fun x=>(vu_laws_toKeymap x).symm)
noncomputable def dc_spec_IsKeymap:DCode:=
 (.seq [1] (.region [oa 0 1 (.boxB 0 2 (.t 0)),
 oa 1 2 (.mv (.c (.bool false)))])
  (.seq [1] (.seq [3,1] (.region [oi 0 3 0])
  (.block 0 (.loop [1,3] 1 (.seq [3,1] (.seq [10,3,1] (.region [om 0 6 3,
 oa 1 7 (.fieldA 1 (.t 1)),
 oa 2 8 (.loadB 0 none (.t 7)),
 oa 3 9 (.len (.t 8)),
 oa 4 10 (.bin .lss (.t 6) (.t 9))])
  (.cond (.t 10) .skip (.exit 0)))
  (.seq [3,1] (.block 1 (.seq [3,1] (.seq [21,3,1] (.region [oa 0 13 (.fieldA 1 (.t 1)),
 xA 1 14 (.loadB 0 none (.t 13)) (rg 1),
 om 2 15 3,
 xA 3 16 (.indexA 1 (.t 14) (.t 15)) (rg 3),
 xA 4 17 (.loadH none (.t 16)) (rg 4),
 xA 5 18 (.len (.t 17)) (rg 5),
 oa 6 19 (.fieldA 0 (.t 1)),
 xA 7 20 (.loadB 0 none (.t 19)) [6],
 xA 8 21 (.bin .neq (.t 18) (.t 20)) (rg 8)])
  (.cond (.t 21) (.seq [2] (.region [oa 0 2 (.mv (.c (.bool false)))])
  .ret) .skip))
  (.seq [4,3,1] (.region [oi 0 4 0])
  (.block 2 (.loop [1,3,4] 1 (.seq [4,3,1] (.seq [29,4,3,1] (.region [om 0 22 4,
 oa 1 23 (.fieldA 1 (.t 1)),
 oa 2 24 (.loadB 0 none (.t 23)),
 om 3 25 3,
 oa 4 26 (.indexA 1 (.t 24) (.t 25)),
 oa 5 27 (.loadH none (.t 26)),
 oa 6 28 (.len (.t 27)),
 oa 7 29 (.bin .lss (.t 22) (.t 28))])
  (.cond (.t 29) .skip (.exit 2)))
  (.seq [4,3,1] (.block 3 (.seq [5,4,3,1] (.region [oa 0 32 (.fieldA 1 (.t 1)),
 oa 1 33 (.loadB 0 none (.t 32)),
 om 2 34 3,
 oa 3 35 (.indexA 1 (.t 33) (.t 34)),
 oa 4 36 (.loadH none (.t 35)),
 om 5 37 4,
 oa 6 38 (.indexA 4 (.t 36) (.t 37)),
 ob 7 39 (.loadH (some 4) (.t 38)),
 oa 8 5 (.allocB 1 [(.int .i64 0),(.int .i64 0),(.int .i64 0),(.int .i64 0)]),
 os 9 (.storeB 1 4 (.t 5) (.t 39))])
  (.seq [64,4,3,1] (.region [oa 0 40 (.loadB 1 (some 4) (.t 5)),
 oc 1 41 s_spec_IsAction p_spec_IsAction D_spec_IsAction [(.t 40)],
 oa 2 42 (.un .not (.t 41)),
 om 3 43 42,
 og 4 44 (.fieldA 0 (.t 5)) 43 false,
 og 5 45 (.loadB 1 none (.t 44)) 43 false,
 og 6 46 (.bin .eql (.t 45) (.c (.int .i64 1))) 43 false,
 og 7 47 (.mv (.t 46)) 43 false,
 og 8 48 (.mv (.t 3)) 47 true,
 og 9 49 (.bin .eql (.t 48) (.c (.int .i64 0))) 47 true,
 og 10 50 (.pick (.t 47) (.t 49) (.c (.bool false))) 43 false,
 oa 11 51 (.pick (.t 43) (.c (.bool true)) (.t 50)),
 om 12 52 51,
 og 13 53 (.fieldA 0 (.t 5)) 52 false,
 og 14 54 (.loadB 1 none (.t 53)) 52 false,
 og 15 55 (.bin .neq (.t 54) (.c (.int .i64 9))) 52 false,
 og 16 56 (.mv (.t 55)) 52 false,
 og 17 57 (.fieldA 3 (.t 5)) 56 true,
 og 18 58 (.loadB 1 none (.t 57)) 56 true,
 og 19 59 (.fieldA 1 (.t 1)) 56 true,
 og 20 60 (.loadB 0 none (.t 59)) 56 true,
 og 21 61 (.len (.t 60)) 56 true,
 og 22 62 (.bin .geq (.t 58) (.t 61)) 56 true,
 og 23 63 (.pick (.t 56) (.t 62) (.c (.bool false))) 52 false,
 oa 24 64 (.pick (.t 52) (.c (.bool true)) (.t 63))])
  (.cond (.t 64) (.seq [2] (.region [oa 0 2 (.mv (.c (.bool false)))])
  .ret) .skip))))
  (.region [om 0 30 4,
 oa 1 31 (.bin .add (.t 30) (.c (.int .i64 1))),
 om 2 4 31]))))))))
  (.region [om 0 11 3,
 oa 1 12 (.bin .add (.t 11) (.c (.int .i64 1))),
 om 2 3 12]))))))
  (.seq [2] (.region [oa 0 65 (.fieldA 0 (.t 1)),
 oa 1 66 (.loadB 0 none (.t 65)),
 oc 2 67 s_spec_l1In p_spec_l1In D_spec_l1In [(.t 66),(.c (.int .i64 1)),(.c (.int .i64 32))],
 om 3 68 67,
 og 4 69 (.fieldA 1 (.t 1)) 68 true,
 og 5 70 (.loadB 0 none (.t 69)) 68 true,
 og 6 71 (.len (.t 70)) 68 true,
 ⟨7,some 72,.call false s_spec_l1In p_spec_l1In D_spec_l1In [(.t 71),(.c (.int .i64 1)),(.c (.int .i64 4))],(some (68,true)),[]⟩,
 oa 8 73 (.pick (.t 68) (.t 72) (.c (.bool false))),
 om 9 2 73])
  .ret)))
noncomputable def df_spec_IsKeymap:DFun:=⟨1,74,2,true,[.tmp 2],dc_spec_IsKeymap⟩
noncomputable def pf_spec_IsKeymap:PFun:=df_spec_IsKeymap.er
noncomputable def f_spec_IsKeymap:AFun:=pf_spec_IsKeymap.er
@[irreducible] noncomputable def s_spec_IsKeymap:CallSem:=funSem f_spec_IsKeymap
@[irreducible] noncomputable def p_spec_IsKeymap:PSem:=pfunSem pf_spec_IsKeymap
theorem sp_spec_IsKeymap:SoundP s_spec_IsKeymap p_spec_IsKeymap:=by unfold s_spec_IsKeymap p_spec_IsKeymap;exact pfun_sound (f:=pf_spec_IsKeymap) ⟨sp_spec_IsAction,sp_spec_l1In,sp_spec_l1In,trivial⟩
def h_spec_IsKeymap:List HT:=[.agg [(.frz,.int .i64),(.frz,.sl (.one (.sl rI4)))]]
def q_spec_IsKeymap:QT:=.one (.one .own (.bool))
@[irreducible] noncomputable def v_spec_IsKeymap(x:Int×(List (List (Int×Int×Int×Int)))):Bool:=(shut fun x=>fnV df_spec_IsKeymap h_spec_IsKeymap q_spec_IsKeymap x).1 x
@[irreducible] noncomputable def ok_spec_IsKeymap(x:Int×(List (List (Int×Int×Int×Int)))):Prop:=(shut fun x=>fnOk df_spec_IsKeymap h_spec_IsKeymap q_spec_IsKeymap x).1 x
theorem vu_spec_IsKeymap (x):v_spec_IsKeymap x=fnV df_spec_IsKeymap h_spec_IsKeymap q_spec_IsKeymap x:=by unfold v_spec_IsKeymap;exact congrFun (shut _).2 x
theorem ou_spec_IsKeymap (x):ok_spec_IsKeymap x=fnOk df_spec_IsKeymap h_spec_IsKeymap q_spec_IsKeymap x:=by unfold ok_spec_IsKeymap;exact congrFun (shut _).2 x
noncomputable def D_spec_IsKeymap:DSem:=DSemOf h_spec_IsKeymap q_spec_IsKeymap ok_spec_IsKeymap v_spec_IsKeymap
theorem ck_spec_IsKeymap(x:Int×(List (List (Int×Int×Int×Int)))):fnChk df_spec_IsKeymap h_spec_IsKeymap q_spec_IsKeymap x=true:=by kernel_rfl
theorem ob_spec_IsKeymap:AllD df_spec_IsKeymap.body.obs:=⟨sd_spec_IsAction,sd_spec_l1In,sd_spec_l1In,trivial⟩
theorem st_spec_IsKeymap:fnSt df_spec_IsKeymap h_spec_IsKeymap q_spec_IsKeymap=true:=by kernel_rfl
theorem sd_spec_IsKeymap:SoundD p_spec_IsKeymap D_spec_IsKeymap:=by unfold p_spec_IsKeymap;exact soundD_of (f:=df_spec_IsKeymap) (hs:=h_spec_IsKeymap) (q:=q_spec_IsKeymap) ob_spec_IsKeymap st_spec_IsKeymap ck_spec_IsKeymap (fun x h=>Eq.mp (ou_spec_IsKeymap x) h) (fun x=>(vu_spec_IsKeymap x).symm)
noncomputable def dc_impl_IsKeymap:DCode:=
 (.seq [1] (.region [oa 0 1 (.boxB 0 2 (.t 0)),
 oa 1 2 (.mv (.c (.bool false)))])
  (.seq [1] (.seq [26,1] (.region [oa 0 7 (.fieldA 0 (.t 1)),
 oa 1 8 (.loadB 0 none (.t 7)),
 oa 2 9 (.bin .lss (.t 8) (.c (.int .i64 1))),
 om 3 10 9,
 og 4 11 (.fieldA 0 (.t 1)) 10 false,
 og 5 12 (.loadB 0 none (.t 11)) 10 false,
 og 6 13 (.bin .gtr (.t 12) (.c (.int .i64 32))) 10 false,
 oa 7 14 (.pick (.t 10) (.c (.bool true)) (.t 13)),
 om 8 15 14,
 og 9 16 (.fieldA 1 (.t 1)) 15 false,
 og 10 17 (.loadB 0 none (.t 16)) 15 false,
 og 11 18 (.len (.t 17)) 15 false,
 og 12 19 (.bin .lss (.t 18) (.c (.int .i64 1))) 15 false,
 oa 13 20 (.pick (.t 15) (.c (.bool true)) (.t 19)),
 om 14 21 20,
 og 15 22 (.fieldA 1 (.t 1)) 21 false,
 og 16 23 (.loadB 0 none (.t 22)) 21 false,
 og 17 24 (.len (.t 23)) 21 false,
 og 18 25 (.bin .gtr (.t 24) (.c (.int .i64 4))) 21 false,
 oa 19 26 (.pick (.t 21) (.c (.bool true)) (.t 25))])
  (.cond (.t 26) (.seq [2] (.region [oa 0 2 (.mv (.c (.bool false)))])
  .ret) .skip))
  (.seq [] (.seq [30,29,28,1] (.region [oa 0 27 (.fieldA 1 (.t 1)),
 oa 1 28 (.loadB 0 none (.t 27)),
 oa 2 29 (.len (.t 28)),
 oi 3 30 0])
  (.block 0 (.loop [1,28,29,30] 1 (.seq [31,30,29,28,1] (.region [oa 0 31 (.bin .lss (.t 30) (.t 29))])
  (.seq [30,29,28,1] (.cond (.t 31) .skip (.exit 0))
  (.seq [30,29,28,1] (.block 1 (.seq [30,29,28,4,3,1] (.region [om 0 32 30,
 oa 1 33 (.indexA 1 (.t 28) (.t 30)),
 oa 2 34 (.loadH none (.t 33)),
 om 3 3 32,
 on 4 4 34])
  (.seq [30,29,28,4,3,1] (.seq [39,30,29,28,4,3,1] (.region [on 0 35 4,
 oa 1 36 (.len (.t 35)),
 oa 2 37 (.fieldA 0 (.t 1)),
 oa 3 38 (.loadB 0 none (.t 37)),
 oa 4 39 (.bin .neq (.t 36) (.t 38))])
  (.cond (.t 39) (.seq [2] (.region [oa 0 2 (.mv (.c (.bool false)))])
  .ret) .skip))
  (.seq [42,41,40,30,29,28,3,1] (.region [on 0 40 4,
 oa 1 41 (.len (.t 40)),
 oi 2 42 0])
  (.block 2 (.loop [1,3,28,29,30,40,41,42] 1 (.seq [43,42,41,40,30,29,28,3,1] (.region [oa 0 43 (.bin .lss (.t 42) (.t 41))])
  (.seq [42,41,40,30,29,28,3,1] (.cond (.t 43) .skip (.exit 2))
  (.seq [42,41,40,30,29,28,3,1] (.block 3 (.seq [42,41,40,30,29,28,6,3,1] (.region [oa 0 44 (.indexA 4 (.t 40) (.t 42)),
 ob 1 45 (.loadH (some 4) (.t 44)),
 oa 2 6 (.allocB 1 [(.int .i64 0),(.int .i64 0),(.int .i64 0),(.int .i64 0)]),
 os 3 (.storeB 1 4 (.t 6) (.t 45))])
  (.seq [70,42,41,40,30,29,28,3,1] (.region [oa 0 46 (.loadB 1 (some 4) (.t 6)),
 oc 1 47 s_impl_IsAction p_impl_IsAction D_impl_IsAction [(.t 46)],
 oa 2 48 (.un .not (.t 47)),
 om 3 49 48,
 og 4 50 (.mv (.t 3)) 49 false,
 og 5 51 (.bin .eql (.t 50) (.c (.int .i64 0))) 49 false,
 og 6 52 (.mv (.t 51)) 49 false,
 og 7 53 (.fieldA 0 (.t 6)) 52 true,
 og 8 54 (.loadB 1 none (.t 53)) 52 true,
 og 9 55 (.bin .eql (.t 54) (.c (.int .i64 1))) 52 true,
 og 10 56 (.pick (.t 52) (.t 55) (.c (.bool false))) 49 false,
 oa 11 57 (.pick (.t 49) (.c (.bool true)) (.t 56)),
 om 12 58 57,
 og 13 59 (.fieldA 0 (.t 6)) 58 false,
 og 14 60 (.loadB 1 none (.t 59)) 58 false,
 og 15 61 (.bin .neq (.t 60) (.c (.int .i64 9))) 58 false,
 og 16 62 (.mv (.t 61)) 58 false,
 og 17 63 (.fieldA 3 (.t 6)) 62 true,
 og 18 64 (.loadB 1 none (.t 63)) 62 true,
 og 19 65 (.fieldA 1 (.t 1)) 62 true,
 og 20 66 (.loadB 0 none (.t 65)) 62 true,
 og 21 67 (.len (.t 66)) 62 true,
 og 22 68 (.bin .geq (.t 64) (.t 67)) 62 true,
 og 23 69 (.pick (.t 62) (.t 68) (.c (.bool false))) 58 false,
 oa 24 70 (.pick (.t 58) (.c (.bool true)) (.t 69))])
  (.cond (.t 70) (.seq [2] (.region [oa 0 2 (.mv (.c (.bool false)))])
  .ret) .skip))))
  (.region [oa 0 71 (.bin .add (.t 42) (.c (.int .i64 1))),
 om 1 42 71]))))))))))
  (.region [oa 0 72 (.bin .add (.t 30) (.c (.int .i64 1))),
 om 1 30 72])))))))
  (.seq [2] (.region [oa 0 2 (.mv (.c (.bool true)))])
  .ret))))
noncomputable def df_impl_IsKeymap:DFun:=⟨1,73,2,true,[.tmp 2],dc_impl_IsKeymap⟩
noncomputable def pf_impl_IsKeymap:PFun:=df_impl_IsKeymap.er
noncomputable def f_impl_IsKeymap:AFun:=pf_impl_IsKeymap.er
@[irreducible] noncomputable def s_impl_IsKeymap:CallSem:=funSem f_impl_IsKeymap
@[irreducible] noncomputable def p_impl_IsKeymap:PSem:=pfunSem pf_impl_IsKeymap
theorem sp_impl_IsKeymap:SoundP s_impl_IsKeymap p_impl_IsKeymap:=by unfold s_impl_IsKeymap p_impl_IsKeymap;exact pfun_sound (f:=pf_impl_IsKeymap) ⟨sp_impl_IsAction,trivial⟩
def h_impl_IsKeymap:List HT:=[.agg [(.frz,.int .i64),(.frz,.sl (.one (.sl rI4)))]]
def q_impl_IsKeymap:QT:=.one (.one .own (.bool))
@[irreducible] noncomputable def v_impl_IsKeymap(x:Int×(List (List (Int×Int×Int×Int)))):Bool:=(shut fun x=>fnV df_impl_IsKeymap h_impl_IsKeymap q_impl_IsKeymap x).1 x
@[irreducible] noncomputable def ok_impl_IsKeymap(x:Int×(List (List (Int×Int×Int×Int)))):Prop:=(shut fun x=>fnOk df_impl_IsKeymap h_impl_IsKeymap q_impl_IsKeymap x).1 x
theorem vu_impl_IsKeymap (x):v_impl_IsKeymap x=fnV df_impl_IsKeymap h_impl_IsKeymap q_impl_IsKeymap x:=by unfold v_impl_IsKeymap;exact congrFun (shut _).2 x
theorem ou_impl_IsKeymap (x):ok_impl_IsKeymap x=fnOk df_impl_IsKeymap h_impl_IsKeymap q_impl_IsKeymap x:=by unfold ok_impl_IsKeymap;exact congrFun (shut _).2 x
noncomputable def D_impl_IsKeymap:DSem:=DSemOf h_impl_IsKeymap q_impl_IsKeymap ok_impl_IsKeymap v_impl_IsKeymap
theorem ck_impl_IsKeymap(x:Int×(List (List (Int×Int×Int×Int)))):fnChk df_impl_IsKeymap h_impl_IsKeymap q_impl_IsKeymap x=true:=by kernel_rfl
theorem ob_impl_IsKeymap:AllD df_impl_IsKeymap.body.obs:=⟨sd_impl_IsAction,trivial⟩
theorem st_impl_IsKeymap:fnSt df_impl_IsKeymap h_impl_IsKeymap q_impl_IsKeymap=true:=by kernel_rfl
theorem sd_impl_IsKeymap:SoundD p_impl_IsKeymap D_impl_IsKeymap:=by unfold p_impl_IsKeymap;exact soundD_of (f:=df_impl_IsKeymap) (hs:=h_impl_IsKeymap) (q:=q_impl_IsKeymap) ob_impl_IsKeymap st_impl_IsKeymap ck_impl_IsKeymap (fun x h=>Eq.mp (ou_impl_IsKeymap x) h) (fun x=>(vu_impl_IsKeymap x).symm)
noncomputable def dc_laws_eqActionS:DCode:=
 (.seq [1,0] (.region [oa 0 4 (.mv (.c (.bool false)))])
 (.seq [1,0] (.seq [10,1,0] (.region [on 0 6 0,
 oa 1 7 (.len (.t 6)),
 on 2 8 1,
 oa 3 9 (.len (.t 8)),
 oa 4 10 (.bin .neq (.t 7) (.t 9))])
  (.cond (.t 10) (.seq [4] (.region [oa 0 4 (.mv (.c (.bool false)))])
  .ret) .skip))
  (.seq [] (.seq [5,1,0] (.region [oi 0 5 0])
  (.block 0 (.loop [0,1,5] 1 (.seq [5,1,0] (.seq [14,5,1,0] (.region [om 0 11 5,
 on 1 12 0,
 oa 2 13 (.len (.t 12)),
 oa 3 14 (.bin .lss (.t 11) (.t 13))])
  (.cond (.t 14) .skip (.exit 0)))
  (.seq [5,1,0] (.block 1 (.seq [26,5,1,0] (.region [on 0 17 0,
 om 1 18 5,
 xA 2 19 (.indexA 4 (.t 17) (.t 18)) (rg 2),
 xA 3 20 (.loadH (some 4) (.t 19)) (rg 3),
 on 4 21 1,
 om 5 22 5,
 xA 6 23 (.indexA 4 (.t 21) (.t 22)) [4,5],
 xA 7 24 (.loadH (some 4) (.t 23)) [4,5,6],
 xC 8 25 s_laws_eqAction p_laws_eqAction D_laws_eqAction [(.t 20),(.t 24)] (rg 8),
 xA 9 26 (.un .not (.t 25)) (rg 9)])
  (.cond (.t 26) (.seq [4] (.region [oa 0 4 (.mv (.c (.bool false)))])
  .ret) .skip)))
  (.region [om 0 15 5,
 oa 1 16 (.bin .add (.t 15) (.c (.int .i64 1))),
 om 2 5 16]))))))
  (.seq [4] (.region [oa 0 4 (.mv (.c (.bool true)))])
  .ret))))
noncomputable def df_laws_eqActionS:DFun:=⟨2,27,0,true,[.tmp 4],dc_laws_eqActionS⟩
noncomputable def pf_laws_eqActionS:PFun:=df_laws_eqActionS.er
noncomputable def f_laws_eqActionS:AFun:=pf_laws_eqActionS.er
@[irreducible] noncomputable def s_laws_eqActionS:CallSem:=funSem f_laws_eqActionS
@[irreducible] noncomputable def p_laws_eqActionS:PSem:=pfunSem pf_laws_eqActionS
theorem sp_laws_eqActionS:SoundP s_laws_eqActionS p_laws_eqActionS:=by unfold s_laws_eqActionS p_laws_eqActionS;exact pfun_sound (f:=pf_laws_eqActionS) ⟨sp_laws_eqAction,trivial⟩
def h_laws_eqActionS:List HT:=[.one .frz (.sl rI4),.one .frz (.sl rI4)]
def q_laws_eqActionS:QT:=.one (.one .own (.bool))
@[irreducible] noncomputable def v_laws_eqActionS(x:(List (Int×Int×Int×Int))×(List (Int×Int×Int×Int))):Bool:=(shut fun x=>fnV df_laws_eqActionS h_laws_eqActionS q_laws_eqActionS x).1 x
@[irreducible] noncomputable def ok_laws_eqActionS(x:(List (Int×Int×Int×Int))×(List (Int×Int×Int×Int))):Prop:=(shut fun x=>fnOk df_laws_eqActionS h_laws_eqActionS q_laws_eqActionS x).1 x
theorem vu_laws_eqActionS (x):v_laws_eqActionS x=fnV df_laws_eqActionS h_laws_eqActionS q_laws_eqActionS x:=by unfold v_laws_eqActionS;exact congrFun (shut _).2 x
theorem ou_laws_eqActionS (x):ok_laws_eqActionS x=fnOk df_laws_eqActionS h_laws_eqActionS q_laws_eqActionS x:=by unfold ok_laws_eqActionS;exact congrFun (shut _).2 x
noncomputable def D_laws_eqActionS:DSem:=DSemOf h_laws_eqActionS q_laws_eqActionS ok_laws_eqActionS v_laws_eqActionS
theorem ck_laws_eqActionS(x:(List (Int×Int×Int×Int))×(List (Int×Int×Int×Int))):fnChk df_laws_eqActionS h_laws_eqActionS q_laws_eqActionS x=true:=by kernel_rfl
theorem ob_laws_eqActionS:AllD df_laws_eqActionS.body.obs:=⟨sd_laws_eqAction,trivial⟩
theorem st_laws_eqActionS:fnSt df_laws_eqActionS h_laws_eqActionS q_laws_eqActionS=true:=by kernel_rfl
theorem sd_laws_eqActionS:SoundD p_laws_eqActionS D_laws_eqActionS:=by unfold p_laws_eqActionS;exact soundD_of (f:=df_laws_eqActionS) (hs:=h_laws_eqActionS) (q:=q_laws_eqActionS) ob_laws_eqActionS st_laws_eqActionS ck_laws_eqActionS (fun x h=>Eq.mp (ou_laws_eqActionS x) h) (fun x=>(vu_laws_eqActionS x).symm)
noncomputable def dc_laws_eqActionSS:DCode:=
 (.seq [1,0] (.region [oa 0 4 (.mv (.c (.bool false)))])
 (.seq [1,0] (.seq [10,1,0] (.region [on 0 6 0,
 oa 1 7 (.len (.t 6)),
 on 2 8 1,
 oa 3 9 (.len (.t 8)),
 oa 4 10 (.bin .neq (.t 7) (.t 9))])
  (.cond (.t 10) (.seq [4] (.region [oa 0 4 (.mv (.c (.bool false)))])
  .ret) .skip))
  (.seq [] (.seq [5,1,0] (.region [oi 0 5 0])
  (.block 0 (.loop [0,1,5] 1 (.seq [5,1,0] (.seq [14,5,1,0] (.region [om 0 11 5,
 on 1 12 0,
 oa 2 13 (.len (.t 12)),
 oa 3 14 (.bin .lss (.t 11) (.t 13))])
  (.cond (.t 14) .skip (.exit 0)))
  (.seq [5,1,0] (.block 1 (.seq [26,5,1,0] (.region [on 0 17 0,
 om 1 18 5,
 xA 2 19 (.indexA 1 (.t 17) (.t 18)) (rg 2),
 xA 3 20 (.loadH none (.t 19)) (rg 3),
 on 4 21 1,
 om 5 22 5,
 xA 6 23 (.indexA 1 (.t 21) (.t 22)) [4,5],
 xA 7 24 (.loadH none (.t 23)) [4,5,6],
 xC 8 25 s_laws_eqActionS p_laws_eqActionS D_laws_eqActionS [(.t 20),(.t 24)] (rg 8),
 xA 9 26 (.un .not (.t 25)) (rg 9)])
  (.cond (.t 26) (.seq [4] (.region [oa 0 4 (.mv (.c (.bool false)))])
  .ret) .skip)))
  (.region [om 0 15 5,
 oa 1 16 (.bin .add (.t 15) (.c (.int .i64 1))),
 om 2 5 16]))))))
  (.seq [4] (.region [oa 0 4 (.mv (.c (.bool true)))])
  .ret))))
noncomputable def df_laws_eqActionSS:DFun:=⟨2,27,0,true,[.tmp 4],dc_laws_eqActionSS⟩
noncomputable def pf_laws_eqActionSS:PFun:=df_laws_eqActionSS.er
noncomputable def f_laws_eqActionSS:AFun:=pf_laws_eqActionSS.er
@[irreducible] noncomputable def s_laws_eqActionSS:CallSem:=funSem f_laws_eqActionSS
@[irreducible] noncomputable def p_laws_eqActionSS:PSem:=pfunSem pf_laws_eqActionSS
theorem sp_laws_eqActionSS:SoundP s_laws_eqActionSS p_laws_eqActionSS:=by unfold s_laws_eqActionSS p_laws_eqActionSS;exact pfun_sound (f:=pf_laws_eqActionSS) ⟨sp_laws_eqActionS,trivial⟩
def h_laws_eqActionSS:List HT:=[.one .frz (.sl (.one (.sl rI4))),.one .frz (.sl (.one (.sl rI4)))]
def q_laws_eqActionSS:QT:=.one (.one .own (.bool))
@[irreducible] noncomputable def v_laws_eqActionSS(x:(List (List (Int×Int×Int×Int)))×(List (List (Int×Int×Int×Int)))):Bool:=(shut fun x=>fnV df_laws_eqActionSS h_laws_eqActionSS q_laws_eqActionSS x).1 x
@[irreducible] noncomputable def ok_laws_eqActionSS(x:(List (List (Int×Int×Int×Int)))×(List (List (Int×Int×Int×Int)))):Prop:=(shut fun x=>fnOk df_laws_eqActionSS h_laws_eqActionSS q_laws_eqActionSS x).1 x
theorem vu_laws_eqActionSS (x):v_laws_eqActionSS x=fnV df_laws_eqActionSS h_laws_eqActionSS q_laws_eqActionSS x:=by unfold v_laws_eqActionSS;exact congrFun (shut _).2 x
theorem ou_laws_eqActionSS (x):ok_laws_eqActionSS x=fnOk df_laws_eqActionSS h_laws_eqActionSS q_laws_eqActionSS x:=by unfold ok_laws_eqActionSS;exact congrFun (shut _).2 x
noncomputable def D_laws_eqActionSS:DSem:=DSemOf h_laws_eqActionSS q_laws_eqActionSS ok_laws_eqActionSS v_laws_eqActionSS
theorem ck_laws_eqActionSS(x:(List (List (Int×Int×Int×Int)))×(List (List (Int×Int×Int×Int)))):fnChk df_laws_eqActionSS h_laws_eqActionSS q_laws_eqActionSS x=true:=by kernel_rfl
theorem ob_laws_eqActionSS:AllD df_laws_eqActionSS.body.obs:=⟨sd_laws_eqActionS,trivial⟩
theorem st_laws_eqActionSS:fnSt df_laws_eqActionSS h_laws_eqActionSS q_laws_eqActionSS=true:=by kernel_rfl
theorem sd_laws_eqActionSS:SoundD p_laws_eqActionSS D_laws_eqActionSS:=by unfold p_laws_eqActionSS;exact soundD_of (f:=df_laws_eqActionSS) (hs:=h_laws_eqActionSS) (q:=q_laws_eqActionSS) ob_laws_eqActionSS st_laws_eqActionSS ck_laws_eqActionSS (fun x h=>Eq.mp (ou_laws_eqActionSS x) h) (fun x=>(vu_laws_eqActionSS x).symm)
noncomputable def dc_laws_eqKeymap:DCode:=
 (.seq [3,2] (.region [oa 0 2 (.boxB 0 2 (.t 0)),
 oa 1 3 (.boxB 1 2 (.t 1)),
 oa 2 4 (.mv (.c (.bool false)))])
  (.seq [3,2] (.seq [9,3,2] (.region [oa 0 5 (.fieldA 0 (.t 2)),
 oa 1 6 (.loadB 0 none (.t 5)),
 oa 2 7 (.fieldA 0 (.t 3)),
 oa 3 8 (.loadB 1 none (.t 7)),
 oa 4 9 (.bin .neq (.t 6) (.t 8))])
  (.cond (.t 9) (.seq [4] (.region [oa 0 4 (.mv (.c (.bool false)))])
  .ret) .skip))
  (.seq [] (.seq [15] (.region [oa 0 10 (.fieldA 1 (.t 2)),
 oa 1 11 (.loadB 0 none (.t 10)),
 oa 2 12 (.fieldA 1 (.t 3)),
 oa 3 13 (.loadB 1 none (.t 12)),
 oc 4 14 s_laws_eqActionSS p_laws_eqActionSS D_laws_eqActionSS [(.t 11),(.t 13)],
 oa 5 15 (.un .not (.t 14))])
  (.cond (.t 15) (.seq [4] (.region [oa 0 4 (.mv (.c (.bool false)))])
  .ret) .skip))
  (.seq [4] (.region [oa 0 4 (.mv (.c (.bool true)))])
  .ret))))
noncomputable def df_laws_eqKeymap:DFun:=⟨2,16,2,true,[.tmp 4],dc_laws_eqKeymap⟩
noncomputable def pf_laws_eqKeymap:PFun:=df_laws_eqKeymap.er
noncomputable def f_laws_eqKeymap:AFun:=pf_laws_eqKeymap.er
@[irreducible] noncomputable def s_laws_eqKeymap:CallSem:=funSem f_laws_eqKeymap
@[irreducible] noncomputable def p_laws_eqKeymap:PSem:=pfunSem pf_laws_eqKeymap
theorem sp_laws_eqKeymap:SoundP s_laws_eqKeymap p_laws_eqKeymap:=by unfold s_laws_eqKeymap p_laws_eqKeymap;exact pfun_sound (f:=pf_laws_eqKeymap) ⟨sp_laws_eqActionSS,trivial⟩
def h_laws_eqKeymap:List HT:=[.agg [(.frz,.int .i64),(.frz,.sl (.one (.sl rI4)))],.agg [(.frz,.int .i64),(.frz,.sl (.one (.sl rI4)))]]
def q_laws_eqKeymap:QT:=.one (.one .own (.bool))
@[irreducible] noncomputable def v_laws_eqKeymap(x:(Int×(List (List (Int×Int×Int×Int))))×(Int×(List (List (Int×Int×Int×Int))))):Bool:=(shut fun x=>fnV df_laws_eqKeymap h_laws_eqKeymap q_laws_eqKeymap x).1 x
@[irreducible] noncomputable def ok_laws_eqKeymap(x:(Int×(List (List (Int×Int×Int×Int))))×(Int×(List (List (Int×Int×Int×Int))))):Prop:=(shut fun x=>fnOk df_laws_eqKeymap h_laws_eqKeymap q_laws_eqKeymap x).1 x
theorem vu_laws_eqKeymap (x):v_laws_eqKeymap x=fnV df_laws_eqKeymap h_laws_eqKeymap q_laws_eqKeymap x:=by unfold v_laws_eqKeymap;exact congrFun (shut _).2 x
theorem ou_laws_eqKeymap (x):ok_laws_eqKeymap x=fnOk df_laws_eqKeymap h_laws_eqKeymap q_laws_eqKeymap x:=by unfold ok_laws_eqKeymap;exact congrFun (shut _).2 x
noncomputable def D_laws_eqKeymap:DSem:=DSemOf h_laws_eqKeymap q_laws_eqKeymap ok_laws_eqKeymap v_laws_eqKeymap
theorem ck_laws_eqKeymap(x:(Int×(List (List (Int×Int×Int×Int))))×(Int×(List (List (Int×Int×Int×Int))))):fnChk df_laws_eqKeymap h_laws_eqKeymap q_laws_eqKeymap x=true:=by kernel_rfl
theorem ob_laws_eqKeymap:AllD df_laws_eqKeymap.body.obs:=⟨sd_laws_eqActionSS,trivial⟩
theorem st_laws_eqKeymap:fnSt df_laws_eqKeymap h_laws_eqKeymap q_laws_eqKeymap=true:=by kernel_rfl
theorem sd_laws_eqKeymap:SoundD p_laws_eqKeymap D_laws_eqKeymap:=by unfold p_laws_eqKeymap;exact soundD_of (f:=df_laws_eqKeymap) (hs:=h_laws_eqKeymap) (q:=q_laws_eqKeymap) ob_laws_eqKeymap st_laws_eqKeymap ck_laws_eqKeymap (fun x h=>Eq.mp (ou_laws_eqKeymap x) h) (fun x=>(vu_laws_eqKeymap x).symm)
end
section
set_option maxRecDepth 100000
theorem ve_laws_szActionS (x):v_laws_szActionS x=(bSel (iLt (iSub .i64 x.2 (lLen x.1)) 0) (-1) (iSub .i64 x.2 (lLen x.1))):=(vu_laws_szActionS x).trans (by kernel_rfl)
theorem oe_laws_szActionS (x):ok_laws_szActionS x=True:=(ou_laws_szActionS x).trans (by kernel_rfl)
theorem ve_laws_szActionSS (x):v_laws_szActionSS x=(bSel (iLt (iSub .i64 x.2 (lLen x.1)) 0) (-1) (bSel (iLt (loopV (fun(x0:(Int×Int))=>(bAnd (iLt x0.2 (lLen x.1)) (bNot (iLt (v_laws_szActionS ((lGet x.1 (iNat x0.2) []),x0.1)) 0)))) (fun(x0:(Int×Int))=>((v_laws_szActionS ((lGet x.1 (iNat x0.2) []),x0.1)),(iAdd .i64 x0.2 1))) ((iSub .i64 x.2 (lLen x.1)),0)).2 (lLen x.1)) (-1) (loopV (fun(x0:(Int×Int))=>(bAnd (iLt x0.2 (lLen x.1)) (bNot (iLt (v_laws_szActionS ((lGet x.1 (iNat x0.2) []),x0.1)) 0)))) (fun(x0:(Int×Int))=>((v_laws_szActionS ((lGet x.1 (iNat x0.2) []),x0.1)),(iAdd .i64 x0.2 1))) ((iSub .i64 x.2 (lLen x.1)),0)).1)):=(vu_laws_szActionSS x).trans (by kernel_rfl)
theorem oe_laws_szActionSS (x):ok_laws_szActionSS x=(((iLt (iSub .i64 x.2 (lLen x.1)) 0)=true→True)∧((iLt (iSub .i64 x.2 (lLen x.1)) 0)=false→(LoopOk (fun(x0:(Int×Int))=>(bAnd (iLt x0.2 (lLen x.1)) (bNot (iLt (v_laws_szActionS ((lGet x.1 (iNat x0.2) []),x0.1)) 0)))) (fun(x0:(Int×Int))=>((v_laws_szActionS ((lGet x.1 (iNat x0.2) []),x0.1)),(iAdd .i64 x0.2 1))) (fun(x0:(Int×Int))=>(((iLt x0.2 (lLen x.1))=true→((((0:Int)≤x0.2)∧(x0.2<(((List.length x.1):Int))))∧(((iNat x0.2)<(List.length x.1))∧(ok_laws_szActionS ((lGet x.1 (iNat x0.2) []),x0.1)))))∧((iLt x0.2 (lLen x.1))=false→True))) ((iSub .i64 x.2 (lLen x.1)),0)))):=(ou_laws_szActionSS x).trans (by kernel_rfl)
theorem ve_laws_szKeymap (x):v_laws_szKeymap x=(bSel (iLt (v_laws_szActionSS (x.1.2,x.2)) 0) (-1) (v_laws_szActionSS (x.1.2,x.2))):=(vu_laws_szKeymap x).trans (by kernel_rfl)
theorem oe_laws_szKeymap (x):ok_laws_szKeymap x=(ok_laws_szActionSS (x.1.2,x.2)):=(ou_laws_szKeymap x).trans (by kernel_rfl)
theorem ve_laws_toActionS (x):v_laws_toActionS x=(loopV (fun(x0:((List (Int×(Int×(Int×Int))))×Int))=>(iLt x0.2 (lLen x))) (fun(x0:((List (Int×(Int×(Int×Int))))×Int))=>((lSet x0.1 (iNat x0.2) ((v_laws_toAction ((lGet x (iNat x0.2) (0,0,0,0)).1,(lGet x (iNat x0.2) (0,0,0,0)).2.1,(lGet x (iNat x0.2) (0,0,0,0)).2.2.1,(lGet x (iNat x0.2) (0,0,0,0)).2.2.2)).1,(v_laws_toAction ((lGet x (iNat x0.2) (0,0,0,0)).1,(lGet x (iNat x0.2) (0,0,0,0)).2.1,(lGet x (iNat x0.2) (0,0,0,0)).2.2.1,(lGet x (iNat x0.2) (0,0,0,0)).2.2.2)).2.1,(v_laws_toAction ((lGet x (iNat x0.2) (0,0,0,0)).1,(lGet x (iNat x0.2) (0,0,0,0)).2.1,(lGet x (iNat x0.2) (0,0,0,0)).2.2.1,(lGet x (iNat x0.2) (0,0,0,0)).2.2.2)).2.2.1,(v_laws_toAction ((lGet x (iNat x0.2) (0,0,0,0)).1,(lGet x (iNat x0.2) (0,0,0,0)).2.1,(lGet x (iNat x0.2) (0,0,0,0)).2.2.1,(lGet x (iNat x0.2) (0,0,0,0)).2.2.2)).2.2.2)),(iAdd .i64 x0.2 1))) ((lRep (lLen x) (0,0,0,0)),0)).1:=(vu_laws_toActionS x).trans (by kernel_rfl)
theorem oe_laws_toActionS (x):ok_laws_toActionS x=((((0:Int)≤(lLen x))∧(roomy ((Int.toNat (lLen x))*4)))∧(LoopOk (fun(x0:((List (Int×(Int×(Int×Int))))×Int))=>(iLt x0.2 (lLen x))) (fun(x0:((List (Int×(Int×(Int×Int))))×Int))=>((lSet x0.1 (iNat x0.2) ((v_laws_toAction ((lGet x (iNat x0.2) (0,0,0,0)).1,(lGet x (iNat x0.2) (0,0,0,0)).2.1,(lGet x (iNat x0.2) (0,0,0,0)).2.2.1,(lGet x (iNat x0.2) (0,0,0,0)).2.2.2)).1,(v_laws_toAction ((lGet x (iNat x0.2) (0,0,0,0)).1,(lGet x (iNat x0.2) (0,0,0,0)).2.1,(lGet x (iNat x0.2) (0,0,0,0)).2.2.1,(lGet x (iNat x0.2) (0,0,0,0)).2.2.2)).2.1,(v_laws_toAction ((lGet x (iNat x0.2) (0,0,0,0)).1,(lGet x (iNat x0.2) (0,0,0,0)).2.1,(lGet x (iNat x0.2) (0,0,0,0)).2.2.1,(lGet x (iNat x0.2) (0,0,0,0)).2.2.2)).2.2.1,(v_laws_toAction ((lGet x (iNat x0.2) (0,0,0,0)).1,(lGet x (iNat x0.2) (0,0,0,0)).2.1,(lGet x (iNat x0.2) (0,0,0,0)).2.2.1,(lGet x (iNat x0.2) (0,0,0,0)).2.2.2)).2.2.2)),(iAdd .i64 x0.2 1))) (fun(x0:((List (Int×(Int×(Int×Int))))×Int))=>(((iLt x0.2 (lLen x))=true→((((0:Int)≤x0.2)∧(x0.2<(((List.length x):Int))))∧(((iNat x0.2)<(List.length x))∧((ok_laws_toAction ((lGet x (iNat x0.2) (0,0,0,0)).1,(lGet x (iNat x0.2) (0,0,0,0)).2.1,(lGet x (iNat x0.2) (0,0,0,0)).2.2.1,(lGet x (iNat x0.2) (0,0,0,0)).2.2.2))∧((((0:Int)≤x0.2)∧(x0.2<(((List.length x0.1):Int))))∧((iNat x0.2)<(List.length x0.1)))))))∧((iLt x0.2 (lLen x))=false→True))) ((lRep (lLen x) (0,0,0,0)),0))):=(ou_laws_toActionS x).trans (by kernel_rfl)
theorem ve_laws_toActionSS (x):v_laws_toActionSS x=(loopV (fun(x0:((List (List (Int×(Int×(Int×Int)))))×Int))=>(iLt x0.2 (lLen x))) (fun(x0:((List (List (Int×(Int×(Int×Int)))))×Int))=>((lSet x0.1 (iNat x0.2) (v_laws_toActionS (lGet x (iNat x0.2) []))),(iAdd .i64 x0.2 1))) ((lRep (lLen x) []),0)).1:=(vu_laws_toActionSS x).trans (by kernel_rfl)
theorem oe_laws_toActionSS (x):ok_laws_toActionSS x=((((0:Int)≤(lLen x))∧(roomy ((Int.toNat (lLen x))*1)))∧(LoopOk (fun(x0:((List (List (Int×(Int×(Int×Int)))))×Int))=>(iLt x0.2 (lLen x))) (fun(x0:((List (List (Int×(Int×(Int×Int)))))×Int))=>((lSet x0.1 (iNat x0.2) (v_laws_toActionS (lGet x (iNat x0.2) []))),(iAdd .i64 x0.2 1))) (fun(x0:((List (List (Int×(Int×(Int×Int)))))×Int))=>(((iLt x0.2 (lLen x))=true→((((0:Int)≤x0.2)∧(x0.2<(((List.length x):Int))))∧(((iNat x0.2)<(List.length x))∧((ok_laws_toActionS (lGet x (iNat x0.2) []))∧((((0:Int)≤x0.2)∧(x0.2<(((List.length x0.1):Int))))∧((iNat x0.2)<(List.length x0.1)))))))∧((iLt x0.2 (lLen x))=false→True))) ((lRep (lLen x) []),0))):=(ou_laws_toActionSS x).trans (by kernel_rfl)
theorem ve_laws_toKeymap (x):v_laws_toKeymap x=(x.1,(v_laws_toActionSS x.2)):=(vu_laws_toKeymap x).trans (by kernel_rfl)
theorem oe_laws_toKeymap (x):ok_laws_toKeymap x=(ok_laws_toActionSS x.2):=(ou_laws_toKeymap x).trans (by kernel_rfl)
theorem ve_spec_IsKeymap (x):v_spec_IsKeymap x=(bAnd (bNot (iLt (loopV (fun(x0:Int)=>(bAnd (iLt x0 (lLen x.2)) (bAnd (bNot (iNe (lLen (lGet x.2 (iNat x0) [])) x.1)) (bNot (iLt (loopV (fun(x1:Int)=>(bAnd (iLt x1 (lLen (lGet x.2 (iNat x0) []))) (bNot (bOr (bNot (v_spec_IsAction ((lGet (lGet x.2 (iNat x0) []) (iNat x1) (0,0,0,0)).1,(lGet (lGet x.2 (iNat x0) []) (iNat x1) (0,0,0,0)).2.1,(lGet (lGet x.2 (iNat x0) []) (iNat x1) (0,0,0,0)).2.2.1,(lGet (lGet x.2 (iNat x0) []) (iNat x1) (0,0,0,0)).2.2.2))) (bSel (iEq (lGet (lGet x.2 (iNat x0) []) (iNat x1) (0,0,0,0)).1 1) (bOr (iEq x0 0) (bAnd (iNe (lGet (lGet x.2 (iNat x0) []) (iNat x1) (0,0,0,0)).1 9) (iGe (lGet (lGet x.2 (iNat x0) []) (iNat x1) (0,0,0,0)).2.2.2 (lLen x.2)))) (bAnd (iNe (lGet (lGet x.2 (iNat x0) []) (iNat x1) (0,0,0,0)).1 9) (iGe (lGet (lGet x.2 (iNat x0) []) (iNat x1) (0,0,0,0)).2.2.2 (lLen x.2)))))))) (fun(x1:Int)=>(iAdd .i64 x1 1)) 0) (lLen (lGet x.2 (iNat x0) []))))))) (fun(x0:Int)=>(iAdd .i64 x0 1)) 0) (lLen x.2))) (bAnd (v_spec_l1In (x.1,1,32)) (v_spec_l1In ((lLen x.2),1,4)))):=(vu_spec_IsKeymap x).trans (by kernel_rfl)
theorem oe_spec_IsKeymap (x):ok_spec_IsKeymap x=((LoopOk (fun(x0:Int)=>(bAnd (iLt x0 (lLen x.2)) (bAnd (bNot (iNe (lLen (lGet x.2 (iNat x0) [])) x.1)) (bNot (iLt (loopV (fun(x1:Int)=>(bAnd (iLt x1 (lLen (lGet x.2 (iNat x0) []))) (bNot (bOr (bNot (v_spec_IsAction ((lGet (lGet x.2 (iNat x0) []) (iNat x1) (0,0,0,0)).1,(lGet (lGet x.2 (iNat x0) []) (iNat x1) (0,0,0,0)).2.1,(lGet (lGet x.2 (iNat x0) []) (iNat x1) (0,0,0,0)).2.2.1,(lGet (lGet x.2 (iNat x0) []) (iNat x1) (0,0,0,0)).2.2.2))) (bSel (iEq (lGet (lGet x.2 (iNat x0) []) (iNat x1) (0,0,0,0)).1 1) (bOr (iEq x0 0) (bAnd (iNe (lGet (lGet x.2 (iNat x0) []) (iNat x1) (0,0,0,0)).1 9) (iGe (lGet (lGet x.2 (iNat x0) []) (iNat x1) (0,0,0,0)).2.2.2 (lLen x.2)))) (bAnd (iNe (lGet (lGet x.2 (iNat x0) []) (iNat x1) (0,0,0,0)).1 9) (iGe (lGet (lGet x.2 (iNat x0) []) (iNat x1) (0,0,0,0)).2.2.2 (lLen x.2)))))))) (fun(x1:Int)=>(iAdd .i64 x1 1)) 0) (lLen (lGet x.2 (iNat x0) []))))))) (fun(x0:Int)=>(iAdd .i64 x0 1)) (fun(x0:Int)=>(((iLt x0 (lLen x.2))=true→((((0:Int)≤x0)∧(x0<(((List.length x.2):Int))))∧(((iNat x0)<(List.length x.2))∧(((iNe (lLen (lGet x.2 (iNat x0) [])) x.1)=true→True)∧((iNe (lLen (lGet x.2 (iNat x0) [])) x.1)=false→(LoopOk (fun(x1:Int)=>(bAnd (iLt x1 (lLen (lGet x.2 (iNat x0) []))) (bNot (bOr (bNot (v_spec_IsAction ((lGet (lGet x.2 (iNat x0) []) (iNat x1) (0,0,0,0)).1,(lGet (lGet x.2 (iNat x0) []) (iNat x1) (0,0,0,0)).2.1,(lGet (lGet x.2 (iNat x0) []) (iNat x1) (0,0,0,0)).2.2.1,(lGet (lGet x.2 (iNat x0) []) (iNat x1) (0,0,0,0)).2.2.2))) (bSel (iEq (lGet (lGet x.2 (iNat x0) []) (iNat x1) (0,0,0,0)).1 1) (bOr (iEq x0 0) (bAnd (iNe (lGet (lGet x.2 (iNat x0) []) (iNat x1) (0,0,0,0)).1 9) (iGe (lGet (lGet x.2 (iNat x0) []) (iNat x1) (0,0,0,0)).2.2.2 (lLen x.2)))) (bAnd (iNe (lGet (lGet x.2 (iNat x0) []) (iNat x1) (0,0,0,0)).1 9) (iGe (lGet (lGet x.2 (iNat x0) []) (iNat x1) (0,0,0,0)).2.2.2 (lLen x.2)))))))) (fun(x1:Int)=>(iAdd .i64 x1 1)) (fun(x1:Int)=>((((0:Int)≤x0)∧(x0<(((List.length x.2):Int))))∧(((iNat x0)<(List.length x.2))∧(((iLt x1 (lLen (lGet x.2 (iNat x0) [])))=true→((((0:Int)≤x0)∧(x0<(((List.length x.2):Int))))∧(((iNat x0)<(List.length x.2))∧((((0:Int)≤x1)∧(x1<(((List.length (lGet x.2 (iNat x0) [])):Int))))∧(((iNat x1)<(List.length (lGet x.2 (iNat x0) [])))∧(ok_spec_IsAction ((lGet (lGet x.2 (iNat x0) []) (iNat x1) (0,0,0,0)).1,(lGet (lGet x.2 (iNat x0) []) (iNat x1) (0,0,0,0)).2.1,(lGet (lGet x.2 (iNat x0) []) (iNat x1) (0,0,0,0)).2.2.1,(lGet (lGet x.2 (iNat x0) []) (iNat x1) (0,0,0,0)).2.2.2)))))))∧((iLt x1 (lLen (lGet x.2 (iNat x0) [])))=false→True))))) 0))))))∧((iLt x0 (lLen x.2))=false→True))) 0)∧(((iLt (loopV (fun(x0:Int)=>(bAnd (iLt x0 (lLen x.2)) (bAnd (bNot (iNe (lLen (lGet x.2 (iNat x0) [])) x.1)) (bNot (iLt (loopV (fun(x1:Int)=>(bAnd (iLt x1 (lLen (lGet x.2 (iNat x0) []))) (bNot (bOr (bNot (v_spec_IsAction ((lGet (lGet x.2 (iNat x0) []) (iNat x1) (0,0,0,0)).1,(lGet (lGet x.2 (iNat x0) []) (iNat x1) (0,0,0,0)).2.1,(lGet (lGet x.2 (iNat x0) []) (iNat x1) (0,0,0,0)).2.2.1,(lGet (lGet x.2 (iNat x0) []) (iNat x1) (0,0,0,0)).2.2.2))) (bSel (iEq (lGet (lGet x.2 (iNat x0) []) (iNat x1) (0,0,0,0)).1 1) (bOr (iEq x0 0) (bAnd (iNe (lGet (lGet x.2 (iNat x0) []) (iNat x1) (0,0,0,0)).1 9) (iGe (lGet (lGet x.2 (iNat x0) []) (iNat x1) (0,0,0,0)).2.2.2 (lLen x.2)))) (bAnd (iNe (lGet (lGet x.2 (iNat x0) []) (iNat x1) (0,0,0,0)).1 9) (iGe (lGet (lGet x.2 (iNat x0) []) (iNat x1) (0,0,0,0)).2.2.2 (lLen x.2)))))))) (fun(x1:Int)=>(iAdd .i64 x1 1)) 0) (lLen (lGet x.2 (iNat x0) []))))))) (fun(x0:Int)=>(iAdd .i64 x0 1)) 0) (lLen x.2))=true→True)∧((iLt (loopV (fun(x0:Int)=>(bAnd (iLt x0 (lLen x.2)) (bAnd (bNot (iNe (lLen (lGet x.2 (iNat x0) [])) x.1)) (bNot (iLt (loopV (fun(x1:Int)=>(bAnd (iLt x1 (lLen (lGet x.2 (iNat x0) []))) (bNot (bOr (bNot (v_spec_IsAction ((lGet (lGet x.2 (iNat x0) []) (iNat x1) (0,0,0,0)).1,(lGet (lGet x.2 (iNat x0) []) (iNat x1) (0,0,0,0)).2.1,(lGet (lGet x.2 (iNat x0) []) (iNat x1) (0,0,0,0)).2.2.1,(lGet (lGet x.2 (iNat x0) []) (iNat x1) (0,0,0,0)).2.2.2))) (bSel (iEq (lGet (lGet x.2 (iNat x0) []) (iNat x1) (0,0,0,0)).1 1) (bOr (iEq x0 0) (bAnd (iNe (lGet (lGet x.2 (iNat x0) []) (iNat x1) (0,0,0,0)).1 9) (iGe (lGet (lGet x.2 (iNat x0) []) (iNat x1) (0,0,0,0)).2.2.2 (lLen x.2)))) (bAnd (iNe (lGet (lGet x.2 (iNat x0) []) (iNat x1) (0,0,0,0)).1 9) (iGe (lGet (lGet x.2 (iNat x0) []) (iNat x1) (0,0,0,0)).2.2.2 (lLen x.2)))))))) (fun(x1:Int)=>(iAdd .i64 x1 1)) 0) (lLen (lGet x.2 (iNat x0) []))))))) (fun(x0:Int)=>(iAdd .i64 x0 1)) 0) (lLen x.2))=false→((ok_spec_l1In (x.1,1,32))∧(((v_spec_l1In (x.1,1,32))=true→(ok_spec_l1In ((lLen x.2),1,4)))∧((v_spec_l1In (x.1,1,32))=false→True)))))):=(ou_spec_IsKeymap x).trans (by kernel_rfl)
theorem ve_impl_IsKeymap (x):v_impl_IsKeymap x=(bAnd (bNot (bOr (iLt x.1 1) (bOr (iGt x.1 32) (bOr (iLt (lLen x.2) 1) (iGt (lLen x.2) 4))))) (bNot (iLt (loopV (fun(x0:Int)=>(bAnd (iLt x0 (lLen x.2)) (bAnd (bNot (iNe (lLen (lGet x.2 (iNat x0) [])) x.1)) (bNot (iLt (loopV (fun(x1:Int)=>(bAnd (iLt x1 (lLen (lGet x.2 (iNat x0) []))) (bNot (bOr (bNot (v_impl_IsAction ((lGet (lGet x.2 (iNat x0) []) (iNat x1) (0,0,0,0)).1,(lGet (lGet x.2 (iNat x0) []) (iNat x1) (0,0,0,0)).2.1,(lGet (lGet x.2 (iNat x0) []) (iNat x1) (0,0,0,0)).2.2.1,(lGet (lGet x.2 (iNat x0) []) (iNat x1) (0,0,0,0)).2.2.2))) (bSel (iEq x0 0) (bOr (iEq (lGet (lGet x.2 (iNat x0) []) (iNat x1) (0,0,0,0)).1 1) (bAnd (iNe (lGet (lGet x.2 (iNat x0) []) (iNat x1) (0,0,0,0)).1 9) (iGe (lGet (lGet x.2 (iNat x0) []) (iNat x1) (0,0,0,0)).2.2.2 (lLen x.2)))) (bAnd (iNe (lGet (lGet x.2 (iNat x0) []) (iNat x1) (0,0,0,0)).1 9) (iGe (lGet (lGet x.2 (iNat x0) []) (iNat x1) (0,0,0,0)).2.2.2 (lLen x.2)))))))) (fun(x1:Int)=>(iAdd .i64 x1 1)) 0) (lLen (lGet x.2 (iNat x0) []))))))) (fun(x0:Int)=>(iAdd .i64 x0 1)) 0) (lLen x.2)))):=(vu_impl_IsKeymap x).trans (by kernel_rfl)
theorem oe_impl_IsKeymap (x):ok_impl_IsKeymap x=(((bOr (iLt x.1 1) (bOr (iGt x.1 32) (bOr (iLt (lLen x.2) 1) (iGt (lLen x.2) 4))))=true→True)∧((bOr (iLt x.1 1) (bOr (iGt x.1 32) (bOr (iLt (lLen x.2) 1) (iGt (lLen x.2) 4))))=false→(LoopOk (fun(x0:Int)=>(bAnd (iLt x0 (lLen x.2)) (bAnd (bNot (iNe (lLen (lGet x.2 (iNat x0) [])) x.1)) (bNot (iLt (loopV (fun(x1:Int)=>(bAnd (iLt x1 (lLen (lGet x.2 (iNat x0) []))) (bNot (bOr (bNot (v_impl_IsAction ((lGet (lGet x.2 (iNat x0) []) (iNat x1) (0,0,0,0)).1,(lGet (lGet x.2 (iNat x0) []) (iNat x1) (0,0,0,0)).2.1,(lGet (lGet x.2 (iNat x0) []) (iNat x1) (0,0,0,0)).2.2.1,(lGet (lGet x.2 (iNat x0) []) (iNat x1) (0,0,0,0)).2.2.2))) (bSel (iEq x0 0) (bOr (iEq (lGet (lGet x.2 (iNat x0) []) (iNat x1) (0,0,0,0)).1 1) (bAnd (iNe (lGet (lGet x.2 (iNat x0) []) (iNat x1) (0,0,0,0)).1 9) (iGe (lGet (lGet x.2 (iNat x0) []) (iNat x1) (0,0,0,0)).2.2.2 (lLen x.2)))) (bAnd (iNe (lGet (lGet x.2 (iNat x0) []) (iNat x1) (0,0,0,0)).1 9) (iGe (lGet (lGet x.2 (iNat x0) []) (iNat x1) (0,0,0,0)).2.2.2 (lLen x.2)))))))) (fun(x1:Int)=>(iAdd .i64 x1 1)) 0) (lLen (lGet x.2 (iNat x0) []))))))) (fun(x0:Int)=>(iAdd .i64 x0 1)) (fun(x0:Int)=>(((iLt x0 (lLen x.2))=true→((((0:Int)≤x0)∧(x0<(((List.length x.2):Int))))∧(((iNat x0)<(List.length x.2))∧(((iNe (lLen (lGet x.2 (iNat x0) [])) x.1)=true→True)∧((iNe (lLen (lGet x.2 (iNat x0) [])) x.1)=false→(LoopOk (fun(x1:Int)=>(bAnd (iLt x1 (lLen (lGet x.2 (iNat x0) []))) (bNot (bOr (bNot (v_impl_IsAction ((lGet (lGet x.2 (iNat x0) []) (iNat x1) (0,0,0,0)).1,(lGet (lGet x.2 (iNat x0) []) (iNat x1) (0,0,0,0)).2.1,(lGet (lGet x.2 (iNat x0) []) (iNat x1) (0,0,0,0)).2.2.1,(lGet (lGet x.2 (iNat x0) []) (iNat x1) (0,0,0,0)).2.2.2))) (bSel (iEq x0 0) (bOr (iEq (lGet (lGet x.2 (iNat x0) []) (iNat x1) (0,0,0,0)).1 1) (bAnd (iNe (lGet (lGet x.2 (iNat x0) []) (iNat x1) (0,0,0,0)).1 9) (iGe (lGet (lGet x.2 (iNat x0) []) (iNat x1) (0,0,0,0)).2.2.2 (lLen x.2)))) (bAnd (iNe (lGet (lGet x.2 (iNat x0) []) (iNat x1) (0,0,0,0)).1 9) (iGe (lGet (lGet x.2 (iNat x0) []) (iNat x1) (0,0,0,0)).2.2.2 (lLen x.2)))))))) (fun(x1:Int)=>(iAdd .i64 x1 1)) (fun(x1:Int)=>(((iLt x1 (lLen (lGet x.2 (iNat x0) [])))=true→((((0:Int)≤x1)∧(x1<(((List.length (lGet x.2 (iNat x0) [])):Int))))∧(((iNat x1)<(List.length (lGet x.2 (iNat x0) [])))∧(ok_impl_IsAction ((lGet (lGet x.2 (iNat x0) []) (iNat x1) (0,0,0,0)).1,(lGet (lGet x.2 (iNat x0) []) (iNat x1) (0,0,0,0)).2.1,(lGet (lGet x.2 (iNat x0) []) (iNat x1) (0,0,0,0)).2.2.1,(lGet (lGet x.2 (iNat x0) []) (iNat x1) (0,0,0,0)).2.2.2)))))∧((iLt x1 (lLen (lGet x.2 (iNat x0) [])))=false→True))) 0))))))∧((iLt x0 (lLen x.2))=false→True))) 0))):=(ou_impl_IsKeymap x).trans (by kernel_rfl)
theorem ve_laws_eqActionS (x):v_laws_eqActionS x=(bAnd (bNot (iNe (lLen x.1) (lLen x.2))) (bNot (iLt (loopV (fun(x0:Int)=>(bAnd (iLt x0 (lLen x.1)) (bNot (bNot (v_laws_eqAction (((lGet x.1 (iNat x0) (0,0,0,0)).1,(lGet x.1 (iNat x0) (0,0,0,0)).2.1,(lGet x.1 (iNat x0) (0,0,0,0)).2.2.1,(lGet x.1 (iNat x0) (0,0,0,0)).2.2.2),(lGet x.2 (iNat x0) (0,0,0,0)).1,(lGet x.2 (iNat x0) (0,0,0,0)).2.1,(lGet x.2 (iNat x0) (0,0,0,0)).2.2.1,(lGet x.2 (iNat x0) (0,0,0,0)).2.2.2)))))) (fun(x0:Int)=>(iAdd .i64 x0 1)) 0) (lLen x.1)))):=(vu_laws_eqActionS x).trans (by kernel_rfl)
theorem oe_laws_eqActionS (x):ok_laws_eqActionS x=(((iNe (lLen x.1) (lLen x.2))=true→True)∧((iNe (lLen x.1) (lLen x.2))=false→(LoopOk (fun(x0:Int)=>(bAnd (iLt x0 (lLen x.1)) (bNot (bNot (v_laws_eqAction (((lGet x.1 (iNat x0) (0,0,0,0)).1,(lGet x.1 (iNat x0) (0,0,0,0)).2.1,(lGet x.1 (iNat x0) (0,0,0,0)).2.2.1,(lGet x.1 (iNat x0) (0,0,0,0)).2.2.2),(lGet x.2 (iNat x0) (0,0,0,0)).1,(lGet x.2 (iNat x0) (0,0,0,0)).2.1,(lGet x.2 (iNat x0) (0,0,0,0)).2.2.1,(lGet x.2 (iNat x0) (0,0,0,0)).2.2.2)))))) (fun(x0:Int)=>(iAdd .i64 x0 1)) (fun(x0:Int)=>(((iLt x0 (lLen x.1))=true→((((0:Int)≤x0)∧(x0<(((List.length x.1):Int))))∧(((iNat x0)<(List.length x.1))∧((((0:Int)≤x0)∧(x0<(((List.length x.2):Int))))∧(((iNat x0)<(List.length x.2))∧(ok_laws_eqAction (((lGet x.1 (iNat x0) (0,0,0,0)).1,(lGet x.1 (iNat x0) (0,0,0,0)).2.1,(lGet x.1 (iNat x0) (0,0,0,0)).2.2.1,(lGet x.1 (iNat x0) (0,0,0,0)).2.2.2),(lGet x.2 (iNat x0) (0,0,0,0)).1,(lGet x.2 (iNat x0) (0,0,0,0)).2.1,(lGet x.2 (iNat x0) (0,0,0,0)).2.2.1,(lGet x.2 (iNat x0) (0,0,0,0)).2.2.2)))))))∧((iLt x0 (lLen x.1))=false→True))) 0))):=(ou_laws_eqActionS x).trans (by kernel_rfl)
theorem ve_laws_eqActionSS (x):v_laws_eqActionSS x=(bAnd (bNot (iNe (lLen x.1) (lLen x.2))) (bNot (iLt (loopV (fun(x0:Int)=>(bAnd (iLt x0 (lLen x.1)) (bNot (bNot (v_laws_eqActionS ((lGet x.1 (iNat x0) []),(lGet x.2 (iNat x0) []))))))) (fun(x0:Int)=>(iAdd .i64 x0 1)) 0) (lLen x.1)))):=(vu_laws_eqActionSS x).trans (by kernel_rfl)
theorem oe_laws_eqActionSS (x):ok_laws_eqActionSS x=(((iNe (lLen x.1) (lLen x.2))=true→True)∧((iNe (lLen x.1) (lLen x.2))=false→(LoopOk (fun(x0:Int)=>(bAnd (iLt x0 (lLen x.1)) (bNot (bNot (v_laws_eqActionS ((lGet x.1 (iNat x0) []),(lGet x.2 (iNat x0) []))))))) (fun(x0:Int)=>(iAdd .i64 x0 1)) (fun(x0:Int)=>(((iLt x0 (lLen x.1))=true→((((0:Int)≤x0)∧(x0<(((List.length x.1):Int))))∧(((iNat x0)<(List.length x.1))∧((((0:Int)≤x0)∧(x0<(((List.length x.2):Int))))∧(((iNat x0)<(List.length x.2))∧(ok_laws_eqActionS ((lGet x.1 (iNat x0) []),(lGet x.2 (iNat x0) []))))))))∧((iLt x0 (lLen x.1))=false→True))) 0))):=(ou_laws_eqActionSS x).trans (by kernel_rfl)
theorem ve_laws_eqKeymap (x):v_laws_eqKeymap x=(bAnd (bNot (iNe x.1.1 x.2.1)) (bNot (bNot (v_laws_eqActionSS (x.1.2,x.2.2))))):=(vu_laws_eqKeymap x).trans (by kernel_rfl)
theorem oe_laws_eqKeymap (x):ok_laws_eqKeymap x=(((iNe x.1.1 x.2.1)=true→True)∧((iNe x.1.1 x.2.1)=false→(ok_laws_eqActionSS (x.1.2,x.2.2)))):=(ou_laws_eqKeymap x).trans (by kernel_rfl)
end
def sm_ActionS(x:List (Int×Int×Int×Int)):Prop:=x.length≤1048576∧∀ a∈x,sm_Action a
def wl_ActionS(x:List (Int×Int×Int×Int)):Prop:=x.length≤9223372036854775807∧∀ a∈x,wl_Action a
theorem sz_ActionS(x:List (Int×Int×Int×Int))(hw:wl_ActionS x)(l:Int)(h0:0≤l)(h1:l≤1048576):ok_laws_szActionS (x,l)∧(v_laws_szActionS (x,l)<0∨(0≤v_laws_szActionS (x,l)∧v_laws_szActionS (x,l)≤l∧sm_ActionS x)):=by
 rw[oe_laws_szActionS,ve_laws_szActionS]
 have hl:x.length≤9223372036854775807:=hw.1
 have hs:iSub .i64 l (lLen x)=l-x.length:=by rw[lLen_eq];exact iSub_i64 (by unfold In64;omega)
 refine⟨trivial,?_⟩
 simp only[hs,iLt_eq,bSel_eq,decide_eq_true_eq]
 split
 · left;omega
 · right;exact⟨by omega,by omega,⟨by omega,fun a _=>by simp[sm_Action]⟩⟩
def sm_ActionSS(x:List (List (Int×Int×Int×Int))):Prop:=x.length≤1048576∧∀ a∈x,sm_ActionS a
def wl_ActionSS(x:List (List (Int×Int×Int×Int))):Prop:=x.length≤9223372036854775807∧∀ a∈x,wl_ActionS a
theorem sz_ActionSS(x:List (List (Int×Int×Int×Int)))(hw:wl_ActionSS x)(l:Int)(h0:0≤l)(h1:l≤1048576):ok_laws_szActionSS (x,l)∧(v_laws_szActionSS (x,l)<0∨(0≤v_laws_szActionSS (x,l)∧v_laws_szActionSS (x,l)≤l∧sm_ActionSS x)):=by
 rw[oe_laws_szActionSS,ve_laws_szActionSS]
 obtain⟨hl,hw2⟩:=hw
 have hs:iSub .i64 l (lLen x)=l-x.length:=by rw[lLen_eq];exact iSub_i64 (by unfold In64;omega)
 simp only[hs]
 by_cases hneg:l-(x.length:Int)<0
 · have hb:iLt (l-(x.length:Int)) 0=true:=by rw[iLt_eq];simpa using hneg
   rw[hb]
   exact⟨⟨fun _=>trivial,fun h=>(by cases h)⟩,by rw[bSel_t];left;omega⟩
 · have hb:iLt (l-(x.length:Int)) 0=false:=by rw[iLt_eq];simpa using hneg
   rw[hb]
   have hg:∀ i:Nat,i<x.length→∀ m:Int,0≤m→m≤1048576→ok_laws_szActionS (x.getD i [],m)∧(v_laws_szActionS (x.getD i [],m)<0∨(0≤v_laws_szActionS (x.getD i [],m)∧v_laws_szActionS (x.getD i [],m)≤m∧sm_ActionS (x.getD i []))):=fun i hi m g0 g1=>sz_ActionS _ (hw2 _ (getD_mem x i [] hi)) m g0 g1
   refine⟨⟨fun h=>(by cases h),fun _=>sz_ok x [] sm_ActionS (fun a m=>v_laws_szActionS (a,m)) (l-(x.length:Int)) (by omega) (by omega) (by omega) (fun i hi m g0 g1=>(hg i hi m g0 g1).2) (fun m i hi=>by simp only[bAnd_eq,iLt_eq,lLen_eq,iNat_eq,lGet_eq,bNot_eq,Int.toNat_natCast,Int.ofNat_lt]) (fun m i hi=>by simp only[iNat_eq,lGet_eq,Int.toNat_natCast]) (fun m i g0 g1 hi=>?_)⟩,?_⟩
   · simp only[iLt_eq,lLen_eq,iNat_eq,lGet_eq,decide_eq_true_eq,Int.toNat_natCast]
     exact⟨fun hh=>⟨by omega,by omega,(hg i (by omega) m g0 g1).1⟩,fun _=>trivial⟩
   · rw[bSel_f]
     have hv:=sz_v (c:=fun st:Int×Int=>bAnd (iLt st.2 (lLen x)) (bNot (iLt (v_laws_szActionS ((lGet x (iNat st.2) []),st.1)) 0))) (f:=fun st=>(v_laws_szActionS ((lGet x (iNat st.2) []),st.1),iAdd .i64 st.2 1)) x [] sm_ActionS (fun a m=>v_laws_szActionS (a,m)) (l-(x.length:Int)) (by omega) (by omega) (by omega) (fun i hi m g0 g1=>(hg i hi m g0 g1).2) (fun m i hi=>by simp only[bAnd_eq,iLt_eq,lLen_eq,iNat_eq,lGet_eq,bNot_eq,Int.toNat_natCast,Int.ofNat_lt]) (fun m i hi=>by simp only[iNat_eq,lGet_eq,Int.toNat_natCast])
     rcases sz_fin (l:=l) (by omega) hv with h|⟨h2,h3,h4⟩
     · exact .inl h
     · exact .inr ⟨h2,h3,(by omega),h4⟩
def sm_Keymap(x:Int×(List (List (Int×Int×Int×Int)))):Prop:=sm_ActionSS x.2∧True
def wl_Keymap(x:Int×(List (List (Int×Int×Int×Int)))):Prop:=wl_ActionSS x.2∧True
theorem sz_Keymap(x:Int×(List (List (Int×Int×Int×Int))))(hw:wl_Keymap x)(l:Int)(h0:0≤l)(h1:l≤1048576):ok_laws_szKeymap (x,l)∧(v_laws_szKeymap (x,l)<0∨(0≤v_laws_szKeymap (x,l)∧v_laws_szKeymap (x,l)≤l∧sm_Keymap x)):=by
 rw[oe_laws_szKeymap,ve_laws_szKeymap]
 have hx:=hw
 unfold wl_Keymap at hw
 obtain⟨k0,g0⟩:=sz_ActionSS x.2 hw.1 l (by omega) (by omega)
 generalize hz0:v_laws_szActionSS (x.2,l)=z0 at g0 ⊢
 rcases g0 with g0|⟨g0,g0',g0''⟩
 · have hb:iLt z0 0=true:=by rw[iLt_eq];simpa using g0
   refine⟨?_,?_⟩
   · simp[k0,hb]
   · simp only[hb,bSel_t];left;omega
 have hb0:iLt z0 0=false:=by rw[iLt_eq];simpa using g0
 simp only[hb0,bSel_f]
 exact⟨by simp[k0],.inr ⟨by omega,by omega,g0'',trivial⟩⟩
theorem to_ActionS(x:List (Int×Int×Int×Int))(h:sm_ActionS x):ok_laws_toActionS x∧v_laws_toActionS x=x:=by
 rw[oe_laws_toActionS,ve_laws_toActionS]
 obtain⟨h1,h2⟩:=h
 have hY:∀ i:Nat,i<x.length→ok_laws_toAction ((x.getD i (0,0,0,0)).1,(x.getD i (0,0,0,0)).2.1,(x.getD i (0,0,0,0)).2.2.1,(x.getD i (0,0,0,0)).2.2.2)∧v_laws_toAction ((x.getD i (0,0,0,0)).1,(x.getD i (0,0,0,0)).2.1,(x.getD i (0,0,0,0)).2.2.1,(x.getD i (0,0,0,0)).2.2.2)=x.getD i (0,0,0,0):=fun i hi=>to_Action _ (h2 _ (getD_mem x i (0,0,0,0) hi))
 refine⟨⟨⟨by rw[lLen_eq];omega,roomy_of (by rw[lLen_eq];omega) (by rw[lLen_eq];omega) (by omega)⟩,copyg_ok x (0,0,0,0) (0,0,0,0) h1 (fun _=>rfl) (fun l i hi=>by simp only[lSet_eq,lGet_eq,iNat_eq,Int.toNat_natCast];rw[(hY i hi).2]) (fun l i hl hi=>?_)⟩,copyg_v x (0,0,0,0) (0,0,0,0) h1 (fun _=>rfl) (fun l i hi=>by simp only[lSet_eq,lGet_eq,iNat_eq,Int.toNat_natCast];rw[(hY i hi).2])⟩
 simp only[iLt_eq,lLen_eq,iNat_eq,lGet_eq,decide_eq_true_eq,Int.toNat_natCast]
 exact⟨fun hh=>⟨by omega,by omega,(hY i (by omega)).1,by omega,by omega⟩,fun _=>trivial⟩
theorem to_ActionSS(x:List (List (Int×Int×Int×Int)))(h:sm_ActionSS x):ok_laws_toActionSS x∧v_laws_toActionSS x=x:=by
 rw[oe_laws_toActionSS,ve_laws_toActionSS]
 obtain⟨h1,h2⟩:=h
 have hY:∀ i:Nat,i<x.length→ok_laws_toActionS (x.getD i [])∧v_laws_toActionS (x.getD i [])=x.getD i []:=fun i hi=>to_ActionS _ (h2 _ (getD_mem x i [] hi))
 refine⟨⟨⟨by rw[lLen_eq];omega,roomy_of (by rw[lLen_eq];omega) (by rw[lLen_eq];omega) (by omega)⟩,copyg_ok x [] [] h1 (fun _=>rfl) (fun l i hi=>by simp only[lSet_eq,lGet_eq,iNat_eq,Int.toNat_natCast];rw[(hY i hi).2]) (fun l i hl hi=>?_)⟩,copyg_v x [] [] h1 (fun _=>rfl) (fun l i hi=>by simp only[lSet_eq,lGet_eq,iNat_eq,Int.toNat_natCast];rw[(hY i hi).2])⟩
 simp only[iLt_eq,lLen_eq,iNat_eq,lGet_eq,decide_eq_true_eq,Int.toNat_natCast]
 exact⟨fun hh=>⟨by omega,by omega,(hY i (by omega)).1,by omega,by omega⟩,fun _=>trivial⟩
theorem to_Keymap(x:Int×(List (List (Int×Int×Int×Int))))(h:sm_Keymap x):ok_laws_toKeymap x∧v_laws_toKeymap x=x:=by
 rw[oe_laws_toKeymap,ve_laws_toKeymap]
 have k0:=to_ActionSS x.2 (by unfold sm_Keymap at h;exact h.1)
 refine⟨k0.1,?_⟩
 simp only[k0.2]
theorem eq_ActionS(a b:List (Int×Int×Int×Int))(h:sm_ActionS a):ok_laws_eqActionS (a,b)∧(v_laws_eqActionS (a,b)=true↔a=b):=by
 rw[oe_laws_eqActionS,ve_laws_eqActionS]
 obtain⟨h1,h2⟩:=h
 have hY:∀ i:Nat,i<a.length→ok_laws_eqAction (((lGet a i (0,0,0,0)).1,(lGet a i (0,0,0,0)).2.1,(lGet a i (0,0,0,0)).2.2.1,(lGet a i (0,0,0,0)).2.2.2),((lGet b i (0,0,0,0)).1,(lGet b i (0,0,0,0)).2.1,(lGet b i (0,0,0,0)).2.2.1,(lGet b i (0,0,0,0)).2.2.2))∧(v_laws_eqAction (((lGet a i (0,0,0,0)).1,(lGet a i (0,0,0,0)).2.1,(lGet a i (0,0,0,0)).2.2.1,(lGet a i (0,0,0,0)).2.2.2),((lGet b i (0,0,0,0)).1,(lGet b i (0,0,0,0)).2.1,(lGet b i (0,0,0,0)).2.2.1,(lGet b i (0,0,0,0)).2.2.2))=true↔a.getD i (0,0,0,0)=b.getD i (0,0,0,0)):=fun i hi=>by
  have:=eq_Action (a.getD i (0,0,0,0)) (b.getD i (0,0,0,0)) (h2 _ (getD_mem a i (0,0,0,0) hi))
  rw[lGet_eq,lGet_eq];exact this
 by_cases hl:a.length=b.length
 · refine⟨⟨fun _=>trivial,fun _=>eq_ok a b (0,0,0,0) (fun i=>bNot (v_laws_eqAction (((lGet a i (0,0,0,0)).1,(lGet a i (0,0,0,0)).2.1,(lGet a i (0,0,0,0)).2.2.1,(lGet a i (0,0,0,0)).2.2.2),((lGet b i (0,0,0,0)).1,(lGet b i (0,0,0,0)).2.1,(lGet b i (0,0,0,0)).2.2.1,(lGet b i (0,0,0,0)).2.2.2)))) hl (fun i hi=>by simp only[bNot_eq,Bool.not_eq_false',(hY i hi).2]) (by omega) (fun i hi=>by simp only[bAnd_eq,iLt_eq,lLen_eq,iNat_eq,bNot_eq,Int.toNat_natCast,Int.ofNat_lt]) (fun i hi=>rfl) (fun i hi=>?_)⟩,?_⟩
   · simp only[iLt_eq,lLen_eq,iNat_eq,decide_eq_true_eq,Int.toNat_natCast]
     exact⟨fun hh=>⟨by omega,by omega,by omega,by omega,(hY i (by omega)).1⟩,fun _=>trivial⟩
   · have hv:=eq_v (c:=fun i:Int=>bAnd (iLt i (lLen a)) (bNot ((fun i=>bNot (v_laws_eqAction (((lGet a i (0,0,0,0)).1,(lGet a i (0,0,0,0)).2.1,(lGet a i (0,0,0,0)).2.2.1,(lGet a i (0,0,0,0)).2.2.2),((lGet b i (0,0,0,0)).1,(lGet b i (0,0,0,0)).2.1,(lGet b i (0,0,0,0)).2.2.1,(lGet b i (0,0,0,0)).2.2.2)))) i.toNat))) (f:=fun i=>iAdd .i64 i 1) a b (0,0,0,0) (fun i=>bNot (v_laws_eqAction (((lGet a i (0,0,0,0)).1,(lGet a i (0,0,0,0)).2.1,(lGet a i (0,0,0,0)).2.2.1,(lGet a i (0,0,0,0)).2.2.2),((lGet b i (0,0,0,0)).1,(lGet b i (0,0,0,0)).2.1,(lGet b i (0,0,0,0)).2.2.1,(lGet b i (0,0,0,0)).2.2.2)))) hl (fun i hi=>by simp only[bNot_eq,Bool.not_eq_false',(hY i hi).2]) (by omega) (fun i hi=>by simp only[bAnd_eq,iLt_eq,lLen_eq,bNot_eq,Int.toNat_natCast,Int.ofNat_lt]) (fun i hi=>rfl)
     have e1:bNot (iNe (lLen a) (lLen b))=true:=by rw[bNot_eq,iNe_eq,lLen_eq,lLen_eq,hl];simp
     rw[e1,bAnd_eq true,Bool.true_and,bNot_eq (iLt _ (lLen a)),iLt_eq _ (lLen a)]
     simp only[← iNat_eq,lLen_eq] at hv ⊢
     simp only[Bool.not_eq_true',decide_eq_false_iff_not]
     rw[hv];simp
 · have e1:bNot (iNe (lLen a) (lLen b))=false:=by rw[bNot_eq,iNe_eq,lLen_eq,lLen_eq];simp;omega
   refine⟨⟨fun _=>trivial,fun h=>?_⟩,?_⟩
   · rw[bNot_eq] at e1;rw[h] at e1;cases e1
   · rw[e1,bAnd_eq,Bool.false_and];constructor
     · intro h;cases h
     · intro e;subst e;exact absurd rfl hl
theorem eq_ActionSS(a b:List (List (Int×Int×Int×Int)))(h:sm_ActionSS a):ok_laws_eqActionSS (a,b)∧(v_laws_eqActionSS (a,b)=true↔a=b):=by
 rw[oe_laws_eqActionSS,ve_laws_eqActionSS]
 obtain⟨h1,h2⟩:=h
 have hY:∀ i:Nat,i<a.length→ok_laws_eqActionS ((lGet a i []),(lGet b i []))∧(v_laws_eqActionS ((lGet a i []),(lGet b i []))=true↔a.getD i []=b.getD i []):=fun i hi=>by
  have:=eq_ActionS (a.getD i []) (b.getD i []) (h2 _ (getD_mem a i [] hi))
  rw[lGet_eq,lGet_eq];exact this
 by_cases hl:a.length=b.length
 · refine⟨⟨fun _=>trivial,fun _=>eq_ok a b [] (fun i=>bNot (v_laws_eqActionS ((lGet a i []),(lGet b i [])))) hl (fun i hi=>by simp only[bNot_eq,Bool.not_eq_false',(hY i hi).2]) (by omega) (fun i hi=>by simp only[bAnd_eq,iLt_eq,lLen_eq,iNat_eq,bNot_eq,Int.toNat_natCast,Int.ofNat_lt]) (fun i hi=>rfl) (fun i hi=>?_)⟩,?_⟩
   · simp only[iLt_eq,lLen_eq,iNat_eq,decide_eq_true_eq,Int.toNat_natCast]
     exact⟨fun hh=>⟨by omega,by omega,by omega,by omega,(hY i (by omega)).1⟩,fun _=>trivial⟩
   · have hv:=eq_v (c:=fun i:Int=>bAnd (iLt i (lLen a)) (bNot ((fun i=>bNot (v_laws_eqActionS ((lGet a i []),(lGet b i [])))) i.toNat))) (f:=fun i=>iAdd .i64 i 1) a b [] (fun i=>bNot (v_laws_eqActionS ((lGet a i []),(lGet b i [])))) hl (fun i hi=>by simp only[bNot_eq,Bool.not_eq_false',(hY i hi).2]) (by omega) (fun i hi=>by simp only[bAnd_eq,iLt_eq,lLen_eq,bNot_eq,Int.toNat_natCast,Int.ofNat_lt]) (fun i hi=>rfl)
     have e1:bNot (iNe (lLen a) (lLen b))=true:=by rw[bNot_eq,iNe_eq,lLen_eq,lLen_eq,hl];simp
     rw[e1,bAnd_eq true,Bool.true_and,bNot_eq (iLt _ (lLen a)),iLt_eq _ (lLen a)]
     simp only[← iNat_eq,lLen_eq] at hv ⊢
     simp only[Bool.not_eq_true',decide_eq_false_iff_not]
     rw[hv];simp
 · have e1:bNot (iNe (lLen a) (lLen b))=false:=by rw[bNot_eq,iNe_eq,lLen_eq,lLen_eq];simp;omega
   refine⟨⟨fun _=>trivial,fun h=>?_⟩,?_⟩
   · rw[bNot_eq] at e1;rw[h] at e1;cases e1
   · rw[e1,bAnd_eq,Bool.false_and];constructor
     · intro h;cases h
     · intro e;subst e;exact absurd rfl hl
theorem eq_Keymap(a b:Int×(List (List (Int×Int×Int×Int))))(h:sm_Keymap a):ok_laws_eqKeymap (a,b)∧(v_laws_eqKeymap (a,b)=true↔a=b):=by
 obtain⟨a0,a1⟩:=a
 obtain⟨b0,b1⟩:=b
 have k0:=eq_ActionSS a1 b1 (by unfold sm_Keymap at h;exact h.1)
 rw[oe_laws_eqKeymap,ve_laws_eqKeymap]
 refine⟨by simp[k0.1,k0.2],?_⟩
 simp only[k0.1,k0.2,bNot_eq,bAnd_eq,bIff_eq,iNe_eq,Bool.and_eq_true,Bool.not_not,decide_eq_true_eq,Prod.mk.injEq,beq_iff_eq]
 try (constructor<;>intro h<;>simp_all)
theorem isKeymap_eq(x:Int×List (List (Int×Int×Int×Int))):v_spec_IsKeymap x=v_impl_IsKeymap x:=by
 rw[ve_spec_IsKeymap,ve_impl_IsKeymap,l1In_eq,l1In_eq]
 have inner:∀ (i a n:Int) (A B:Bool),bNot (bOr A (bSel (iEq a 1) (bOr (iEq i 0) B) B))=bNot (bOr A (bSel (iEq i 0) (bOr (iEq a 1) B) B)):=by
  intro i a n A B
  simp only[bNot_eq,bOr_eq,bSel_eq,iEq_eq]
  by_cases h1:a=1<;>by_cases h2:i=0<;>simp[h1,h2]
 simp only[isAction_eq,fun i a A B=>inner i a 0 A B]
 generalize bNot (iLt (loopV _ _ _) (lLen x.2))=L
 rw[Bool.eq_iff_iff]
 simp only[bAnd_eq,bNot_eq,bOr_eq,iLt_eq,iGt_eq,lLen_eq,Bool.and_eq_true,Bool.or_eq_true,Bool.not_eq_true',Bool.not_eq_false',Bool.and_eq_false_iff,Bool.or_eq_false_iff,decide_eq_true_eq,decide_eq_false_iff_not,Bool.not_eq_true,Bool.not_eq_false,beq_iff_eq,beq_eq_false_iff_ne]
 cases L<;>simp<;>omega
theorem ok_IsKeymap_t(x:Int×List (List (Int×Int×Int×Int)))(h:sm_Keymap x):ok_spec_IsKeymap x∧ok_impl_IsKeymap x:=by
 obtain⟨k,x⟩:=x
 have h:sm_ActionSS x:=h.1
 rw[oe_spec_IsKeymap,oe_impl_IsKeymap]
 have inl:∀ i:Int,0≤i→i<x.length→(lGet x (iNat i) []).length≤1048576:=fun i h0 hi=>by
  rw[lGet_eq,iNat_eq];exact(h.2 _ (getD_mem x i.toNat [] (by omega))).1
 refine⟨⟨?_,fun _=>trivial,fun _=>⟨ok_l1In _,fun _=>ok_l1In _,fun _=>trivial⟩⟩,fun _=>trivial,fun _=>?_⟩
 all_goals
  refine cnt_ok (fun st=>st) x.length (by have:=h.1;omega) (fun st _ _ hc=>?_) (fun st=>rfl) (fun st h0 h1=>?_) (by simp) (by simp)
  · rw[bAnd_eq,iLt_eq st,lLen_eq,Bool.and_eq_true,decide_eq_true_eq] at hc
    exact hc.1
  · refine⟨fun hlt=>?_,fun _=>trivial⟩
    rw[iLt_eq,lLen_eq,decide_eq_true_eq] at hlt
    have hlt:st<(x.length:Int):=hlt
    have h3:iNat st<x.length:=by rw[iNat_eq];omega
    have hl:=inl st h0 hlt
    refine⟨⟨h0,hlt⟩,h3,fun _=>trivial,fun _=>?_⟩
    refine cnt_ok (fun st=>st) (lGet x (iNat st) []).length (by omega) (fun j _ _ hc=>?_) (fun st=>rfl) (fun j j0 j1=>?_) (by simp) (by simp)
    · rw[bAnd_eq,iLt_eq j,lLen_eq,Bool.and_eq_true,decide_eq_true_eq] at hc
      exact hc.1
    · have fin:iLt j (lLen (lGet x (iNat st) []))=true→j<((lGet x (iNat st) []).length:Int)∧iNat j<(lGet x (iNat st) []).length:=fun hj=>by
       rw[iLt_eq,lLen_eq,decide_eq_true_eq] at hj
       exact⟨hj,by rw[iNat_eq];omega⟩
      first
       |exact⟨⟨h0,hlt⟩,h3,fun hj=>⟨⟨h0,hlt⟩,h3,⟨j0,(fin hj).1⟩,(fin hj).2,ok_spec_IsAction_t _⟩,fun _=>trivial⟩
       |exact⟨fun hj=>⟨⟨j0,(fin hj).1⟩,(fin hj).2,ok_impl_IsAction_t _⟩,fun _=>trivial⟩
theorem wl_Keymap_of{k:Int}{x:List (List (Int×Int×Int×Int))}(h:CT.wf (.sl (.one (.sl rI4))) x):wl_Keymap (k,x):=by
 exact⟨⟨h.1,fun l hl=>⟨(h.2 l hl).1,fun a _=>by simp[wl_Action]⟩⟩,trivial⟩
structure MapOk (k:Int) (x:List (List (Int×Int×Int×Int))):Prop where
 k1:1≤k
 k2:k≤32
 l1:1≤x.length
 l2:x.length≤4
 row:∀ i:Nat,i<x.length→((x.getD i []).length:Int)=k
 act:∀ i j:Nat,i<x.length→j<(x.getD i []).length→v_impl_IsAction ((x.getD i []).getD j (0,0,0,0))=true∧(i=0→((x.getD i []).getD j (0,0,0,0)).1≠1)∧(((x.getD i []).getD j (0,0,0,0)).1≠9→((x.getD i []).getD j (0,0,0,0)).2.2.2<x.length)
theorem isKeymap_ok{k:Int}{x:List (List (Int×Int×Int×Int))}(hs:sm_Keymap (k,x))(h:v_impl_IsKeymap (k,x)=true):MapOk k x:=by
 rw[ve_impl_IsKeymap,bAnd_eq,Bool.and_eq_true] at h
 obtain⟨h1,h2⟩:=h
 simp only[bNot_eq,bOr_eq,iLt_eq,iGt_eq,lLen_eq,Bool.and_eq_true,Bool.or_eq_true,Bool.not_eq_true',Bool.not_eq_false',Bool.and_eq_false_iff,Bool.or_eq_false_iff,decide_eq_true_eq,decide_eq_false_iff_not,Bool.not_eq_true,Bool.not_eq_false,beq_iff_eq,beq_eq_false_iff_ne] at h1
 rw[bNot_eq,Bool.not_eq_true',iLt_eq _ (lLen _),lLen_eq,decide_eq_false_iff_not] at h2
 have hs:sm_ActionSS x:=hs.1
 have all:=scan_all h2 (by show (x.length:Int)≤_;omega) (fun i hi hc=>by
  rw[bAnd_eq,iLt_eq (i:Int),lLen_eq,Bool.and_eq_true,decide_eq_true_eq] at hc
  have:=hc.1;show i<x.length;simp only at this;omega) (fun i hi=>rfl)
 have row:∀ i:Nat,i<x.length→((x.getD i []).length:Int)=k∧∀ j:Nat,j<(x.getD i []).length→v_impl_IsAction ((x.getD i []).getD j (0,0,0,0))=true∧(i=0→((x.getD i []).getD j (0,0,0,0)).1≠1)∧(((x.getD i []).getD j (0,0,0,0)).1≠9→((x.getD i []).getD j (0,0,0,0)).2.2.2<x.length):=by
  intro i hi
  have hc:=all i hi
  rw[bAnd_eq,bAnd_eq,Bool.and_eq_true,Bool.and_eq_true] at hc
  obtain⟨_,c1,c2⟩:=hc
  simp only[bNot_eq,iNe_eq,lLen_eq,lGet_eq,iNat_eq,Int.toNat_natCast,Bool.not_not,decide_eq_true_eq] at c1
  rw[bNot_eq,Bool.not_eq_true',iLt_eq _ (lLen _),lLen_eq,decide_eq_false_iff_not] at c2
  have hli:=(hs.2 _ (getD_mem x i [] hi)).1
  have hin:(lGet x (iNat (i:Int)) [])=x.getD i []:=by rw[lGet_eq,iNat_eq,Int.toNat_natCast]
  have all2:=scan_all c2 (by show ((lGet x (iNat (i:Int)) []).length:Int)≤_;rw[hin];omega) (fun j hj hc=>by
   simp only[bAnd_eq,iLt_eq,lLen_eq,Bool.and_eq_true,decide_eq_true_eq] at hc
   have:=hc.1;show j<(lGet x (iNat (i:Int)) []).length;omega) (fun j hj=>rfl)
  refine⟨c1,fun j hj=>?_⟩
  have hc:=all2 j (by show j<(lGet x (iNat (i:Int)) []).length;rw[hin];exact hj)
  simp only[hin] at hc
  simp only[bAnd_eq,bNot_eq,bOr_eq,bSel_eq,iEq_eq,iNe_eq,iGe_eq,lLen_eq,lGet_eq,iNat_eq,Int.toNat_natCast,Bool.and_eq_true,Bool.not_eq_true',Bool.or_eq_false_iff,Bool.not_eq_false'] at hc
  obtain⟨_,d1,d2⟩:=hc
  refine⟨d1,fun hz=>?_,fun h9=>?_⟩
  · subst hz
    simp only[Int.ofNat_zero,Int.natCast_zero,decide_true,if_true,Bool.or_eq_false_iff,decide_eq_false_iff_not] at d2
    exact d2.1
  · split at d2
    · simp only[Bool.or_eq_false_iff,Bool.and_eq_false_iff,decide_eq_false_iff_not,Bool.not_eq_false',decide_eq_true_eq] at d2
      rcases d2.2 with d2|d2
      · exact absurd d2 h9
      · omega
    · simp only[Bool.and_eq_false_iff,decide_eq_false_iff_not,Bool.not_eq_false',decide_eq_true_eq] at d2
      rcases d2 with d2|d2
      · exact absurd d2 h9
      · omega
 exact⟨by omega,by omega,by omega,by omega,fun i hi=>(row i hi).1,fun i j hi hj=>(row i hi).2 j hj⟩
section
set_option maxRecDepth 8000
noncomputable def dc_laws_szStepS:DCode:=
 (.seq [1,0] (.region [oi 0 4 0])
 (.seq [1] (.region [om 0 5 1,
 on 1 6 0,
 oa 2 7 (.len (.t 6)),
 oa 3 8 (.bin .sub (.t 5) (.t 7)),
 om 4 1 8])
  (.seq [1] (.seq [10,1] (.region [om 0 9 1,
 oa 1 10 (.bin .lss (.t 9) (.c (.int .i64 0)))])
  (.cond (.t 10) (.seq [4] (.region [oi 0 4 (-1)])
  .ret) .skip))
  (.seq [4] (.region [om 0 11 1,
 om 1 4 11])
  .ret))))
noncomputable def df_laws_szStepS:DFun:=⟨2,12,0,true,[.tmp 4],dc_laws_szStepS⟩
noncomputable def pf_laws_szStepS:PFun:=df_laws_szStepS.er
noncomputable def f_laws_szStepS:AFun:=pf_laws_szStepS.er
@[irreducible] noncomputable def s_laws_szStepS:CallSem:=funSem f_laws_szStepS
@[irreducible] noncomputable def p_laws_szStepS:PSem:=pfunSem pf_laws_szStepS
theorem sp_laws_szStepS:SoundP s_laws_szStepS p_laws_szStepS:=by unfold s_laws_szStepS p_laws_szStepS;exact pfun_sound (f:=pf_laws_szStepS) trivial
def h_laws_szStepS:List HT:=[.one .frz (.sl rI3),.one .frz (.int .i64)]
def q_laws_szStepS:QT:=.one (.one .own (.int .i64))
@[irreducible] noncomputable def v_laws_szStepS(x:(List (Int×Int×Int))×Int):Int:=(shut fun x=>fnV df_laws_szStepS h_laws_szStepS q_laws_szStepS x).1 x
@[irreducible] noncomputable def ok_laws_szStepS(x:(List (Int×Int×Int))×Int):Prop:=(shut fun x=>fnOk df_laws_szStepS h_laws_szStepS q_laws_szStepS x).1 x
theorem vu_laws_szStepS (x):v_laws_szStepS x=fnV df_laws_szStepS h_laws_szStepS q_laws_szStepS x:=by unfold v_laws_szStepS;exact congrFun (shut _).2 x
theorem ou_laws_szStepS (x):ok_laws_szStepS x=fnOk df_laws_szStepS h_laws_szStepS q_laws_szStepS x:=by unfold ok_laws_szStepS;exact congrFun (shut _).2 x
noncomputable def D_laws_szStepS:DSem:=DSemOf h_laws_szStepS q_laws_szStepS ok_laws_szStepS v_laws_szStepS
theorem ck_laws_szStepS(x:(List (Int×Int×Int))×Int):fnChk df_laws_szStepS h_laws_szStepS q_laws_szStepS x=true:=by kernel_rfl
theorem ob_laws_szStepS:AllD df_laws_szStepS.body.obs:=trivial
theorem st_laws_szStepS:fnSt df_laws_szStepS h_laws_szStepS q_laws_szStepS=true:=by kernel_rfl
theorem sd_laws_szStepS:SoundD p_laws_szStepS D_laws_szStepS:=by unfold p_laws_szStepS;exact soundD_of (f:=df_laws_szStepS) (hs:=h_laws_szStepS) (q:=q_laws_szStepS) ob_laws_szStepS st_laws_szStepS ck_laws_szStepS (fun x h=>Eq.mp (ou_laws_szStepS x) h) (fun x=>(vu_laws_szStepS x).symm)
noncomputable def dc_laws_szStepSS:DCode:=
 (.seq [1,0] (.region [oi 0 4 0])
 (.seq [1,0] (.region [om 0 6 1,
 on 1 7 0,
 oa 2 8 (.len (.t 7)),
 oa 3 9 (.bin .sub (.t 6) (.t 8)),
 om 4 1 9])
  (.seq [1,0] (.seq [11,1,0] (.region [om 0 10 1,
 oa 1 11 (.bin .lss (.t 10) (.c (.int .i64 0)))])
  (.cond (.t 11) (.seq [4] (.region [oi 0 4 (-1)])
  .ret) .skip))
  (.seq [1] (.seq [5,1,0] (.region [oi 0 5 0])
  (.block 0 (.loop [0,1,5] 1 (.seq [5,1,0] (.seq [15,5,1,0] (.region [om 0 12 5,
 on 1 13 0,
 oa 2 14 (.len (.t 13)),
 oa 3 15 (.bin .lss (.t 12) (.t 14))])
  (.cond (.t 15) .skip (.exit 0)))
  (.seq [5,1,0] (.block 1 (.seq [5,1,0] (.region [on 0 18 0,
 om 1 19 5,
 oa 2 20 (.indexA 1 (.t 18) (.t 19)),
 oa 3 21 (.loadH none (.t 20)),
 om 4 22 1,
 oc 5 23 s_laws_szStepS p_laws_szStepS D_laws_szStepS [(.t 21),(.t 22)],
 om 6 1 23])
  (.seq [25,5,1,0] (.region [om 0 24 1,
 oa 1 25 (.bin .lss (.t 24) (.c (.int .i64 0)))])
  (.cond (.t 25) (.seq [4] (.region [oi 0 4 (-1)])
  .ret) .skip))))
  (.region [om 0 16 5,
 oa 1 17 (.bin .add (.t 16) (.c (.int .i64 1))),
 om 2 5 17]))))))
  (.seq [4] (.region [om 0 26 1,
 om 1 4 26])
  .ret)))))
noncomputable def df_laws_szStepSS:DFun:=⟨2,27,0,true,[.tmp 4],dc_laws_szStepSS⟩
noncomputable def pf_laws_szStepSS:PFun:=df_laws_szStepSS.er
noncomputable def f_laws_szStepSS:AFun:=pf_laws_szStepSS.er
@[irreducible] noncomputable def s_laws_szStepSS:CallSem:=funSem f_laws_szStepSS
@[irreducible] noncomputable def p_laws_szStepSS:PSem:=pfunSem pf_laws_szStepSS
theorem sp_laws_szStepSS:SoundP s_laws_szStepSS p_laws_szStepSS:=by unfold s_laws_szStepSS p_laws_szStepSS;exact pfun_sound (f:=pf_laws_szStepSS) ⟨sp_laws_szStepS,trivial⟩
def h_laws_szStepSS:List HT:=[.one .frz (.sl (.one (.sl rI3))),.one .frz (.int .i64)]
def q_laws_szStepSS:QT:=.one (.one .own (.int .i64))
@[irreducible] noncomputable def v_laws_szStepSS(x:(List (List (Int×Int×Int)))×Int):Int:=(shut fun x=>fnV df_laws_szStepSS h_laws_szStepSS q_laws_szStepSS x).1 x
@[irreducible] noncomputable def ok_laws_szStepSS(x:(List (List (Int×Int×Int)))×Int):Prop:=(shut fun x=>fnOk df_laws_szStepSS h_laws_szStepSS q_laws_szStepSS x).1 x
theorem vu_laws_szStepSS (x):v_laws_szStepSS x=fnV df_laws_szStepSS h_laws_szStepSS q_laws_szStepSS x:=by unfold v_laws_szStepSS;exact congrFun (shut _).2 x
theorem ou_laws_szStepSS (x):ok_laws_szStepSS x=fnOk df_laws_szStepSS h_laws_szStepSS q_laws_szStepSS x:=by unfold ok_laws_szStepSS;exact congrFun (shut _).2 x
noncomputable def D_laws_szStepSS:DSem:=DSemOf h_laws_szStepSS q_laws_szStepSS ok_laws_szStepSS v_laws_szStepSS
theorem ck_laws_szStepSS(x:(List (List (Int×Int×Int)))×Int):fnChk df_laws_szStepSS h_laws_szStepSS q_laws_szStepSS x=true:=by kernel_rfl
theorem ob_laws_szStepSS:AllD df_laws_szStepSS.body.obs:=⟨sd_laws_szStepS,trivial⟩
theorem st_laws_szStepSS:fnSt df_laws_szStepSS h_laws_szStepSS q_laws_szStepSS=true:=by kernel_rfl
theorem sd_laws_szStepSS:SoundD p_laws_szStepSS D_laws_szStepSS:=by unfold p_laws_szStepSS;exact soundD_of (f:=df_laws_szStepSS) (hs:=h_laws_szStepSS) (q:=q_laws_szStepSS) ob_laws_szStepSS st_laws_szStepSS ck_laws_szStepSS (fun x h=>Eq.mp (ou_laws_szStepSS x) h) (fun x=>(vu_laws_szStepSS x).symm)
noncomputable def dc_laws_szEngine:DCode:=
 (.seq [2,1] (.region [oa 0 2 (.boxB 0 7 (.t 0)),
 oi 1 4 0])
  (.seq [2,1] (.region [oa 0 5 (.fieldA 0 (.t 2)),
 oa 1 6 (.loadB 0 (some 2) (.t 5)),
 om 2 7 1,
 oc 3 8 s_laws_szKeymap p_laws_szKeymap D_laws_szKeymap [(.t 6),(.t 7)],
 om 4 1 8])
  (.seq [2,1] (.seq [10,2,1] (.region [om 0 9 1,
 oa 1 10 (.bin .lss (.t 9) (.c (.int .i64 0)))])
  (.cond (.t 10) (.seq [4] (.region [oi 0 4 (-1)])
  .ret) .skip))
  (.seq [2,1] (.region [oa 0 11 (.fieldA 2 (.t 2)),
 oa 1 12 (.loadB 0 none (.t 11)),
 om 2 13 1,
 oc 3 14 s_laws_szStepSS p_laws_szStepSS D_laws_szStepSS [(.t 12),(.t 13)],
 om 4 1 14])
  (.seq [2,1] (.seq [16,2,1] (.region [om 0 15 1,
 oa 1 16 (.bin .lss (.t 15) (.c (.int .i64 0)))])
  (.cond (.t 16) (.seq [4] (.region [oi 0 4 (-1)])
  .ret) .skip))
  (.seq [1] (.region [oa 0 17 (.fieldA 4 (.t 2)),
 oa 1 18 (.loadB 0 none (.t 17)),
 om 2 19 1,
 oc 3 20 s_laws_szHeldS p_laws_szHeldS D_laws_szHeldS [(.t 18),(.t 19)],
 om 4 1 20])
  (.seq [1] (.seq [22,1] (.region [om 0 21 1,
 oa 1 22 (.bin .lss (.t 21) (.c (.int .i64 0)))])
  (.cond (.t 22) (.seq [4] (.region [oi 0 4 (-1)])
  .ret) .skip))
  (.seq [4] (.region [om 0 23 1,
 om 1 4 23])
  .ret))))))))
noncomputable def df_laws_szEngine:DFun:=⟨2,24,1,true,[.tmp 4],dc_laws_szEngine⟩
noncomputable def pf_laws_szEngine:PFun:=df_laws_szEngine.er
noncomputable def f_laws_szEngine:AFun:=pf_laws_szEngine.er
@[irreducible] noncomputable def s_laws_szEngine:CallSem:=funSem f_laws_szEngine
@[irreducible] noncomputable def p_laws_szEngine:PSem:=pfunSem pf_laws_szEngine
theorem sp_laws_szEngine:SoundP s_laws_szEngine p_laws_szEngine:=by unfold s_laws_szEngine p_laws_szEngine;exact pfun_sound (f:=pf_laws_szEngine) ⟨sp_laws_szKeymap,sp_laws_szStepSS,sp_laws_szHeldS,trivial⟩
def h_laws_szEngine:List HT:=[.agg [(.frz,.int .i64),(.frz,.sl (.one (.sl rI4))),(.frz,.sl (.one (.sl rI3))),(.frz,.int .i64),(.frz,.sl rI5),(.frz,.int .i64),(.frz,.bool)],.one .frz (.int .i64)]
def q_laws_szEngine:QT:=.one (.one .own (.int .i64))
@[irreducible] noncomputable def v_laws_szEngine(x:(Int×(List (List (Int×Int×Int×Int)))×(List (List (Int×Int×Int)))×Int×(List (Int×Int×Int×Int×Int))×Int×Bool)×Int):Int:=(shut fun x=>fnV df_laws_szEngine h_laws_szEngine q_laws_szEngine x).1 x
@[irreducible] noncomputable def ok_laws_szEngine(x:(Int×(List (List (Int×Int×Int×Int)))×(List (List (Int×Int×Int)))×Int×(List (Int×Int×Int×Int×Int))×Int×Bool)×Int):Prop:=(shut fun x=>fnOk df_laws_szEngine h_laws_szEngine q_laws_szEngine x).1 x
theorem vu_laws_szEngine (x):v_laws_szEngine x=fnV df_laws_szEngine h_laws_szEngine q_laws_szEngine x:=by unfold v_laws_szEngine;exact congrFun (shut _).2 x
theorem ou_laws_szEngine (x):ok_laws_szEngine x=fnOk df_laws_szEngine h_laws_szEngine q_laws_szEngine x:=by unfold ok_laws_szEngine;exact congrFun (shut _).2 x
noncomputable def D_laws_szEngine:DSem:=DSemOf h_laws_szEngine q_laws_szEngine ok_laws_szEngine v_laws_szEngine
theorem ck_laws_szEngine(x:(Int×(List (List (Int×Int×Int×Int)))×(List (List (Int×Int×Int)))×Int×(List (Int×Int×Int×Int×Int))×Int×Bool)×Int):fnChk df_laws_szEngine h_laws_szEngine q_laws_szEngine x=true:=by kernel_rfl
theorem ob_laws_szEngine:AllD df_laws_szEngine.body.obs:=⟨sd_laws_szKeymap,sd_laws_szStepSS,sd_laws_szHeldS,trivial⟩
theorem st_laws_szEngine:fnSt df_laws_szEngine h_laws_szEngine q_laws_szEngine=true:=by kernel_rfl
theorem sd_laws_szEngine:SoundD p_laws_szEngine D_laws_szEngine:=by unfold p_laws_szEngine;exact soundD_of (f:=df_laws_szEngine) (hs:=h_laws_szEngine) (q:=q_laws_szEngine) ob_laws_szEngine st_laws_szEngine ck_laws_szEngine (fun x h=>Eq.mp (ou_laws_szEngine x) h) (fun x=>(vu_laws_szEngine x).symm)
noncomputable def dc_laws_toStep:DCode:=
 (.seq [2,1] (.region [oa 0 1 (.boxB 0 3 (.t 0)),
 oa 1 2 (.allocB 1 [(.int .i64 0),(.int .i64 0),(.int .i64 0)])])
  (.seq [3,2,1] (.region [oa 0 3 (.allocB 2 [(.int .i64 0),(.int .i64 0),(.int .i64 0)])])
  (.seq [3,2,1] (.region [oa 0 4 (.fieldA 0 (.t 1)),
 ob 1 5 (.loadB 0 none (.t 4)),
 oa 2 6 (.fieldA 0 (.t 3)),
 os 3 (.storeB 2 1 (.t 6) (.t 5))])
  (.seq [3,2,1] (.region [oa 0 7 (.fieldA 1 (.t 1)),
 ob 1 8 (.loadB 0 none (.t 7)),
 oa 2 9 (.fieldA 1 (.t 3)),
 os 3 (.storeB 2 1 (.t 9) (.t 8))])
  (.seq [3,2] (.region [oa 0 10 (.fieldA 2 (.t 1)),
 ob 1 11 (.loadB 0 none (.t 10)),
 oa 2 12 (.fieldA 2 (.t 3)),
 os 3 (.storeB 2 1 (.t 12) (.t 11))])
  (.seq [2] (.region [ob 0 13 (.loadB 2 (some 3) (.t 3)),
 os 1 (.storeB 1 3 (.t 2) (.t 13))])
  .ret))))))
noncomputable def df_laws_toStep:DFun:=⟨1,14,3,true,[.cell 2 (some 3)],dc_laws_toStep⟩
noncomputable def pf_laws_toStep:PFun:=df_laws_toStep.er
noncomputable def f_laws_toStep:AFun:=pf_laws_toStep.er
@[irreducible] noncomputable def s_laws_toStep:CallSem:=funSem f_laws_toStep
@[irreducible] noncomputable def p_laws_toStep:PSem:=pfunSem pf_laws_toStep
theorem sp_laws_toStep:SoundP s_laws_toStep p_laws_toStep:=by unfold s_laws_toStep p_laws_toStep;exact pfun_sound (f:=pf_laws_toStep) trivial
def h_laws_toStep:List HT:=[.agg [(.frz,.int .i64),(.frz,.int .i64),(.frz,.int .i64)]]
def q_laws_toStep:QT:=.one (.agg [(.own,.int .i64),(.own,.int .i64),(.own,.int .i64)])
@[irreducible] noncomputable def v_laws_toStep(x:Int×Int×Int):Int×Int×Int:=(shut fun x=>fnV df_laws_toStep h_laws_toStep q_laws_toStep x).1 x
@[irreducible] noncomputable def ok_laws_toStep(x:Int×Int×Int):Prop:=(shut fun x=>fnOk df_laws_toStep h_laws_toStep q_laws_toStep x).1 x
theorem vu_laws_toStep (x):v_laws_toStep x=fnV df_laws_toStep h_laws_toStep q_laws_toStep x:=by unfold v_laws_toStep;exact congrFun (shut _).2 x
theorem ou_laws_toStep (x):ok_laws_toStep x=fnOk df_laws_toStep h_laws_toStep q_laws_toStep x:=by unfold ok_laws_toStep;exact congrFun (shut _).2 x
noncomputable def D_laws_toStep:DSem:=DSemOf h_laws_toStep q_laws_toStep ok_laws_toStep v_laws_toStep
theorem ck_laws_toStep(x:Int×Int×Int):fnChk df_laws_toStep h_laws_toStep q_laws_toStep x=true:=by kernel_rfl
theorem ob_laws_toStep:AllD df_laws_toStep.body.obs:=trivial
theorem st_laws_toStep:fnSt df_laws_toStep h_laws_toStep q_laws_toStep=true:=by kernel_rfl
theorem sd_laws_toStep:SoundD p_laws_toStep D_laws_toStep:=by unfold p_laws_toStep;exact soundD_of (f:=df_laws_toStep) (hs:=h_laws_toStep) (q:=q_laws_toStep) ob_laws_toStep st_laws_toStep ck_laws_toStep (fun x h=>Eq.mp (ou_laws_toStep x) h) (fun x=>(vu_laws_toStep x).symm)
noncomputable def dc_laws_toStepS:DCode:=
 (.seq [0] (.region [oa 0 2 (.mv (.c .nils))])
 (.seq [3,0] (.region [on 0 5 0,
 oa 1 6 (.len (.t 5)),
 ⟨2,some 7,.a false (.mkSlice 3 [(.int .i64 0),(.int .i64 0),(.int .i64 0)] (.t 6)) (some rI3),none,[]⟩,
 om 3 3 7])
  (.seq [3] (.seq [4,3,0] (.region [oi 0 4 0])
  (.block 0 (.loop [0,3,4] 1 (.seq [4,3,0] (.seq [11,4,3,0] (.region [om 0 8 4,
 on 1 9 0,
 oa 2 10 (.len (.t 9)),
 oa 3 11 (.bin .lss (.t 8) (.t 10))])
  (.cond (.t 11) .skip (.exit 0)))
  (.seq [4,3,0] (.block 1 (.region [on 0 14 3,
 om 1 15 4,
 on 2 16 0,
 om 3 17 4,
 oa 4 18 (.indexA 3 (.t 16) (.t 17)),
 oa 5 19 (.loadH (some 3) (.t 18)),
 oc 6 20 s_laws_toStep p_laws_toStep D_laws_toStep [(.t 19)],
 oa 7 21 (.indexA 3 (.t 14) (.t 15)),
 os 8 (.storeH 3 (.t 21) (.t 20))]))
  (.region [om 0 12 4,
 oa 1 13 (.bin .add (.t 12) (.c (.int .i64 1))),
 om 2 4 13]))))))
  (.seq [2] (.region [om 0 22 3,
 om 1 2 22])
  .ret))))
noncomputable def df_laws_toStepS:DFun:=⟨1,23,0,false,[.tmp 2],dc_laws_toStepS⟩
noncomputable def pf_laws_toStepS:PFun:=df_laws_toStepS.er
noncomputable def f_laws_toStepS:AFun:=pf_laws_toStepS.er
@[irreducible] noncomputable def s_laws_toStepS:CallSem:=funSem f_laws_toStepS
@[irreducible] noncomputable def p_laws_toStepS:PSem:=pfunSem pf_laws_toStepS
theorem sp_laws_toStepS:SoundP s_laws_toStepS p_laws_toStepS:=by unfold s_laws_toStepS p_laws_toStepS;exact pfun_sound (f:=pf_laws_toStepS) ⟨sp_laws_toStep,trivial⟩
def h_laws_toStepS:List HT:=[.one .frz (.sl rI3)]
def q_laws_toStepS:QT:=.one (.one .own (.sl rI3))
@[irreducible] noncomputable def v_laws_toStepS(x:List (Int×Int×Int)):List (Int×Int×Int):=(shut fun x=>fnV df_laws_toStepS h_laws_toStepS q_laws_toStepS x).1 x
@[irreducible] noncomputable def ok_laws_toStepS(x:List (Int×Int×Int)):Prop:=(shut fun x=>fnOk df_laws_toStepS h_laws_toStepS q_laws_toStepS x).1 x
theorem vu_laws_toStepS (x):v_laws_toStepS x=fnV df_laws_toStepS h_laws_toStepS q_laws_toStepS x:=by unfold v_laws_toStepS;exact congrFun (shut _).2 x
theorem ou_laws_toStepS (x):ok_laws_toStepS x=fnOk df_laws_toStepS h_laws_toStepS q_laws_toStepS x:=by unfold ok_laws_toStepS;exact congrFun (shut _).2 x
noncomputable def D_laws_toStepS:DSem:=DSemOf h_laws_toStepS q_laws_toStepS ok_laws_toStepS v_laws_toStepS
theorem ck_laws_toStepS(x:List (Int×Int×Int)):fnChk df_laws_toStepS h_laws_toStepS q_laws_toStepS x=true:=by kernel_rfl
theorem ob_laws_toStepS:AllD df_laws_toStepS.body.obs:=⟨sd_laws_toStep,trivial⟩
theorem st_laws_toStepS:fnSt df_laws_toStepS h_laws_toStepS q_laws_toStepS=true:=by kernel_rfl
theorem sd_laws_toStepS:SoundD p_laws_toStepS D_laws_toStepS:=by unfold p_laws_toStepS;exact soundD_of (f:=df_laws_toStepS) (hs:=h_laws_toStepS) (q:=q_laws_toStepS) ob_laws_toStepS st_laws_toStepS ck_laws_toStepS (fun x h=>Eq.mp (ou_laws_toStepS x) h) (fun x=>(vu_laws_toStepS x).symm)
noncomputable def dc_laws_toStepSS:DCode:=
 (.seq [0] (.region [oa 0 2 (.mv (.c .nils))])
 (.seq [3,0] (.region [on 0 5 0,
 oa 1 6 (.len (.t 5)),
 ⟨2,some 7,.a false (.mkSlice 1 [.nils] (.t 6)) (some (.one (.sl rI3))),none,[]⟩,
 om 3 3 7])
  (.seq [3] (.seq [4,3,0] (.region [oi 0 4 0])
  (.block 0 (.loop [0,3,4] 1 (.seq [4,3,0] (.seq [11,4,3,0] (.region [om 0 8 4,
 on 1 9 0,
 oa 2 10 (.len (.t 9)),
 oa 3 11 (.bin .lss (.t 8) (.t 10))])
  (.cond (.t 11) .skip (.exit 0)))
  (.seq [4,3,0] (.block 1 (.region [on 0 14 3,
 om 1 15 4,
 on 2 16 0,
 om 3 17 4,
 oa 4 18 (.indexA 1 (.t 16) (.t 17)),
 oa 5 19 (.loadH none (.t 18)),
 oc 6 20 s_laws_toStepS p_laws_toStepS D_laws_toStepS [(.t 19)],
 oa 7 21 (.indexA 1 (.t 14) (.t 15)),
 os 8 (.storeH 1 (.t 21) (.t 20))]))
  (.region [om 0 12 4,
 oa 1 13 (.bin .add (.t 12) (.c (.int .i64 1))),
 om 2 4 13]))))))
  (.seq [2] (.region [om 0 22 3,
 om 1 2 22])
  .ret))))
noncomputable def df_laws_toStepSS:DFun:=⟨1,23,0,false,[.tmp 2],dc_laws_toStepSS⟩
noncomputable def pf_laws_toStepSS:PFun:=df_laws_toStepSS.er
noncomputable def f_laws_toStepSS:AFun:=pf_laws_toStepSS.er
@[irreducible] noncomputable def s_laws_toStepSS:CallSem:=funSem f_laws_toStepSS
@[irreducible] noncomputable def p_laws_toStepSS:PSem:=pfunSem pf_laws_toStepSS
theorem sp_laws_toStepSS:SoundP s_laws_toStepSS p_laws_toStepSS:=by unfold s_laws_toStepSS p_laws_toStepSS;exact pfun_sound (f:=pf_laws_toStepSS) ⟨sp_laws_toStepS,trivial⟩
def h_laws_toStepSS:List HT:=[.one .frz (.sl (.one (.sl rI3)))]
def q_laws_toStepSS:QT:=.one (.one .own (.sl (.one (.sl rI3))))
@[irreducible] noncomputable def v_laws_toStepSS(x:List (List (Int×Int×Int))):List (List (Int×Int×Int)):=(shut fun x=>fnV df_laws_toStepSS h_laws_toStepSS q_laws_toStepSS x).1 x
@[irreducible] noncomputable def ok_laws_toStepSS(x:List (List (Int×Int×Int))):Prop:=(shut fun x=>fnOk df_laws_toStepSS h_laws_toStepSS q_laws_toStepSS x).1 x
theorem vu_laws_toStepSS (x):v_laws_toStepSS x=fnV df_laws_toStepSS h_laws_toStepSS q_laws_toStepSS x:=by unfold v_laws_toStepSS;exact congrFun (shut _).2 x
theorem ou_laws_toStepSS (x):ok_laws_toStepSS x=fnOk df_laws_toStepSS h_laws_toStepSS q_laws_toStepSS x:=by unfold ok_laws_toStepSS;exact congrFun (shut _).2 x
noncomputable def D_laws_toStepSS:DSem:=DSemOf h_laws_toStepSS q_laws_toStepSS ok_laws_toStepSS v_laws_toStepSS
theorem ck_laws_toStepSS(x:List (List (Int×Int×Int))):fnChk df_laws_toStepSS h_laws_toStepSS q_laws_toStepSS x=true:=by kernel_rfl
theorem ob_laws_toStepSS:AllD df_laws_toStepSS.body.obs:=⟨sd_laws_toStepS,trivial⟩
theorem st_laws_toStepSS:fnSt df_laws_toStepSS h_laws_toStepSS q_laws_toStepSS=true:=by kernel_rfl
theorem sd_laws_toStepSS:SoundD p_laws_toStepSS D_laws_toStepSS:=by unfold p_laws_toStepSS;exact soundD_of (f:=df_laws_toStepSS) (hs:=h_laws_toStepSS) (q:=q_laws_toStepSS) ob_laws_toStepSS st_laws_toStepSS ck_laws_toStepSS (fun x h=>Eq.mp (ou_laws_toStepSS x) h) (fun x=>(vu_laws_toStepSS x).symm)
noncomputable def dc_laws_toEngine:DCode:=
 (.seq [2,1] (.region [oa 0 1 (.boxB 0 7 (.t 0)),
 oa 1 2 (.allocB 1 [(.int .i64 0),.nils,.nils,(.int .i64 0),.nils,(.int .i64 0),(.bool false)])])
  (.seq [3,2,1] (.region [oa 0 3 (.allocB 2 [(.int .i64 0),.nils,.nils,(.int .i64 0),.nils,(.int .i64 0),(.bool false)])])
  (.seq [3,2,1] (.region [oa 0 4 (.fieldA 0 (.t 1)),
 oa 1 5 (.loadB 0 (some 2) (.t 4)),
 oc 2 6 s_laws_toKeymap p_laws_toKeymap D_laws_toKeymap [(.t 5)],
 oa 3 7 (.fieldA 0 (.t 3)),
 os 4 (.storeB 2 2 (.t 7) (.t 6))])
  (.seq [3,2,1] (.region [oa 0 8 (.fieldA 2 (.t 1)),
 oa 1 9 (.loadB 0 none (.t 8)),
 oc 2 10 s_laws_toStepSS p_laws_toStepSS D_laws_toStepSS [(.t 9)],
 oa 3 11 (.fieldA 2 (.t 3)),
 os 4 (.storeB 2 1 (.t 11) (.t 10))])
  (.seq [3,2,1] (.region [oa 0 12 (.fieldA 3 (.t 1)),
 ob 1 13 (.loadB 0 none (.t 12)),
 oa 2 14 (.fieldA 3 (.t 3)),
 os 3 (.storeB 2 1 (.t 14) (.t 13))])
  (.seq [3,2,1] (.region [oa 0 15 (.fieldA 4 (.t 1)),
 oa 1 16 (.loadB 0 none (.t 15)),
 oc 2 17 s_laws_toHeldS p_laws_toHeldS D_laws_toHeldS [(.t 16)],
 oa 3 18 (.fieldA 4 (.t 3)),
 os 4 (.storeB 2 1 (.t 18) (.t 17))])
  (.seq [3,2,1] (.region [oa 0 19 (.fieldA 5 (.t 1)),
 ob 1 20 (.loadB 0 none (.t 19)),
 oa 2 21 (.fieldA 5 (.t 3)),
 os 3 (.storeB 2 1 (.t 21) (.t 20))])
  (.seq [3,2] (.region [oa 0 22 (.fieldA 6 (.t 1)),
 ob 1 23 (.loadB 0 none (.t 22)),
 oa 2 24 (.fieldA 6 (.t 3)),
 os 3 (.storeB 2 1 (.t 24) (.t 23))])
  (.seq [2] (.region [ob 0 25 (.loadB 2 (some 7) (.t 3)),
 os 1 (.storeB 1 7 (.t 2) (.t 25))])
  .ret)))))))))
noncomputable def df_laws_toEngine:DFun:=⟨1,26,3,false,[.cell 2 (some 7)],dc_laws_toEngine⟩
noncomputable def pf_laws_toEngine:PFun:=df_laws_toEngine.er
noncomputable def f_laws_toEngine:AFun:=pf_laws_toEngine.er
@[irreducible] noncomputable def s_laws_toEngine:CallSem:=funSem f_laws_toEngine
@[irreducible] noncomputable def p_laws_toEngine:PSem:=pfunSem pf_laws_toEngine
theorem sp_laws_toEngine:SoundP s_laws_toEngine p_laws_toEngine:=by unfold s_laws_toEngine p_laws_toEngine;exact pfun_sound (f:=pf_laws_toEngine) ⟨sp_laws_toKeymap,sp_laws_toStepSS,sp_laws_toHeldS,trivial⟩
def h_laws_toEngine:List HT:=[.agg [(.frz,.int .i64),(.frz,.sl (.one (.sl rI4))),(.frz,.sl (.one (.sl rI3))),(.frz,.int .i64),(.frz,.sl rI5),(.frz,.int .i64),(.frz,.bool)]]
def q_laws_toEngine:QT:=.one (.agg [(.own,.int .i64),(.own,.sl (.one (.sl rI4))),(.own,.sl (.one (.sl rI3))),(.own,.int .i64),(.own,.sl rI5),(.own,.int .i64),(.own,.bool)])
@[irreducible] noncomputable def v_laws_toEngine(x:Int×(List (List (Int×Int×Int×Int)))×(List (List (Int×Int×Int)))×Int×(List (Int×Int×Int×Int×Int))×Int×Bool):Int×(List (List (Int×Int×Int×Int)))×(List (List (Int×Int×Int)))×Int×(List (Int×Int×Int×Int×Int))×Int×Bool:=(shut fun x=>fnV df_laws_toEngine h_laws_toEngine q_laws_toEngine x).1 x
@[irreducible] noncomputable def ok_laws_toEngine(x:Int×(List (List (Int×Int×Int×Int)))×(List (List (Int×Int×Int)))×Int×(List (Int×Int×Int×Int×Int))×Int×Bool):Prop:=(shut fun x=>fnOk df_laws_toEngine h_laws_toEngine q_laws_toEngine x).1 x
theorem vu_laws_toEngine (x):v_laws_toEngine x=fnV df_laws_toEngine h_laws_toEngine q_laws_toEngine x:=by unfold v_laws_toEngine;exact congrFun (shut _).2 x
theorem ou_laws_toEngine (x):ok_laws_toEngine x=fnOk df_laws_toEngine h_laws_toEngine q_laws_toEngine x:=by unfold ok_laws_toEngine;exact congrFun (shut _).2 x
noncomputable def D_laws_toEngine:DSem:=DSemOf h_laws_toEngine q_laws_toEngine ok_laws_toEngine v_laws_toEngine
theorem ck_laws_toEngine(x:Int×(List (List (Int×Int×Int×Int)))×(List (List (Int×Int×Int)))×Int×(List (Int×Int×Int×Int×Int))×Int×Bool):fnChk df_laws_toEngine h_laws_toEngine q_laws_toEngine x=true:=by kernel_rfl
theorem ob_laws_toEngine:AllD df_laws_toEngine.body.obs:=⟨sd_laws_toKeymap,sd_laws_toStepSS,sd_laws_toHeldS,trivial⟩
theorem st_laws_toEngine:fnSt df_laws_toEngine h_laws_toEngine q_laws_toEngine=true:=by kernel_rfl
theorem sd_laws_toEngine:SoundD p_laws_toEngine D_laws_toEngine:=by unfold p_laws_toEngine;exact soundD_of (f:=df_laws_toEngine) (hs:=h_laws_toEngine) (q:=q_laws_toEngine) ob_laws_toEngine st_laws_toEngine ck_laws_toEngine (fun x h=>Eq.mp (ou_laws_toEngine x) h) (fun x=>(vu_laws_toEngine x).symm)
noncomputable def dc_laws_eqStep:DCode:=
 (.seq [3,2] (.region [oa 0 2 (.boxB 0 3 (.t 0)),
 oa 1 3 (.boxB 1 3 (.t 1)),
 oa 2 4 (.mv (.c (.bool false)))])
  (.seq [3,2] (.seq [9,3,2] (.region [oa 0 5 (.fieldA 0 (.t 2)),
 oa 1 6 (.loadB 0 none (.t 5)),
 oa 2 7 (.fieldA 0 (.t 3)),
 oa 3 8 (.loadB 1 none (.t 7)),
 oa 4 9 (.bin .neq (.t 6) (.t 8))])
  (.cond (.t 9) (.seq [4] (.region [oa 0 4 (.mv (.c (.bool false)))])
  .ret) .skip))
  (.seq [3,2] (.seq [14,3,2] (.region [oa 0 10 (.fieldA 1 (.t 2)),
 oa 1 11 (.loadB 0 none (.t 10)),
 oa 2 12 (.fieldA 1 (.t 3)),
 oa 3 13 (.loadB 1 none (.t 12)),
 oa 4 14 (.bin .neq (.t 11) (.t 13))])
  (.cond (.t 14) (.seq [4] (.region [oa 0 4 (.mv (.c (.bool false)))])
  .ret) .skip))
  (.seq [] (.seq [19] (.region [oa 0 15 (.fieldA 2 (.t 2)),
 oa 1 16 (.loadB 0 none (.t 15)),
 oa 2 17 (.fieldA 2 (.t 3)),
 oa 3 18 (.loadB 1 none (.t 17)),
 oa 4 19 (.bin .neq (.t 16) (.t 18))])
  (.cond (.t 19) (.seq [4] (.region [oa 0 4 (.mv (.c (.bool false)))])
  .ret) .skip))
  (.seq [4] (.region [oa 0 4 (.mv (.c (.bool true)))])
  .ret)))))
noncomputable def df_laws_eqStep:DFun:=⟨2,20,2,true,[.tmp 4],dc_laws_eqStep⟩
noncomputable def pf_laws_eqStep:PFun:=df_laws_eqStep.er
noncomputable def f_laws_eqStep:AFun:=pf_laws_eqStep.er
@[irreducible] noncomputable def s_laws_eqStep:CallSem:=funSem f_laws_eqStep
@[irreducible] noncomputable def p_laws_eqStep:PSem:=pfunSem pf_laws_eqStep
theorem sp_laws_eqStep:SoundP s_laws_eqStep p_laws_eqStep:=by unfold s_laws_eqStep p_laws_eqStep;exact pfun_sound (f:=pf_laws_eqStep) trivial
def h_laws_eqStep:List HT:=[.agg [(.frz,.int .i64),(.frz,.int .i64),(.frz,.int .i64)],.agg [(.frz,.int .i64),(.frz,.int .i64),(.frz,.int .i64)]]
def q_laws_eqStep:QT:=.one (.one .own (.bool))
@[irreducible] noncomputable def v_laws_eqStep(x:(Int×Int×Int)×(Int×Int×Int)):Bool:=(shut fun x=>fnV df_laws_eqStep h_laws_eqStep q_laws_eqStep x).1 x
@[irreducible] noncomputable def ok_laws_eqStep(x:(Int×Int×Int)×(Int×Int×Int)):Prop:=(shut fun x=>fnOk df_laws_eqStep h_laws_eqStep q_laws_eqStep x).1 x
theorem vu_laws_eqStep (x):v_laws_eqStep x=fnV df_laws_eqStep h_laws_eqStep q_laws_eqStep x:=by unfold v_laws_eqStep;exact congrFun (shut _).2 x
theorem ou_laws_eqStep (x):ok_laws_eqStep x=fnOk df_laws_eqStep h_laws_eqStep q_laws_eqStep x:=by unfold ok_laws_eqStep;exact congrFun (shut _).2 x
noncomputable def D_laws_eqStep:DSem:=DSemOf h_laws_eqStep q_laws_eqStep ok_laws_eqStep v_laws_eqStep
theorem ck_laws_eqStep(x:(Int×Int×Int)×(Int×Int×Int)):fnChk df_laws_eqStep h_laws_eqStep q_laws_eqStep x=true:=by kernel_rfl
theorem ob_laws_eqStep:AllD df_laws_eqStep.body.obs:=trivial
theorem st_laws_eqStep:fnSt df_laws_eqStep h_laws_eqStep q_laws_eqStep=true:=by kernel_rfl
theorem sd_laws_eqStep:SoundD p_laws_eqStep D_laws_eqStep:=by unfold p_laws_eqStep;exact soundD_of (f:=df_laws_eqStep) (hs:=h_laws_eqStep) (q:=q_laws_eqStep) ob_laws_eqStep st_laws_eqStep ck_laws_eqStep (fun x h=>Eq.mp (ou_laws_eqStep x) h) (fun x=>(vu_laws_eqStep x).symm)
noncomputable def dc_laws_eqStepS:DCode:=
 (.seq [1,0] (.region [oa 0 4 (.mv (.c (.bool false)))])
 (.seq [1,0] (.seq [10,1,0] (.region [on 0 6 0,
 oa 1 7 (.len (.t 6)),
 on 2 8 1,
 oa 3 9 (.len (.t 8)),
 oa 4 10 (.bin .neq (.t 7) (.t 9))])
  (.cond (.t 10) (.seq [4] (.region [oa 0 4 (.mv (.c (.bool false)))])
  .ret) .skip))
  (.seq [] (.seq [5,1,0] (.region [oi 0 5 0])
  (.block 0 (.loop [0,1,5] 1 (.seq [5,1,0] (.seq [14,5,1,0] (.region [om 0 11 5,
 on 1 12 0,
 oa 2 13 (.len (.t 12)),
 oa 3 14 (.bin .lss (.t 11) (.t 13))])
  (.cond (.t 14) .skip (.exit 0)))
  (.seq [5,1,0] (.block 1 (.seq [26,5,1,0] (.region [on 0 17 0,
 om 1 18 5,
 xA 2 19 (.indexA 3 (.t 17) (.t 18)) (rg 2),
 xA 3 20 (.loadH (some 3) (.t 19)) (rg 3),
 on 4 21 1,
 om 5 22 5,
 xA 6 23 (.indexA 3 (.t 21) (.t 22)) [4,5],
 xA 7 24 (.loadH (some 3) (.t 23)) [4,5,6],
 xC 8 25 s_laws_eqStep p_laws_eqStep D_laws_eqStep [(.t 20),(.t 24)] (rg 8),
 xA 9 26 (.un .not (.t 25)) (rg 9)])
  (.cond (.t 26) (.seq [4] (.region [oa 0 4 (.mv (.c (.bool false)))])
  .ret) .skip)))
  (.region [om 0 15 5,
 oa 1 16 (.bin .add (.t 15) (.c (.int .i64 1))),
 om 2 5 16]))))))
  (.seq [4] (.region [oa 0 4 (.mv (.c (.bool true)))])
  .ret))))
noncomputable def df_laws_eqStepS:DFun:=⟨2,27,0,true,[.tmp 4],dc_laws_eqStepS⟩
noncomputable def pf_laws_eqStepS:PFun:=df_laws_eqStepS.er
noncomputable def f_laws_eqStepS:AFun:=pf_laws_eqStepS.er
@[irreducible] noncomputable def s_laws_eqStepS:CallSem:=funSem f_laws_eqStepS
@[irreducible] noncomputable def p_laws_eqStepS:PSem:=pfunSem pf_laws_eqStepS
theorem sp_laws_eqStepS:SoundP s_laws_eqStepS p_laws_eqStepS:=by unfold s_laws_eqStepS p_laws_eqStepS;exact pfun_sound (f:=pf_laws_eqStepS) ⟨sp_laws_eqStep,trivial⟩
def h_laws_eqStepS:List HT:=[.one .frz (.sl rI3),.one .frz (.sl rI3)]
def q_laws_eqStepS:QT:=.one (.one .own (.bool))
@[irreducible] noncomputable def v_laws_eqStepS(x:(List (Int×Int×Int))×(List (Int×Int×Int))):Bool:=(shut fun x=>fnV df_laws_eqStepS h_laws_eqStepS q_laws_eqStepS x).1 x
@[irreducible] noncomputable def ok_laws_eqStepS(x:(List (Int×Int×Int))×(List (Int×Int×Int))):Prop:=(shut fun x=>fnOk df_laws_eqStepS h_laws_eqStepS q_laws_eqStepS x).1 x
theorem vu_laws_eqStepS (x):v_laws_eqStepS x=fnV df_laws_eqStepS h_laws_eqStepS q_laws_eqStepS x:=by unfold v_laws_eqStepS;exact congrFun (shut _).2 x
theorem ou_laws_eqStepS (x):ok_laws_eqStepS x=fnOk df_laws_eqStepS h_laws_eqStepS q_laws_eqStepS x:=by unfold ok_laws_eqStepS;exact congrFun (shut _).2 x
noncomputable def D_laws_eqStepS:DSem:=DSemOf h_laws_eqStepS q_laws_eqStepS ok_laws_eqStepS v_laws_eqStepS
theorem ck_laws_eqStepS(x:(List (Int×Int×Int))×(List (Int×Int×Int))):fnChk df_laws_eqStepS h_laws_eqStepS q_laws_eqStepS x=true:=by kernel_rfl
theorem ob_laws_eqStepS:AllD df_laws_eqStepS.body.obs:=⟨sd_laws_eqStep,trivial⟩
theorem st_laws_eqStepS:fnSt df_laws_eqStepS h_laws_eqStepS q_laws_eqStepS=true:=by kernel_rfl
theorem sd_laws_eqStepS:SoundD p_laws_eqStepS D_laws_eqStepS:=by unfold p_laws_eqStepS;exact soundD_of (f:=df_laws_eqStepS) (hs:=h_laws_eqStepS) (q:=q_laws_eqStepS) ob_laws_eqStepS st_laws_eqStepS ck_laws_eqStepS (fun x h=>Eq.mp (ou_laws_eqStepS x) h) (fun x=>(vu_laws_eqStepS x).symm)
noncomputable def dc_laws_eqStepSS:DCode:=
 (.seq [1,0] (.region [oa 0 4 (.mv (.c (.bool false)))])
 (.seq [1,0] (.seq [10,1,0] (.region [on 0 6 0,
 oa 1 7 (.len (.t 6)),
 on 2 8 1,
 oa 3 9 (.len (.t 8)),
 oa 4 10 (.bin .neq (.t 7) (.t 9))])
  (.cond (.t 10) (.seq [4] (.region [oa 0 4 (.mv (.c (.bool false)))])
  .ret) .skip))
  (.seq [] (.seq [5,1,0] (.region [oi 0 5 0])
  (.block 0 (.loop [0,1,5] 1 (.seq [5,1,0] (.seq [14,5,1,0] (.region [om 0 11 5,
 on 1 12 0,
 oa 2 13 (.len (.t 12)),
 oa 3 14 (.bin .lss (.t 11) (.t 13))])
  (.cond (.t 14) .skip (.exit 0)))
  (.seq [5,1,0] (.block 1 (.seq [26,5,1,0] (.region [on 0 17 0,
 om 1 18 5,
 xA 2 19 (.indexA 1 (.t 17) (.t 18)) (rg 2),
 xA 3 20 (.loadH none (.t 19)) (rg 3),
 on 4 21 1,
 om 5 22 5,
 xA 6 23 (.indexA 1 (.t 21) (.t 22)) [4,5],
 xA 7 24 (.loadH none (.t 23)) [4,5,6],
 xC 8 25 s_laws_eqStepS p_laws_eqStepS D_laws_eqStepS [(.t 20),(.t 24)] (rg 8),
 xA 9 26 (.un .not (.t 25)) (rg 9)])
  (.cond (.t 26) (.seq [4] (.region [oa 0 4 (.mv (.c (.bool false)))])
  .ret) .skip)))
  (.region [om 0 15 5,
 oa 1 16 (.bin .add (.t 15) (.c (.int .i64 1))),
 om 2 5 16]))))))
  (.seq [4] (.region [oa 0 4 (.mv (.c (.bool true)))])
  .ret))))
noncomputable def df_laws_eqStepSS:DFun:=⟨2,27,0,true,[.tmp 4],dc_laws_eqStepSS⟩
noncomputable def pf_laws_eqStepSS:PFun:=df_laws_eqStepSS.er
noncomputable def f_laws_eqStepSS:AFun:=pf_laws_eqStepSS.er
@[irreducible] noncomputable def s_laws_eqStepSS:CallSem:=funSem f_laws_eqStepSS
@[irreducible] noncomputable def p_laws_eqStepSS:PSem:=pfunSem pf_laws_eqStepSS
theorem sp_laws_eqStepSS:SoundP s_laws_eqStepSS p_laws_eqStepSS:=by unfold s_laws_eqStepSS p_laws_eqStepSS;exact pfun_sound (f:=pf_laws_eqStepSS) ⟨sp_laws_eqStepS,trivial⟩
def h_laws_eqStepSS:List HT:=[.one .frz (.sl (.one (.sl rI3))),.one .frz (.sl (.one (.sl rI3)))]
def q_laws_eqStepSS:QT:=.one (.one .own (.bool))
@[irreducible] noncomputable def v_laws_eqStepSS(x:(List (List (Int×Int×Int)))×(List (List (Int×Int×Int)))):Bool:=(shut fun x=>fnV df_laws_eqStepSS h_laws_eqStepSS q_laws_eqStepSS x).1 x
@[irreducible] noncomputable def ok_laws_eqStepSS(x:(List (List (Int×Int×Int)))×(List (List (Int×Int×Int)))):Prop:=(shut fun x=>fnOk df_laws_eqStepSS h_laws_eqStepSS q_laws_eqStepSS x).1 x
theorem vu_laws_eqStepSS (x):v_laws_eqStepSS x=fnV df_laws_eqStepSS h_laws_eqStepSS q_laws_eqStepSS x:=by unfold v_laws_eqStepSS;exact congrFun (shut _).2 x
theorem ou_laws_eqStepSS (x):ok_laws_eqStepSS x=fnOk df_laws_eqStepSS h_laws_eqStepSS q_laws_eqStepSS x:=by unfold ok_laws_eqStepSS;exact congrFun (shut _).2 x
noncomputable def D_laws_eqStepSS:DSem:=DSemOf h_laws_eqStepSS q_laws_eqStepSS ok_laws_eqStepSS v_laws_eqStepSS
theorem ck_laws_eqStepSS(x:(List (List (Int×Int×Int)))×(List (List (Int×Int×Int)))):fnChk df_laws_eqStepSS h_laws_eqStepSS q_laws_eqStepSS x=true:=by kernel_rfl
theorem ob_laws_eqStepSS:AllD df_laws_eqStepSS.body.obs:=⟨sd_laws_eqStepS,trivial⟩
theorem st_laws_eqStepSS:fnSt df_laws_eqStepSS h_laws_eqStepSS q_laws_eqStepSS=true:=by kernel_rfl
theorem sd_laws_eqStepSS:SoundD p_laws_eqStepSS D_laws_eqStepSS:=by unfold p_laws_eqStepSS;exact soundD_of (f:=df_laws_eqStepSS) (hs:=h_laws_eqStepSS) (q:=q_laws_eqStepSS) ob_laws_eqStepSS st_laws_eqStepSS ck_laws_eqStepSS (fun x h=>Eq.mp (ou_laws_eqStepSS x) h) (fun x=>(vu_laws_eqStepSS x).symm)
noncomputable def dc_laws_eqEngine:DCode:=
 (.seq [3,2] (.region [oa 0 2 (.boxB 0 7 (.t 0)),
 oa 1 3 (.boxB 1 7 (.t 1)),
 oa 2 4 (.mv (.c (.bool false)))])
  (.seq [3,2] (.seq [10,3,2] (.region [oa 0 5 (.fieldA 0 (.t 2)),
 oa 1 6 (.loadB 0 (some 2) (.t 5)),
 oa 2 7 (.fieldA 0 (.t 3)),
 oa 3 8 (.loadB 1 (some 2) (.t 7)),
 oc 4 9 s_laws_eqKeymap p_laws_eqKeymap D_laws_eqKeymap [(.t 6),(.t 8)],
 oa 5 10 (.un .not (.t 9))])
  (.cond (.t 10) (.seq [4] (.region [oa 0 4 (.mv (.c (.bool false)))])
  .ret) .skip))
  (.seq [3,2] (.seq [16,3,2] (.region [oa 0 11 (.fieldA 2 (.t 2)),
 oa 1 12 (.loadB 0 none (.t 11)),
 oa 2 13 (.fieldA 2 (.t 3)),
 oa 3 14 (.loadB 1 none (.t 13)),
 oc 4 15 s_laws_eqStepSS p_laws_eqStepSS D_laws_eqStepSS [(.t 12),(.t 14)],
 oa 5 16 (.un .not (.t 15))])
  (.cond (.t 16) (.seq [4] (.region [oa 0 4 (.mv (.c (.bool false)))])
  .ret) .skip))
  (.seq [3,2] (.seq [21,3,2] (.region [oa 0 17 (.fieldA 3 (.t 2)),
 oa 1 18 (.loadB 0 none (.t 17)),
 oa 2 19 (.fieldA 3 (.t 3)),
 oa 3 20 (.loadB 1 none (.t 19)),
 oa 4 21 (.bin .neq (.t 18) (.t 20))])
  (.cond (.t 21) (.seq [4] (.region [oa 0 4 (.mv (.c (.bool false)))])
  .ret) .skip))
  (.seq [3,2] (.seq [27,3,2] (.region [oa 0 22 (.fieldA 4 (.t 2)),
 oa 1 23 (.loadB 0 none (.t 22)),
 oa 2 24 (.fieldA 4 (.t 3)),
 oa 3 25 (.loadB 1 none (.t 24)),
 oc 4 26 s_laws_eqHeldS p_laws_eqHeldS D_laws_eqHeldS [(.t 23),(.t 25)],
 oa 5 27 (.un .not (.t 26))])
  (.cond (.t 27) (.seq [4] (.region [oa 0 4 (.mv (.c (.bool false)))])
  .ret) .skip))
  (.seq [3,2] (.seq [32,3,2] (.region [oa 0 28 (.fieldA 5 (.t 2)),
 oa 1 29 (.loadB 0 none (.t 28)),
 oa 2 30 (.fieldA 5 (.t 3)),
 oa 3 31 (.loadB 1 none (.t 30)),
 oa 4 32 (.bin .neq (.t 29) (.t 31))])
  (.cond (.t 32) (.seq [4] (.region [oa 0 4 (.mv (.c (.bool false)))])
  .ret) .skip))
  (.seq [] (.seq [37] (.region [oa 0 33 (.fieldA 6 (.t 2)),
 oa 1 34 (.loadB 0 none (.t 33)),
 oa 2 35 (.fieldA 6 (.t 3)),
 oa 3 36 (.loadB 1 none (.t 35)),
 oa 4 37 (.eqB true (.t 34) (.t 36))])
  (.cond (.t 37) (.seq [4] (.region [oa 0 4 (.mv (.c (.bool false)))])
  .ret) .skip))
  (.seq [4] (.region [oa 0 4 (.mv (.c (.bool true)))])
  .ret))))))))
noncomputable def df_laws_eqEngine:DFun:=⟨2,38,2,true,[.tmp 4],dc_laws_eqEngine⟩
noncomputable def pf_laws_eqEngine:PFun:=df_laws_eqEngine.er
noncomputable def f_laws_eqEngine:AFun:=pf_laws_eqEngine.er
@[irreducible] noncomputable def s_laws_eqEngine:CallSem:=funSem f_laws_eqEngine
@[irreducible] noncomputable def p_laws_eqEngine:PSem:=pfunSem pf_laws_eqEngine
theorem sp_laws_eqEngine:SoundP s_laws_eqEngine p_laws_eqEngine:=by unfold s_laws_eqEngine p_laws_eqEngine;exact pfun_sound (f:=pf_laws_eqEngine) ⟨sp_laws_eqKeymap,sp_laws_eqStepSS,sp_laws_eqHeldS,trivial⟩
def h_laws_eqEngine:List HT:=[.agg [(.frz,.int .i64),(.frz,.sl (.one (.sl rI4))),(.frz,.sl (.one (.sl rI3))),(.frz,.int .i64),(.frz,.sl rI5),(.frz,.int .i64),(.frz,.bool)],.agg [(.frz,.int .i64),(.frz,.sl (.one (.sl rI4))),(.frz,.sl (.one (.sl rI3))),(.frz,.int .i64),(.frz,.sl rI5),(.frz,.int .i64),(.frz,.bool)]]
def q_laws_eqEngine:QT:=.one (.one .own (.bool))
@[irreducible] noncomputable def v_laws_eqEngine(x:(Int×(List (List (Int×Int×Int×Int)))×(List (List (Int×Int×Int)))×Int×(List (Int×Int×Int×Int×Int))×Int×Bool)×(Int×(List (List (Int×Int×Int×Int)))×(List (List (Int×Int×Int)))×Int×(List (Int×Int×Int×Int×Int))×Int×Bool)):Bool:=(shut fun x=>fnV df_laws_eqEngine h_laws_eqEngine q_laws_eqEngine x).1 x
@[irreducible] noncomputable def ok_laws_eqEngine(x:(Int×(List (List (Int×Int×Int×Int)))×(List (List (Int×Int×Int)))×Int×(List (Int×Int×Int×Int×Int))×Int×Bool)×(Int×(List (List (Int×Int×Int×Int)))×(List (List (Int×Int×Int)))×Int×(List (Int×Int×Int×Int×Int))×Int×Bool)):Prop:=(shut fun x=>fnOk df_laws_eqEngine h_laws_eqEngine q_laws_eqEngine x).1 x
theorem vu_laws_eqEngine (x):v_laws_eqEngine x=fnV df_laws_eqEngine h_laws_eqEngine q_laws_eqEngine x:=by unfold v_laws_eqEngine;exact congrFun (shut _).2 x
theorem ou_laws_eqEngine (x):ok_laws_eqEngine x=fnOk df_laws_eqEngine h_laws_eqEngine q_laws_eqEngine x:=by unfold ok_laws_eqEngine;exact congrFun (shut _).2 x
noncomputable def D_laws_eqEngine:DSem:=DSemOf h_laws_eqEngine q_laws_eqEngine ok_laws_eqEngine v_laws_eqEngine
theorem ck_laws_eqEngine(x:(Int×(List (List (Int×Int×Int×Int)))×(List (List (Int×Int×Int)))×Int×(List (Int×Int×Int×Int×Int))×Int×Bool)×(Int×(List (List (Int×Int×Int×Int)))×(List (List (Int×Int×Int)))×Int×(List (Int×Int×Int×Int×Int))×Int×Bool)):fnChk df_laws_eqEngine h_laws_eqEngine q_laws_eqEngine x=true:=by kernel_rfl
theorem ob_laws_eqEngine:AllD df_laws_eqEngine.body.obs:=⟨sd_laws_eqKeymap,sd_laws_eqStepSS,sd_laws_eqHeldS,trivial⟩
theorem st_laws_eqEngine:fnSt df_laws_eqEngine h_laws_eqEngine q_laws_eqEngine=true:=by kernel_rfl
theorem sd_laws_eqEngine:SoundD p_laws_eqEngine D_laws_eqEngine:=by unfold p_laws_eqEngine;exact soundD_of (f:=df_laws_eqEngine) (hs:=h_laws_eqEngine) (q:=q_laws_eqEngine) ob_laws_eqEngine st_laws_eqEngine ck_laws_eqEngine (fun x h=>Eq.mp (ou_laws_eqEngine x) h) (fun x=>(vu_laws_eqEngine x).symm)
end
section
set_option maxRecDepth 100000
theorem ve_laws_szStepS (x):v_laws_szStepS x=(bSel (iLt (iSub .i64 x.2 (lLen x.1)) 0) (-1) (iSub .i64 x.2 (lLen x.1))):=(vu_laws_szStepS x).trans (by kernel_rfl)
theorem oe_laws_szStepS (x):ok_laws_szStepS x=True:=(ou_laws_szStepS x).trans (by kernel_rfl)
theorem ve_laws_szStepSS (x):v_laws_szStepSS x=(bSel (iLt (iSub .i64 x.2 (lLen x.1)) 0) (-1) (bSel (iLt (loopV (fun(x0:(Int×Int))=>(bAnd (iLt x0.2 (lLen x.1)) (bNot (iLt (v_laws_szStepS ((lGet x.1 (iNat x0.2) []),x0.1)) 0)))) (fun(x0:(Int×Int))=>((v_laws_szStepS ((lGet x.1 (iNat x0.2) []),x0.1)),(iAdd .i64 x0.2 1))) ((iSub .i64 x.2 (lLen x.1)),0)).2 (lLen x.1)) (-1) (loopV (fun(x0:(Int×Int))=>(bAnd (iLt x0.2 (lLen x.1)) (bNot (iLt (v_laws_szStepS ((lGet x.1 (iNat x0.2) []),x0.1)) 0)))) (fun(x0:(Int×Int))=>((v_laws_szStepS ((lGet x.1 (iNat x0.2) []),x0.1)),(iAdd .i64 x0.2 1))) ((iSub .i64 x.2 (lLen x.1)),0)).1)):=(vu_laws_szStepSS x).trans (by kernel_rfl)
theorem oe_laws_szStepSS (x):ok_laws_szStepSS x=(((iLt (iSub .i64 x.2 (lLen x.1)) 0)=true→True)∧((iLt (iSub .i64 x.2 (lLen x.1)) 0)=false→(LoopOk (fun(x0:(Int×Int))=>(bAnd (iLt x0.2 (lLen x.1)) (bNot (iLt (v_laws_szStepS ((lGet x.1 (iNat x0.2) []),x0.1)) 0)))) (fun(x0:(Int×Int))=>((v_laws_szStepS ((lGet x.1 (iNat x0.2) []),x0.1)),(iAdd .i64 x0.2 1))) (fun(x0:(Int×Int))=>(((iLt x0.2 (lLen x.1))=true→((((0:Int)≤x0.2)∧(x0.2<(((List.length x.1):Int))))∧(((iNat x0.2)<(List.length x.1))∧(ok_laws_szStepS ((lGet x.1 (iNat x0.2) []),x0.1)))))∧((iLt x0.2 (lLen x.1))=false→True))) ((iSub .i64 x.2 (lLen x.1)),0)))):=(ou_laws_szStepSS x).trans (by kernel_rfl)
theorem ve_laws_szEngine (x):v_laws_szEngine x=(bSel (iLt (v_laws_szKeymap ((x.1.1,x.1.2.1),x.2)) 0) (-1) (bSel (iLt (v_laws_szStepSS (x.1.2.2.1,(v_laws_szKeymap ((x.1.1,x.1.2.1),x.2)))) 0) (-1) (bSel (iLt (v_laws_szHeldS (x.1.2.2.2.2.1,(v_laws_szStepSS (x.1.2.2.1,(v_laws_szKeymap ((x.1.1,x.1.2.1),x.2)))))) 0) (-1) (v_laws_szHeldS (x.1.2.2.2.2.1,(v_laws_szStepSS (x.1.2.2.1,(v_laws_szKeymap ((x.1.1,x.1.2.1),x.2))))))))):=(vu_laws_szEngine x).trans (by kernel_rfl)
theorem oe_laws_szEngine (x):ok_laws_szEngine x=((ok_laws_szKeymap ((x.1.1,x.1.2.1),x.2))∧(((iLt (v_laws_szKeymap ((x.1.1,x.1.2.1),x.2)) 0)=true→True)∧((iLt (v_laws_szKeymap ((x.1.1,x.1.2.1),x.2)) 0)=false→((ok_laws_szStepSS (x.1.2.2.1,(v_laws_szKeymap ((x.1.1,x.1.2.1),x.2))))∧(((iLt (v_laws_szStepSS (x.1.2.2.1,(v_laws_szKeymap ((x.1.1,x.1.2.1),x.2)))) 0)=true→True)∧((iLt (v_laws_szStepSS (x.1.2.2.1,(v_laws_szKeymap ((x.1.1,x.1.2.1),x.2)))) 0)=false→(ok_laws_szHeldS (x.1.2.2.2.2.1,(v_laws_szStepSS (x.1.2.2.1,(v_laws_szKeymap ((x.1.1,x.1.2.1),x.2)))))))))))):=(ou_laws_szEngine x).trans (by kernel_rfl)
theorem ve_laws_toStep (x):v_laws_toStep x=(x.1,x.2.1,x.2.2):=(vu_laws_toStep x).trans (by kernel_rfl)
theorem oe_laws_toStep (x):ok_laws_toStep x=True:=(ou_laws_toStep x).trans (by kernel_rfl)
theorem ve_laws_toStepS (x):v_laws_toStepS x=(loopV (fun(x0:((List (Int×(Int×Int)))×Int))=>(iLt x0.2 (lLen x))) (fun(x0:((List (Int×(Int×Int)))×Int))=>((lSet x0.1 (iNat x0.2) ((v_laws_toStep ((lGet x (iNat x0.2) (0,0,0)).1,(lGet x (iNat x0.2) (0,0,0)).2.1,(lGet x (iNat x0.2) (0,0,0)).2.2)).1,(v_laws_toStep ((lGet x (iNat x0.2) (0,0,0)).1,(lGet x (iNat x0.2) (0,0,0)).2.1,(lGet x (iNat x0.2) (0,0,0)).2.2)).2.1,(v_laws_toStep ((lGet x (iNat x0.2) (0,0,0)).1,(lGet x (iNat x0.2) (0,0,0)).2.1,(lGet x (iNat x0.2) (0,0,0)).2.2)).2.2)),(iAdd .i64 x0.2 1))) ((lRep (lLen x) (0,0,0)),0)).1:=(vu_laws_toStepS x).trans (by kernel_rfl)
theorem oe_laws_toStepS (x):ok_laws_toStepS x=((((0:Int)≤(lLen x))∧(roomy ((Int.toNat (lLen x))*3)))∧(LoopOk (fun(x0:((List (Int×(Int×Int)))×Int))=>(iLt x0.2 (lLen x))) (fun(x0:((List (Int×(Int×Int)))×Int))=>((lSet x0.1 (iNat x0.2) ((v_laws_toStep ((lGet x (iNat x0.2) (0,0,0)).1,(lGet x (iNat x0.2) (0,0,0)).2.1,(lGet x (iNat x0.2) (0,0,0)).2.2)).1,(v_laws_toStep ((lGet x (iNat x0.2) (0,0,0)).1,(lGet x (iNat x0.2) (0,0,0)).2.1,(lGet x (iNat x0.2) (0,0,0)).2.2)).2.1,(v_laws_toStep ((lGet x (iNat x0.2) (0,0,0)).1,(lGet x (iNat x0.2) (0,0,0)).2.1,(lGet x (iNat x0.2) (0,0,0)).2.2)).2.2)),(iAdd .i64 x0.2 1))) (fun(x0:((List (Int×(Int×Int)))×Int))=>(((iLt x0.2 (lLen x))=true→((((0:Int)≤x0.2)∧(x0.2<(((List.length x):Int))))∧(((iNat x0.2)<(List.length x))∧((ok_laws_toStep ((lGet x (iNat x0.2) (0,0,0)).1,(lGet x (iNat x0.2) (0,0,0)).2.1,(lGet x (iNat x0.2) (0,0,0)).2.2))∧((((0:Int)≤x0.2)∧(x0.2<(((List.length x0.1):Int))))∧((iNat x0.2)<(List.length x0.1)))))))∧((iLt x0.2 (lLen x))=false→True))) ((lRep (lLen x) (0,0,0)),0))):=(ou_laws_toStepS x).trans (by kernel_rfl)
theorem ve_laws_toStepSS (x):v_laws_toStepSS x=(loopV (fun(x0:((List (List (Int×(Int×Int))))×Int))=>(iLt x0.2 (lLen x))) (fun(x0:((List (List (Int×(Int×Int))))×Int))=>((lSet x0.1 (iNat x0.2) (v_laws_toStepS (lGet x (iNat x0.2) []))),(iAdd .i64 x0.2 1))) ((lRep (lLen x) []),0)).1:=(vu_laws_toStepSS x).trans (by kernel_rfl)
theorem oe_laws_toStepSS (x):ok_laws_toStepSS x=((((0:Int)≤(lLen x))∧(roomy ((Int.toNat (lLen x))*1)))∧(LoopOk (fun(x0:((List (List (Int×(Int×Int))))×Int))=>(iLt x0.2 (lLen x))) (fun(x0:((List (List (Int×(Int×Int))))×Int))=>((lSet x0.1 (iNat x0.2) (v_laws_toStepS (lGet x (iNat x0.2) []))),(iAdd .i64 x0.2 1))) (fun(x0:((List (List (Int×(Int×Int))))×Int))=>(((iLt x0.2 (lLen x))=true→((((0:Int)≤x0.2)∧(x0.2<(((List.length x):Int))))∧(((iNat x0.2)<(List.length x))∧((ok_laws_toStepS (lGet x (iNat x0.2) []))∧((((0:Int)≤x0.2)∧(x0.2<(((List.length x0.1):Int))))∧((iNat x0.2)<(List.length x0.1)))))))∧((iLt x0.2 (lLen x))=false→True))) ((lRep (lLen x) []),0))):=(ou_laws_toStepSS x).trans (by kernel_rfl)
theorem ve_laws_toEngine (x):v_laws_toEngine x=((v_laws_toKeymap (x.1,x.2.1)).1,(v_laws_toKeymap (x.1,x.2.1)).2,(v_laws_toStepSS x.2.2.1),x.2.2.2.1,(v_laws_toHeldS x.2.2.2.2.1),x.2.2.2.2.2.1,x.2.2.2.2.2.2):=(vu_laws_toEngine x).trans (by kernel_rfl)
theorem oe_laws_toEngine (x):ok_laws_toEngine x=((ok_laws_toKeymap (x.1,x.2.1))∧((ok_laws_toStepSS x.2.2.1)∧(ok_laws_toHeldS x.2.2.2.2.1))):=(ou_laws_toEngine x).trans (by kernel_rfl)
theorem ve_laws_eqStep (x):v_laws_eqStep x=(bAnd (bNot (iNe x.1.1 x.2.1)) (bAnd (bNot (iNe x.1.2.1 x.2.2.1)) (bNot (iNe x.1.2.2 x.2.2.2)))):=(vu_laws_eqStep x).trans (by kernel_rfl)
theorem oe_laws_eqStep (x):ok_laws_eqStep x=True:=(ou_laws_eqStep x).trans (by kernel_rfl)
theorem ve_laws_eqStepS (x):v_laws_eqStepS x=(bAnd (bNot (iNe (lLen x.1) (lLen x.2))) (bNot (iLt (loopV (fun(x0:Int)=>(bAnd (iLt x0 (lLen x.1)) (bNot (bNot (v_laws_eqStep (((lGet x.1 (iNat x0) (0,0,0)).1,(lGet x.1 (iNat x0) (0,0,0)).2.1,(lGet x.1 (iNat x0) (0,0,0)).2.2),(lGet x.2 (iNat x0) (0,0,0)).1,(lGet x.2 (iNat x0) (0,0,0)).2.1,(lGet x.2 (iNat x0) (0,0,0)).2.2)))))) (fun(x0:Int)=>(iAdd .i64 x0 1)) 0) (lLen x.1)))):=(vu_laws_eqStepS x).trans (by kernel_rfl)
theorem oe_laws_eqStepS (x):ok_laws_eqStepS x=(((iNe (lLen x.1) (lLen x.2))=true→True)∧((iNe (lLen x.1) (lLen x.2))=false→(LoopOk (fun(x0:Int)=>(bAnd (iLt x0 (lLen x.1)) (bNot (bNot (v_laws_eqStep (((lGet x.1 (iNat x0) (0,0,0)).1,(lGet x.1 (iNat x0) (0,0,0)).2.1,(lGet x.1 (iNat x0) (0,0,0)).2.2),(lGet x.2 (iNat x0) (0,0,0)).1,(lGet x.2 (iNat x0) (0,0,0)).2.1,(lGet x.2 (iNat x0) (0,0,0)).2.2)))))) (fun(x0:Int)=>(iAdd .i64 x0 1)) (fun(x0:Int)=>(((iLt x0 (lLen x.1))=true→((((0:Int)≤x0)∧(x0<(((List.length x.1):Int))))∧(((iNat x0)<(List.length x.1))∧((((0:Int)≤x0)∧(x0<(((List.length x.2):Int))))∧(((iNat x0)<(List.length x.2))∧(ok_laws_eqStep (((lGet x.1 (iNat x0) (0,0,0)).1,(lGet x.1 (iNat x0) (0,0,0)).2.1,(lGet x.1 (iNat x0) (0,0,0)).2.2),(lGet x.2 (iNat x0) (0,0,0)).1,(lGet x.2 (iNat x0) (0,0,0)).2.1,(lGet x.2 (iNat x0) (0,0,0)).2.2)))))))∧((iLt x0 (lLen x.1))=false→True))) 0))):=(ou_laws_eqStepS x).trans (by kernel_rfl)
theorem ve_laws_eqStepSS (x):v_laws_eqStepSS x=(bAnd (bNot (iNe (lLen x.1) (lLen x.2))) (bNot (iLt (loopV (fun(x0:Int)=>(bAnd (iLt x0 (lLen x.1)) (bNot (bNot (v_laws_eqStepS ((lGet x.1 (iNat x0) []),(lGet x.2 (iNat x0) []))))))) (fun(x0:Int)=>(iAdd .i64 x0 1)) 0) (lLen x.1)))):=(vu_laws_eqStepSS x).trans (by kernel_rfl)
theorem oe_laws_eqStepSS (x):ok_laws_eqStepSS x=(((iNe (lLen x.1) (lLen x.2))=true→True)∧((iNe (lLen x.1) (lLen x.2))=false→(LoopOk (fun(x0:Int)=>(bAnd (iLt x0 (lLen x.1)) (bNot (bNot (v_laws_eqStepS ((lGet x.1 (iNat x0) []),(lGet x.2 (iNat x0) []))))))) (fun(x0:Int)=>(iAdd .i64 x0 1)) (fun(x0:Int)=>(((iLt x0 (lLen x.1))=true→((((0:Int)≤x0)∧(x0<(((List.length x.1):Int))))∧(((iNat x0)<(List.length x.1))∧((((0:Int)≤x0)∧(x0<(((List.length x.2):Int))))∧(((iNat x0)<(List.length x.2))∧(ok_laws_eqStepS ((lGet x.1 (iNat x0) []),(lGet x.2 (iNat x0) []))))))))∧((iLt x0 (lLen x.1))=false→True))) 0))):=(ou_laws_eqStepSS x).trans (by kernel_rfl)
theorem ve_laws_eqEngine (x):v_laws_eqEngine x=(bAnd (bNot (bNot (v_laws_eqKeymap ((x.1.1,x.1.2.1),x.2.1,x.2.2.1)))) (bAnd (bNot (bNot (v_laws_eqStepSS (x.1.2.2.1,x.2.2.2.1)))) (bAnd (bNot (iNe x.1.2.2.2.1 x.2.2.2.2.1)) (bAnd (bNot (bNot (v_laws_eqHeldS (x.1.2.2.2.2.1,x.2.2.2.2.2.1)))) (bAnd (bNot (iNe x.1.2.2.2.2.2.1 x.2.2.2.2.2.2.1)) (bNot (bNot (bIff x.1.2.2.2.2.2.2 x.2.2.2.2.2.2.2)))))))):=(vu_laws_eqEngine x).trans (by kernel_rfl)
theorem oe_laws_eqEngine (x):ok_laws_eqEngine x=((ok_laws_eqKeymap ((x.1.1,x.1.2.1),x.2.1,x.2.2.1))∧(((bNot (v_laws_eqKeymap ((x.1.1,x.1.2.1),x.2.1,x.2.2.1)))=true→True)∧((bNot (v_laws_eqKeymap ((x.1.1,x.1.2.1),x.2.1,x.2.2.1)))=false→((ok_laws_eqStepSS (x.1.2.2.1,x.2.2.2.1))∧(((bNot (v_laws_eqStepSS (x.1.2.2.1,x.2.2.2.1)))=true→True)∧((bNot (v_laws_eqStepSS (x.1.2.2.1,x.2.2.2.1)))=false→(((iNe x.1.2.2.2.1 x.2.2.2.2.1)=true→True)∧((iNe x.1.2.2.2.1 x.2.2.2.2.1)=false→(ok_laws_eqHeldS (x.1.2.2.2.2.1,x.2.2.2.2.2.1)))))))))):=(ou_laws_eqEngine x).trans (by kernel_rfl)
end
def sm_Step(_:Int×Int×Int):Prop:=True
def wl_Step(_:Int×Int×Int):Prop:=True
def sm_StepS(x:List (Int×Int×Int)):Prop:=x.length≤1048576∧∀ a∈x,sm_Step a
def wl_StepS(x:List (Int×Int×Int)):Prop:=x.length≤9223372036854775807∧∀ a∈x,wl_Step a
theorem sz_StepS(x:List (Int×Int×Int))(hw:wl_StepS x)(l:Int)(h0:0≤l)(h1:l≤1048576):ok_laws_szStepS (x,l)∧(v_laws_szStepS (x,l)<0∨(0≤v_laws_szStepS (x,l)∧v_laws_szStepS (x,l)≤l∧sm_StepS x)):=by
 rw[oe_laws_szStepS,ve_laws_szStepS]
 have hl:x.length≤9223372036854775807:=hw.1
 have hs:iSub .i64 l (lLen x)=l-x.length:=by rw[lLen_eq];exact iSub_i64 (by unfold In64;omega)
 refine⟨trivial,?_⟩
 simp only[hs,iLt_eq,bSel_eq,decide_eq_true_eq]
 split
 · left;omega
 · right;exact⟨by omega,by omega,⟨by omega,fun a _=>by simp[sm_Step]⟩⟩
def sm_StepSS(x:List (List (Int×Int×Int))):Prop:=x.length≤1048576∧∀ a∈x,sm_StepS a
def wl_StepSS(x:List (List (Int×Int×Int))):Prop:=x.length≤9223372036854775807∧∀ a∈x,wl_StepS a
theorem sz_StepSS(x:List (List (Int×Int×Int)))(hw:wl_StepSS x)(l:Int)(h0:0≤l)(h1:l≤1048576):ok_laws_szStepSS (x,l)∧(v_laws_szStepSS (x,l)<0∨(0≤v_laws_szStepSS (x,l)∧v_laws_szStepSS (x,l)≤l∧sm_StepSS x)):=by
 rw[oe_laws_szStepSS,ve_laws_szStepSS]
 obtain⟨hl,hw2⟩:=hw
 have hs:iSub .i64 l (lLen x)=l-x.length:=by rw[lLen_eq];exact iSub_i64 (by unfold In64;omega)
 simp only[hs]
 by_cases hneg:l-(x.length:Int)<0
 · have hb:iLt (l-(x.length:Int)) 0=true:=by rw[iLt_eq];simpa using hneg
   rw[hb]
   exact⟨⟨fun _=>trivial,fun h=>(by cases h)⟩,by rw[bSel_t];left;omega⟩
 · have hb:iLt (l-(x.length:Int)) 0=false:=by rw[iLt_eq];simpa using hneg
   rw[hb]
   have hg:∀ i:Nat,i<x.length→∀ m:Int,0≤m→m≤1048576→ok_laws_szStepS (x.getD i [],m)∧(v_laws_szStepS (x.getD i [],m)<0∨(0≤v_laws_szStepS (x.getD i [],m)∧v_laws_szStepS (x.getD i [],m)≤m∧sm_StepS (x.getD i []))):=fun i hi m g0 g1=>sz_StepS _ (hw2 _ (getD_mem x i [] hi)) m g0 g1
   refine⟨⟨fun h=>(by cases h),fun _=>sz_ok x [] sm_StepS (fun a m=>v_laws_szStepS (a,m)) (l-(x.length:Int)) (by omega) (by omega) (by omega) (fun i hi m g0 g1=>(hg i hi m g0 g1).2) (fun m i hi=>by simp only[bAnd_eq,iLt_eq,lLen_eq,iNat_eq,lGet_eq,bNot_eq,Int.toNat_natCast,Int.ofNat_lt]) (fun m i hi=>by simp only[iNat_eq,lGet_eq,Int.toNat_natCast]) (fun m i g0 g1 hi=>?_)⟩,?_⟩
   · simp only[iLt_eq,lLen_eq,iNat_eq,lGet_eq,decide_eq_true_eq,Int.toNat_natCast]
     exact⟨fun hh=>⟨by omega,by omega,(hg i (by omega) m g0 g1).1⟩,fun _=>trivial⟩
   · rw[bSel_f]
     have hv:=sz_v (c:=fun st:Int×Int=>bAnd (iLt st.2 (lLen x)) (bNot (iLt (v_laws_szStepS ((lGet x (iNat st.2) []),st.1)) 0))) (f:=fun st=>(v_laws_szStepS ((lGet x (iNat st.2) []),st.1),iAdd .i64 st.2 1)) x [] sm_StepS (fun a m=>v_laws_szStepS (a,m)) (l-(x.length:Int)) (by omega) (by omega) (by omega) (fun i hi m g0 g1=>(hg i hi m g0 g1).2) (fun m i hi=>by simp only[bAnd_eq,iLt_eq,lLen_eq,iNat_eq,lGet_eq,bNot_eq,Int.toNat_natCast,Int.ofNat_lt]) (fun m i hi=>by simp only[iNat_eq,lGet_eq,Int.toNat_natCast])
     rcases sz_fin (l:=l) (by omega) hv with h|⟨h2,h3,h4⟩
     · exact .inl h
     · exact .inr ⟨h2,h3,(by omega),h4⟩
def sm_Engine(x:Int×(List (List (Int×Int×Int×Int)))×(List (List (Int×Int×Int)))×Int×(List (Int×Int×Int×Int×Int))×Int×Bool):Prop:=sm_Keymap (x.1,x.2.1)∧sm_StepSS x.2.2.1∧sm_HeldS x.2.2.2.2.1∧True
def wl_Engine(x:Int×(List (List (Int×Int×Int×Int)))×(List (List (Int×Int×Int)))×Int×(List (Int×Int×Int×Int×Int))×Int×Bool):Prop:=wl_Keymap (x.1,x.2.1)∧wl_StepSS x.2.2.1∧wl_HeldS x.2.2.2.2.1∧True
theorem sz_Engine(x:Int×(List (List (Int×Int×Int×Int)))×(List (List (Int×Int×Int)))×Int×(List (Int×Int×Int×Int×Int))×Int×Bool)(hw:wl_Engine x)(l:Int)(h0:0≤l)(h1:l≤1048576):ok_laws_szEngine (x,l)∧(v_laws_szEngine (x,l)<0∨(0≤v_laws_szEngine (x,l)∧v_laws_szEngine (x,l)≤l∧sm_Engine x)):=by
 rw[oe_laws_szEngine,ve_laws_szEngine]
 have hx:=hw
 unfold wl_Engine at hw
 obtain⟨k0,g0⟩:=sz_Keymap (x.1,x.2.1) hw.1 l (by omega) (by omega)
 generalize hz0:v_laws_szKeymap ((x.1,x.2.1),l)=z0 at g0 ⊢
 rcases g0 with g0|⟨g0,g0',g0''⟩
 · have hb:iLt z0 0=true:=by rw[iLt_eq];simpa using g0
   refine⟨?_,?_⟩
   · simp[k0,hb]
   · simp only[hb,bSel_t];left;omega
 have hb0:iLt z0 0=false:=by rw[iLt_eq];simpa using g0
 simp only[hb0,bSel_f]
 obtain⟨k1,g1⟩:=sz_StepSS x.2.2.1 hw.2.1 z0 (by omega) (by omega)
 generalize hz1:v_laws_szStepSS (x.2.2.1,z0)=z1 at g1 ⊢
 rcases g1 with g1|⟨g1,g1',g1''⟩
 · have hb:iLt z1 0=true:=by rw[iLt_eq];simpa using g1
   refine⟨?_,?_⟩
   · simp[k0,k1,hb]
   · simp only[hb,bSel_t];left;omega
 have hb1:iLt z1 0=false:=by rw[iLt_eq];simpa using g1
 simp only[hb1,bSel_f]
 obtain⟨k2,g2⟩:=sz_HeldS x.2.2.2.2.1 hw.2.2.1 z1 (by omega) (by omega)
 generalize hz2:v_laws_szHeldS (x.2.2.2.2.1,z1)=z2 at g2 ⊢
 rcases g2 with g2|⟨g2,g2',g2''⟩
 · have hb:iLt z2 0=true:=by rw[iLt_eq];simpa using g2
   refine⟨?_,?_⟩
   · simp[k0,k1,k2,hb]
   · simp only[hb,bSel_t];left;omega
 have hb2:iLt z2 0=false:=by rw[iLt_eq];simpa using g2
 simp only[hb2,bSel_f]
 exact⟨by simp[k0,k1,k2],.inr ⟨by omega,by omega,g0'',g1'',g2'',trivial⟩⟩
theorem to_Step(x:Int×Int×Int)(h:sm_Step x):ok_laws_toStep x∧v_laws_toStep x=x:=by
 rw[oe_laws_toStep,ve_laws_toStep]
 exact⟨trivial,rfl⟩
theorem to_StepS(x:List (Int×Int×Int))(h:sm_StepS x):ok_laws_toStepS x∧v_laws_toStepS x=x:=by
 rw[oe_laws_toStepS,ve_laws_toStepS]
 obtain⟨h1,h2⟩:=h
 have hY:∀ i:Nat,i<x.length→ok_laws_toStep ((x.getD i (0,0,0)).1,(x.getD i (0,0,0)).2.1,(x.getD i (0,0,0)).2.2)∧v_laws_toStep ((x.getD i (0,0,0)).1,(x.getD i (0,0,0)).2.1,(x.getD i (0,0,0)).2.2)=x.getD i (0,0,0):=fun i hi=>to_Step _ (h2 _ (getD_mem x i (0,0,0) hi))
 refine⟨⟨⟨by rw[lLen_eq];omega,roomy_of (by rw[lLen_eq];omega) (by rw[lLen_eq];omega) (by omega)⟩,copyg_ok x (0,0,0) (0,0,0) h1 (fun _=>rfl) (fun l i hi=>by simp only[lSet_eq,lGet_eq,iNat_eq,Int.toNat_natCast];rw[(hY i hi).2]) (fun l i hl hi=>?_)⟩,copyg_v x (0,0,0) (0,0,0) h1 (fun _=>rfl) (fun l i hi=>by simp only[lSet_eq,lGet_eq,iNat_eq,Int.toNat_natCast];rw[(hY i hi).2])⟩
 simp only[iLt_eq,lLen_eq,iNat_eq,lGet_eq,decide_eq_true_eq,Int.toNat_natCast]
 exact⟨fun hh=>⟨by omega,by omega,(hY i (by omega)).1,by omega,by omega⟩,fun _=>trivial⟩
theorem to_StepSS(x:List (List (Int×Int×Int)))(h:sm_StepSS x):ok_laws_toStepSS x∧v_laws_toStepSS x=x:=by
 rw[oe_laws_toStepSS,ve_laws_toStepSS]
 obtain⟨h1,h2⟩:=h
 have hY:∀ i:Nat,i<x.length→ok_laws_toStepS (x.getD i [])∧v_laws_toStepS (x.getD i [])=x.getD i []:=fun i hi=>to_StepS _ (h2 _ (getD_mem x i [] hi))
 refine⟨⟨⟨by rw[lLen_eq];omega,roomy_of (by rw[lLen_eq];omega) (by rw[lLen_eq];omega) (by omega)⟩,copyg_ok x [] [] h1 (fun _=>rfl) (fun l i hi=>by simp only[lSet_eq,lGet_eq,iNat_eq,Int.toNat_natCast];rw[(hY i hi).2]) (fun l i hl hi=>?_)⟩,copyg_v x [] [] h1 (fun _=>rfl) (fun l i hi=>by simp only[lSet_eq,lGet_eq,iNat_eq,Int.toNat_natCast];rw[(hY i hi).2])⟩
 simp only[iLt_eq,lLen_eq,iNat_eq,lGet_eq,decide_eq_true_eq,Int.toNat_natCast]
 exact⟨fun hh=>⟨by omega,by omega,(hY i (by omega)).1,by omega,by omega⟩,fun _=>trivial⟩
theorem to_Engine(x:Int×(List (List (Int×Int×Int×Int)))×(List (List (Int×Int×Int)))×Int×(List (Int×Int×Int×Int×Int))×Int×Bool)(h:sm_Engine x):ok_laws_toEngine x∧v_laws_toEngine x=x:=by
 rw[oe_laws_toEngine,ve_laws_toEngine]
 have k0:=to_Keymap (x.1,x.2.1) (by unfold sm_Engine at h;exact h.1)
 have k1:=to_StepSS x.2.2.1 (by unfold sm_Engine at h;exact h.2.1)
 have k2:=to_HeldS x.2.2.2.2.1 (by unfold sm_Engine at h;exact h.2.2.1)
 refine⟨⟨k0.1,k1.1,k2.1⟩,?_⟩
 simp only[k0.2,k1.2,k2.2]
theorem eq_Step(a b:Int×Int×Int)(h:sm_Step a):ok_laws_eqStep (a,b)∧(v_laws_eqStep (a,b)=true↔a=b):=by
 obtain⟨a0,a1,a2⟩:=a
 obtain⟨b0,b1,b2⟩:=b
 rw[oe_laws_eqStep,ve_laws_eqStep]
 refine⟨by simp,?_⟩
 simp only[bNot_eq,bAnd_eq,bIff_eq,iNe_eq,Bool.and_eq_true,Bool.not_not,decide_eq_true_eq,Prod.mk.injEq,beq_iff_eq]
 try (constructor<;>intro h<;>simp_all)
theorem eq_StepS(a b:List (Int×Int×Int))(h:sm_StepS a):ok_laws_eqStepS (a,b)∧(v_laws_eqStepS (a,b)=true↔a=b):=by
 rw[oe_laws_eqStepS,ve_laws_eqStepS]
 obtain⟨h1,h2⟩:=h
 have hY:∀ i:Nat,i<a.length→ok_laws_eqStep (((lGet a i (0,0,0)).1,(lGet a i (0,0,0)).2.1,(lGet a i (0,0,0)).2.2),((lGet b i (0,0,0)).1,(lGet b i (0,0,0)).2.1,(lGet b i (0,0,0)).2.2))∧(v_laws_eqStep (((lGet a i (0,0,0)).1,(lGet a i (0,0,0)).2.1,(lGet a i (0,0,0)).2.2),((lGet b i (0,0,0)).1,(lGet b i (0,0,0)).2.1,(lGet b i (0,0,0)).2.2))=true↔a.getD i (0,0,0)=b.getD i (0,0,0)):=fun i hi=>by
  have:=eq_Step (a.getD i (0,0,0)) (b.getD i (0,0,0)) (h2 _ (getD_mem a i (0,0,0) hi))
  rw[lGet_eq,lGet_eq];exact this
 by_cases hl:a.length=b.length
 · refine⟨⟨fun _=>trivial,fun _=>eq_ok a b (0,0,0) (fun i=>bNot (v_laws_eqStep (((lGet a i (0,0,0)).1,(lGet a i (0,0,0)).2.1,(lGet a i (0,0,0)).2.2),((lGet b i (0,0,0)).1,(lGet b i (0,0,0)).2.1,(lGet b i (0,0,0)).2.2)))) hl (fun i hi=>by simp only[bNot_eq,Bool.not_eq_false',(hY i hi).2]) (by omega) (fun i hi=>by simp only[bAnd_eq,iLt_eq,lLen_eq,iNat_eq,bNot_eq,Int.toNat_natCast,Int.ofNat_lt]) (fun i hi=>rfl) (fun i hi=>?_)⟩,?_⟩
   · simp only[iLt_eq,lLen_eq,iNat_eq,decide_eq_true_eq,Int.toNat_natCast]
     exact⟨fun hh=>⟨by omega,by omega,by omega,by omega,(hY i (by omega)).1⟩,fun _=>trivial⟩
   · have hv:=eq_v (c:=fun i:Int=>bAnd (iLt i (lLen a)) (bNot ((fun i=>bNot (v_laws_eqStep (((lGet a i (0,0,0)).1,(lGet a i (0,0,0)).2.1,(lGet a i (0,0,0)).2.2),((lGet b i (0,0,0)).1,(lGet b i (0,0,0)).2.1,(lGet b i (0,0,0)).2.2)))) i.toNat))) (f:=fun i=>iAdd .i64 i 1) a b (0,0,0) (fun i=>bNot (v_laws_eqStep (((lGet a i (0,0,0)).1,(lGet a i (0,0,0)).2.1,(lGet a i (0,0,0)).2.2),((lGet b i (0,0,0)).1,(lGet b i (0,0,0)).2.1,(lGet b i (0,0,0)).2.2)))) hl (fun i hi=>by simp only[bNot_eq,Bool.not_eq_false',(hY i hi).2]) (by omega) (fun i hi=>by simp only[bAnd_eq,iLt_eq,lLen_eq,bNot_eq,Int.toNat_natCast,Int.ofNat_lt]) (fun i hi=>rfl)
     have e1:bNot (iNe (lLen a) (lLen b))=true:=by rw[bNot_eq,iNe_eq,lLen_eq,lLen_eq,hl];simp
     rw[e1,bAnd_eq true,Bool.true_and,bNot_eq (iLt _ (lLen a)),iLt_eq _ (lLen a)]
     simp only[← iNat_eq,lLen_eq] at hv ⊢
     simp only[Bool.not_eq_true',decide_eq_false_iff_not]
     rw[hv];simp
 · have e1:bNot (iNe (lLen a) (lLen b))=false:=by rw[bNot_eq,iNe_eq,lLen_eq,lLen_eq];simp;omega
   refine⟨⟨fun _=>trivial,fun h=>?_⟩,?_⟩
   · rw[bNot_eq] at e1;rw[h] at e1;cases e1
   · rw[e1,bAnd_eq,Bool.false_and];constructor
     · intro h;cases h
     · intro e;subst e;exact absurd rfl hl
theorem eq_StepSS(a b:List (List (Int×Int×Int)))(h:sm_StepSS a):ok_laws_eqStepSS (a,b)∧(v_laws_eqStepSS (a,b)=true↔a=b):=by
 rw[oe_laws_eqStepSS,ve_laws_eqStepSS]
 obtain⟨h1,h2⟩:=h
 have hY:∀ i:Nat,i<a.length→ok_laws_eqStepS ((lGet a i []),(lGet b i []))∧(v_laws_eqStepS ((lGet a i []),(lGet b i []))=true↔a.getD i []=b.getD i []):=fun i hi=>by
  have:=eq_StepS (a.getD i []) (b.getD i []) (h2 _ (getD_mem a i [] hi))
  rw[lGet_eq,lGet_eq];exact this
 by_cases hl:a.length=b.length
 · refine⟨⟨fun _=>trivial,fun _=>eq_ok a b [] (fun i=>bNot (v_laws_eqStepS ((lGet a i []),(lGet b i [])))) hl (fun i hi=>by simp only[bNot_eq,Bool.not_eq_false',(hY i hi).2]) (by omega) (fun i hi=>by simp only[bAnd_eq,iLt_eq,lLen_eq,iNat_eq,bNot_eq,Int.toNat_natCast,Int.ofNat_lt]) (fun i hi=>rfl) (fun i hi=>?_)⟩,?_⟩
   · simp only[iLt_eq,lLen_eq,iNat_eq,decide_eq_true_eq,Int.toNat_natCast]
     exact⟨fun hh=>⟨by omega,by omega,by omega,by omega,(hY i (by omega)).1⟩,fun _=>trivial⟩
   · have hv:=eq_v (c:=fun i:Int=>bAnd (iLt i (lLen a)) (bNot ((fun i=>bNot (v_laws_eqStepS ((lGet a i []),(lGet b i [])))) i.toNat))) (f:=fun i=>iAdd .i64 i 1) a b [] (fun i=>bNot (v_laws_eqStepS ((lGet a i []),(lGet b i [])))) hl (fun i hi=>by simp only[bNot_eq,Bool.not_eq_false',(hY i hi).2]) (by omega) (fun i hi=>by simp only[bAnd_eq,iLt_eq,lLen_eq,bNot_eq,Int.toNat_natCast,Int.ofNat_lt]) (fun i hi=>rfl)
     have e1:bNot (iNe (lLen a) (lLen b))=true:=by rw[bNot_eq,iNe_eq,lLen_eq,lLen_eq,hl];simp
     rw[e1,bAnd_eq true,Bool.true_and,bNot_eq (iLt _ (lLen a)),iLt_eq _ (lLen a)]
     simp only[← iNat_eq,lLen_eq] at hv ⊢
     simp only[Bool.not_eq_true',decide_eq_false_iff_not]
     rw[hv];simp
 · have e1:bNot (iNe (lLen a) (lLen b))=false:=by rw[bNot_eq,iNe_eq,lLen_eq,lLen_eq];simp;omega
   refine⟨⟨fun _=>trivial,fun h=>?_⟩,?_⟩
   · rw[bNot_eq] at e1;rw[h] at e1;cases e1
   · rw[e1,bAnd_eq,Bool.false_and];constructor
     · intro h;cases h
     · intro e;subst e;exact absurd rfl hl
theorem eq_Engine(a b:Int×(List (List (Int×Int×Int×Int)))×(List (List (Int×Int×Int)))×Int×(List (Int×Int×Int×Int×Int))×Int×Bool)(h:sm_Engine a):ok_laws_eqEngine (a,b)∧(v_laws_eqEngine (a,b)=true↔a=b):=by
 obtain⟨a0,a1,a2,a3,a4,a5,a6⟩:=a
 obtain⟨b0,b1,b2,b3,b4,b5,b6⟩:=b
 have k0:=eq_Keymap (a0,a1) (b0,b1) (by unfold sm_Engine at h;exact h.1)
 have k1:=eq_StepSS a2 b2 (by unfold sm_Engine at h;exact h.2.1)
 have k2:=eq_HeldS a4 b4 (by unfold sm_Engine at h;exact h.2.2.1)
 rw[oe_laws_eqEngine,ve_laws_eqEngine]
 refine⟨by simp[k0.1,k0.2,k1.1,k1.2,k2.1,k2.2],?_⟩
 simp only[k0.1,k0.2,k1.1,k1.2,k2.1,k2.2,bNot_eq,bAnd_eq,bIff_eq,iNe_eq,Bool.and_eq_true,Bool.not_not,decide_eq_true_eq,Prod.mk.injEq,beq_iff_eq]
 try (constructor<;>intro h<;>simp_all)
end Go.Ag
