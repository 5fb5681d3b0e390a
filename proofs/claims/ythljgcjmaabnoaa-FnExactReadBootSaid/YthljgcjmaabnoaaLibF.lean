/- Part 6 of what FnExactReadBoot needs. No conditions. -/
import Derived.Test.YthljgcjmaabnoaaLibE
namespace Go.Ag
set_option linter.unusedSimpArgs false
set_option linter.unusedVariables false
section
set_option maxRecDepth 8000
noncomputable def dc_spec_IsReport:DCode:=
 (.seq [1] (.region [oa 0 1 (.boxB 0 2 (.t 0)),
 oa 1 2 (.mv (.c (.bool false)))])
  (.seq [1] (.seq [3,1] (.region [oi 0 3 0])
  (.block 0 (.loop [1,3] 1 (.seq [3,1] (.seq [8,3,1] (.region [om 0 4 3,
 oa 1 5 (.fieldA 1 (.t 1)),
 oa 2 6 (.loadB 0 none (.t 5)),
 oa 3 7 (.len (.t 6)),
 oa 4 8 (.bin .lss (.t 4) (.t 7))])
  (.cond (.t 8) .skip (.exit 0)))
  (.seq [3,1] (.block 1 (.seq [35,3,1] (.region [oa 0 11 (.fieldA 1 (.t 1)),
 xA 1 12 (.loadB 0 none (.t 11)) (rg 1),
 om 2 13 3,
 xA 3 14 (.indexA 1 (.t 12) (.t 13)) (rg 3),
 xA 4 15 (.loadH none (.t 14)) (rg 4),
 xC 5 16 s_spec_l1In p_spec_l1In D_spec_l1In [(.t 15),(.c (.int .i64 1)),(.c (.int .i64 56))] (rg 5),
 xA 6 17 (.un .not (.t 16)) (rg 6),
 xA 7 18 (.mv (.t 17)) (rg 7),
 ⟨8,some 19,.a false (.mv (.t 3)) none,(some (18,false)),[0,1,2,3,4,5,6,7]⟩,
 ⟨9,some 20,.a false (.bin .gtr (.t 19) (.c (.int .i64 0))) none,(some (18,false)),[0,1,2,3,4,5,6,7,8]⟩,
 ⟨10,some 21,.a false (.mv (.t 20)) none,(some (18,false)),[0,1,2,3,4,5,6,7,8,9]⟩,
 ⟨11,some 22,.a false (.fieldA 1 (.t 1)) none,(some (21,true)),[0,1,2,3,4,5,6,7,8,9,10]⟩,
 ⟨12,some 23,.a false (.loadB 0 none (.t 22)) none,(some (21,true)),[0,1,2,3,4,5,6,7,8,9,10,11]⟩,
 ⟨13,some 24,.a false (.mv (.t 3)) none,(some (21,true)),[0,1,2,3,4,5,6,7,8,9,10]⟩,
 ⟨14,some 25,.a false (.bin .sub (.t 24) (.c (.int .i64 1))) none,(some (21,true)),[0,1,2,3,4,5,6,7,8,9,10,13]⟩,
 ⟨15,some 26,.a false (.indexA 1 (.t 23) (.t 25)) none,(some (21,true)),[0,1,2,3,4,5,6,7,8,9,10,11,12,13,14]⟩,
 ⟨16,some 27,.a false (.loadH none (.t 26)) none,(some (21,true)),[0,1,2,3,4,5,6,7,8,9,10,11,12,13,14,15]⟩,
 ⟨17,some 28,.a false (.fieldA 1 (.t 1)) none,(some (21,true)),[0,1,2,3,4,5,6,7,8,9,10]⟩,
 ⟨18,some 29,.a false (.loadB 0 none (.t 28)) none,(some (21,true)),[0,1,2,3,4,5,6,7,8,9,10,17]⟩,
 ⟨19,some 30,.a false (.mv (.t 3)) none,(some (21,true)),[0,1,2,3,4,5,6,7,8,9,10]⟩,
 ⟨20,some 31,.a false (.indexA 1 (.t 29) (.t 30)) none,(some (21,true)),[0,1,2,3,4,5,6,7,8,9,10,17,18,19]⟩,
 ⟨21,some 32,.a false (.loadH none (.t 31)) none,(some (21,true)),[0,1,2,3,4,5,6,7,8,9,10,17,18,19,20]⟩,
 ⟨22,some 33,.a false (.bin .geq (.t 27) (.t 32)) none,(some (21,true)),[0,1,2,3,4,5,6,7,8,9,10,11,12,13,14,15,16,17,18,19,20,21]⟩,
 ⟨23,some 34,.a false (.pick (.t 21) (.t 33) (.c (.bool false))) none,(some (18,false)),[0,1,2,3,4,5,6,7,8,9,10,11,12,13,14,15,16,17,18,19,20,21,22]⟩,
 xA 24 35 (.pick (.t 18) (.c (.bool true)) (.t 34)) (rg 24)])
  (.cond (.t 35) (.seq [2] (.region [oa 0 2 (.mv (.c (.bool false)))])
  .ret) .skip)))
  (.region [om 0 9 3,
 oa 1 10 (.bin .add (.t 9) (.c (.int .i64 1))),
 om 2 3 10]))))))
  (.seq [2] (.region [oa 0 36 (.fieldA 0 (.t 1)),
 oa 1 37 (.loadB 0 none (.t 36)),
 oc 2 38 s_spec_l1In p_spec_l1In D_spec_l1In [(.t 37),(.c (.int .i64 0)),(.c (.int .i64 15))],
 om 3 2 38])
  .ret)))
noncomputable def df_spec_IsReport:DFun:=⟨1,39,1,true,[.tmp 2],dc_spec_IsReport⟩
noncomputable def pf_spec_IsReport:PFun:=df_spec_IsReport.er
noncomputable def f_spec_IsReport:AFun:=pf_spec_IsReport.er
@[irreducible] noncomputable def s_spec_IsReport:CallSem:=funSem f_spec_IsReport
@[irreducible] noncomputable def p_spec_IsReport:PSem:=pfunSem pf_spec_IsReport
theorem sp_spec_IsReport:SoundP s_spec_IsReport p_spec_IsReport:=by unfold s_spec_IsReport p_spec_IsReport;exact pfun_sound (f:=pf_spec_IsReport) ⟨sp_spec_l1In,sp_spec_l1In,trivial⟩
def h_spec_IsReport:List HT:=[.agg [(.frz,.int .i64),(.frz,.sl (.one (.int .i64)))]]
def q_spec_IsReport:QT:=.one (.one .own (.bool))
@[irreducible] noncomputable def v_spec_IsReport(x:Int×List (Int)):Bool:=(shut fun x=>fnV df_spec_IsReport h_spec_IsReport q_spec_IsReport x).1 x
@[irreducible] noncomputable def ok_spec_IsReport(x:Int×List (Int)):Prop:=(shut fun x=>fnOk df_spec_IsReport h_spec_IsReport q_spec_IsReport x).1 x
theorem vu_spec_IsReport (x):v_spec_IsReport x=fnV df_spec_IsReport h_spec_IsReport q_spec_IsReport x:=by unfold v_spec_IsReport;exact congrFun (shut _).2 x
theorem ou_spec_IsReport (x):ok_spec_IsReport x=fnOk df_spec_IsReport h_spec_IsReport q_spec_IsReport x:=by unfold ok_spec_IsReport;exact congrFun (shut _).2 x
noncomputable def D_spec_IsReport:DSem:=DSemOf h_spec_IsReport q_spec_IsReport ok_spec_IsReport v_spec_IsReport
theorem ck_spec_IsReport(x:Int×List (Int)):fnChk df_spec_IsReport h_spec_IsReport q_spec_IsReport x=true:=by kernel_rfl
theorem ob_spec_IsReport:AllD df_spec_IsReport.body.obs:=⟨sd_spec_l1In,sd_spec_l1In,trivial⟩
theorem st_spec_IsReport:fnSt df_spec_IsReport h_spec_IsReport q_spec_IsReport=true:=by kernel_rfl
theorem sd_spec_IsReport:SoundD p_spec_IsReport D_spec_IsReport:=by unfold p_spec_IsReport;exact soundD_of (f:=df_spec_IsReport) (hs:=h_spec_IsReport) (q:=q_spec_IsReport) ob_spec_IsReport st_spec_IsReport ck_spec_IsReport (fun x h=>Eq.mp (ou_spec_IsReport x) h) (fun x=>(vu_spec_IsReport x).symm)
noncomputable def dc_impl_IsReport:DCode:=
 (.seq [1] (.region [oa 0 1 (.boxB 0 2 (.t 0)),
 oa 1 2 (.mv (.c (.bool false)))])
  (.seq [1] (.seq [12,1] (.region [oa 0 5 (.fieldA 0 (.t 1)),
 oa 1 6 (.loadB 0 none (.t 5)),
 oa 2 7 (.bin .lss (.t 6) (.c (.int .i64 0))),
 om 3 8 7,
 og 4 9 (.fieldA 0 (.t 1)) 8 false,
 og 5 10 (.loadB 0 none (.t 9)) 8 false,
 og 6 11 (.bin .gtr (.t 10) (.c (.int .i64 15))) 8 false,
 oa 7 12 (.pick (.t 8) (.c (.bool true)) (.t 11))])
  (.cond (.t 12) (.seq [2] (.region [oa 0 2 (.mv (.c (.bool false)))])
  .ret) .skip))
  (.seq [] (.seq [16,15,14,1] (.region [oa 0 13 (.fieldA 1 (.t 1)),
 oa 1 14 (.loadB 0 none (.t 13)),
 oa 2 15 (.len (.t 14)),
 oi 3 16 0])
  (.block 0 (.loop [1,14,15,16] 1 (.seq [17,16,15,14,1] (.region [oa 0 17 (.bin .lss (.t 16) (.t 15))])
  (.seq [16,15,14,1] (.cond (.t 17) .skip (.exit 0))
  (.seq [16,15,14,1] (.block 1 (.seq [16,15,14,4,3,1] (.region [om 0 18 16,
 oa 1 19 (.indexA 1 (.t 14) (.t 16)),
 oa 2 20 (.loadH none (.t 19)),
 om 3 3 18,
 om 4 4 20])
  (.seq [37,16,15,14,1] (.region [om 0 21 4,
 oc 1 22 s_impl_isCode p_impl_isCode D_impl_isCode [(.t 21)],
 oa 2 23 (.un .not (.t 22)),
 om 3 24 23,
 og 4 25 (.mv (.t 3)) 24 false,
 og 5 26 (.bin .gtr (.t 25) (.c (.int .i64 0))) 24 false,
 og 6 27 (.mv (.t 26)) 24 false,
 og 7 28 (.fieldA 1 (.t 1)) 27 true,
 og 8 29 (.loadB 0 none (.t 28)) 27 true,
 og 9 30 (.mv (.t 3)) 27 true,
 og 10 31 (.bin .sub (.t 30) (.c (.int .i64 1))) 27 true,
 og 11 32 (.indexA 1 (.t 29) (.t 31)) 27 true,
 og 12 33 (.loadH none (.t 32)) 27 true,
 og 13 34 (.mv (.t 4)) 27 true,
 og 14 35 (.bin .geq (.t 33) (.t 34)) 27 true,
 og 15 36 (.pick (.t 27) (.t 35) (.c (.bool false))) 24 false,
 oa 16 37 (.pick (.t 24) (.c (.bool true)) (.t 36))])
  (.cond (.t 37) (.seq [2] (.region [oa 0 2 (.mv (.c (.bool false)))])
  .ret) .skip))))
  (.region [oa 0 38 (.bin .add (.t 16) (.c (.int .i64 1))),
 om 1 16 38])))))))
  (.seq [2] (.region [oa 0 2 (.mv (.c (.bool true)))])
  .ret))))
noncomputable def df_impl_IsReport:DFun:=⟨1,39,1,true,[.tmp 2],dc_impl_IsReport⟩
noncomputable def pf_impl_IsReport:PFun:=df_impl_IsReport.er
noncomputable def f_impl_IsReport:AFun:=pf_impl_IsReport.er
@[irreducible] noncomputable def s_impl_IsReport:CallSem:=funSem f_impl_IsReport
@[irreducible] noncomputable def p_impl_IsReport:PSem:=pfunSem pf_impl_IsReport
theorem sp_impl_IsReport:SoundP s_impl_IsReport p_impl_IsReport:=by unfold s_impl_IsReport p_impl_IsReport;exact pfun_sound (f:=pf_impl_IsReport) ⟨sp_impl_isCode,trivial⟩
def h_impl_IsReport:List HT:=[.agg [(.frz,.int .i64),(.frz,.sl (.one (.int .i64)))]]
def q_impl_IsReport:QT:=.one (.one .own (.bool))
@[irreducible] noncomputable def v_impl_IsReport(x:Int×List (Int)):Bool:=(shut fun x=>fnV df_impl_IsReport h_impl_IsReport q_impl_IsReport x).1 x
@[irreducible] noncomputable def ok_impl_IsReport(x:Int×List (Int)):Prop:=(shut fun x=>fnOk df_impl_IsReport h_impl_IsReport q_impl_IsReport x).1 x
theorem vu_impl_IsReport (x):v_impl_IsReport x=fnV df_impl_IsReport h_impl_IsReport q_impl_IsReport x:=by unfold v_impl_IsReport;exact congrFun (shut _).2 x
theorem ou_impl_IsReport (x):ok_impl_IsReport x=fnOk df_impl_IsReport h_impl_IsReport q_impl_IsReport x:=by unfold ok_impl_IsReport;exact congrFun (shut _).2 x
noncomputable def D_impl_IsReport:DSem:=DSemOf h_impl_IsReport q_impl_IsReport ok_impl_IsReport v_impl_IsReport
theorem ck_impl_IsReport(x:Int×List (Int)):fnChk df_impl_IsReport h_impl_IsReport q_impl_IsReport x=true:=by kernel_rfl
theorem ob_impl_IsReport:AllD df_impl_IsReport.body.obs:=⟨sd_impl_isCode,trivial⟩
theorem st_impl_IsReport:fnSt df_impl_IsReport h_impl_IsReport q_impl_IsReport=true:=by kernel_rfl
theorem sd_impl_IsReport:SoundD p_impl_IsReport D_impl_IsReport:=by unfold p_impl_IsReport;exact soundD_of (f:=df_impl_IsReport) (hs:=h_impl_IsReport) (q:=q_impl_IsReport) ob_impl_IsReport st_impl_IsReport ck_impl_IsReport (fun x h=>Eq.mp (ou_impl_IsReport x) h) (fun x=>(vu_impl_IsReport x).symm)
noncomputable def dc_spec_BootBytes:DCode:=
 (.seq [1] (.region [oa 0 1 (.boxB 0 2 (.t 0)),
 oa 1 2 (.mv (.c .nils))])
  (.seq [1] (.seq [7,1] (.region [oa 0 5 (.loadB 0 (some 2) (.t 1)),
 oc 1 6 s_spec_IsReport p_spec_IsReport D_spec_IsReport [(.t 5)],
 oa 2 7 (.un .not (.t 6))])
  (.cond (.t 7) (.seq [2] (.region [⟨0,some 8,.a false (.litSlice 1 0 [] []) (some (.one (.int .u8))),none,[]⟩,
 om 1 2 8])
  .ret) .skip))
  (.seq [3,1] (.region [oa 0 9 (.fieldA 0 (.t 1)),
 oa 1 10 (.loadB 0 none (.t 9)),
 oa 2 11 (.conv .u8 (.t 10)),
 ⟨3,some 12,.a false (.litSlice 1 8 [(.int .u8 0),(.int .u8 0),(.int .u8 0),(.int .u8 0),(.int .u8 0),(.int .u8 0),(.int .u8 0),(.int .u8 0)] [(0,1,(.t 11)),(1,1,(.c (.int .u8 0))),(2,1,(.c (.int .u8 0))),(3,1,(.c (.int .u8 0))),(4,1,(.c (.int .u8 0))),(5,1,(.c (.int .u8 0))),(6,1,(.c (.int .u8 0))),(7,1,(.c (.int .u8 0)))]) (some (.one (.int .u8))),none,[]⟩,
 om 4 3 12])
  (.seq [3] (.seq [4,3,1] (.region [oi 0 4 0])
  (.block 0 (.loop [1,3,4] 1 (.seq [4,3,1] (.seq [14,4,3,1] (.region [om 0 13 4,
 oa 1 14 (.bin .lss (.t 13) (.c (.int .i64 6)))])
  (.cond (.t 14) .skip (.exit 0)))
  (.seq [4,3,1] (.block 1 (.seq [20,4,3,1] (.region [oa 0 17 (.fieldA 1 (.t 1)),
 oa 1 18 (.loadB 0 none (.t 17)),
 oa 2 19 (.len (.t 18)),
 oa 3 20 (.bin .gtr (.t 19) (.c (.int .i64 6)))])
  (.cond (.t 20) (.region [on 0 21 3,
 om 1 22 4,
 oa 2 23 (.bin .add (.c (.int .i64 2)) (.t 22)),
 oa 3 24 (.indexA 1 (.t 21) (.t 23)),
 os 4 (.storeH 1 (.t 24) (.c (.int .u8 1)))]) (.seq [29,4,3,1] (.region [om 0 25 4,
 oa 1 26 (.fieldA 1 (.t 1)),
 oa 2 27 (.loadB 0 none (.t 26)),
 oa 3 28 (.len (.t 27)),
 oa 4 29 (.bin .lss (.t 25) (.t 28))])
  (.cond (.t 29) (.region [on 0 30 3,
 om 1 31 4,
 oa 2 32 (.bin .add (.c (.int .i64 2)) (.t 31)),
 oa 3 33 (.fieldA 1 (.t 1)),
 oa 4 34 (.loadB 0 none (.t 33)),
 om 5 35 4,
 oa 6 36 (.indexA 1 (.t 34) (.t 35)),
 oa 7 37 (.loadH none (.t 36)),
 oa 8 38 (.bin .add (.t 37) (.c (.int .i64 3))),
 oa 9 39 (.conv .u8 (.t 38)),
 oa 10 40 (.indexA 1 (.t 30) (.t 32)),
 os 11 (.storeH 1 (.t 40) (.t 39))]) .skip)))))
  (.region [om 0 15 4,
 oa 1 16 (.bin .add (.t 15) (.c (.int .i64 1))),
 om 2 4 16]))))))
  (.seq [2] (.region [om 0 41 3,
 om 1 2 41])
  .ret)))))
noncomputable def df_spec_BootBytes:DFun:=⟨1,42,1,false,[.tmp 2],dc_spec_BootBytes⟩
def h_spec_BootBytes:List HT:=[.agg [(.frz,.int .i64),(.frz,.sl (.one (.int .i64)))]]
def q_spec_BootBytes:QT:=.one (.one .own (.sl (.one (.int .u8))))
@[irreducible] noncomputable def v_spec_BootBytes(x:Int×List (Int)):List (Int):=(shut fun x=>fnV df_spec_BootBytes h_spec_BootBytes q_spec_BootBytes x).1 x
@[irreducible] noncomputable def ok_spec_BootBytes(x:Int×List (Int)):Prop:=(shut fun x=>fnOk df_spec_BootBytes h_spec_BootBytes q_spec_BootBytes x).1 x
theorem vu_spec_BootBytes (x):v_spec_BootBytes x=fnV df_spec_BootBytes h_spec_BootBytes q_spec_BootBytes x:=by unfold v_spec_BootBytes;exact congrFun (shut _).2 x
theorem ou_spec_BootBytes (x):ok_spec_BootBytes x=fnOk df_spec_BootBytes h_spec_BootBytes q_spec_BootBytes x:=by unfold ok_spec_BootBytes;exact congrFun (shut _).2 x
noncomputable def dc_impl_BootBytes:DCode:=
 (.seq [1] (.region [oa 0 1 (.boxB 0 2 (.t 0)),
 oa 1 2 (.mv (.c .nils))])
  (.seq [1] (.seq [7,1] (.region [oa 0 5 (.loadB 0 (some 2) (.t 1)),
 oc 1 6 s_impl_IsReport p_impl_IsReport D_impl_IsReport [(.t 5)],
 oa 2 7 (.un .not (.t 6))])
  (.cond (.t 7) (.seq [2] (.region [oa 0 2 (.mv (.c .nils))])
  .ret) .skip))
  (.seq [3,1] (.region [⟨0,some 8,.a false (.mkSlice 1 [(.int .u8 0)] (.c (.int .i64 8))) (some (.one (.int .u8))),none,[]⟩,
 om 1 3 8])
  (.seq [3,1] (.region [on 0 9 3,
 oa 1 10 (.fieldA 0 (.t 1)),
 oa 2 11 (.loadB 0 none (.t 10)),
 oa 3 12 (.conv .u8 (.t 11)),
 oa 4 13 (.indexA 1 (.t 9) (.c (.int .i64 0))),
 os 5 (.storeH 1 (.t 13) (.t 12))])
  (.seq [3] (.seq [4,3,1] (.region [oi 0 4 0])
  (.block 0 (.loop [1,3,4] 1 (.seq [4,3,1] (.seq [15,4,3,1] (.region [om 0 14 4,
 oa 1 15 (.bin .lss (.t 14) (.c (.int .i64 6)))])
  (.cond (.t 15) .skip (.exit 0)))
  (.seq [4,3,1] (.block 1 (.block 2 (.seq [18,4,3,1] (.region [oa 0 19 (.fieldA 1 (.t 1)),
 oa 1 20 (.loadB 0 none (.t 19)),
 oa 2 21 (.len (.t 20)),
 oa 3 22 (.bin .gtr (.t 21) (.c (.int .i64 6))),
 om 4 18 22])
  (.cond (.t 18) (.region [on 0 23 3,
 om 1 24 4,
 oa 2 25 (.bin .add (.t 24) (.c (.int .i64 2))),
 oa 3 26 (.indexA 1 (.t 23) (.t 25)),
 os 4 (.storeH 1 (.t 26) (.c (.int .u8 1)))]) (.seq [27,4,3,1] (.region [om 0 28 4,
 oa 1 29 (.fieldA 1 (.t 1)),
 oa 2 30 (.loadB 0 none (.t 29)),
 oa 3 31 (.len (.t 30)),
 oa 4 32 (.bin .lss (.t 28) (.t 31)),
 om 5 27 32])
  (.cond (.t 27) (.region [on 0 33 3,
 om 1 34 4,
 oa 2 35 (.bin .add (.t 34) (.c (.int .i64 2))),
 oa 3 36 (.fieldA 1 (.t 1)),
 oa 4 37 (.loadB 0 none (.t 36)),
 om 5 38 4,
 oa 6 39 (.indexA 1 (.t 37) (.t 38)),
 oa 7 40 (.loadH none (.t 39)),
 oa 8 41 (.bin .add (.t 40) (.c (.int .i64 3))),
 oa 9 42 (.conv .u8 (.t 41)),
 oa 10 43 (.indexA 1 (.t 33) (.t 35)),
 os 11 (.storeH 1 (.t 43) (.t 42))]) .skip))))))
  (.region [om 0 16 4,
 oa 1 17 (.bin .add (.t 16) (.c (.int .i64 1))),
 om 2 4 17]))))))
  (.seq [2] (.region [om 0 44 3,
 om 1 2 44])
  .ret))))))
noncomputable def df_impl_BootBytes:DFun:=⟨1,45,1,false,[.tmp 2],dc_impl_BootBytes⟩
noncomputable def pf_impl_BootBytes:PFun:=df_impl_BootBytes.er
noncomputable def f_impl_BootBytes:AFun:=pf_impl_BootBytes.er
@[irreducible] noncomputable def s_impl_BootBytes:CallSem:=funSem f_impl_BootBytes
@[irreducible] noncomputable def p_impl_BootBytes:PSem:=pfunSem pf_impl_BootBytes
theorem sp_impl_BootBytes:SoundP s_impl_BootBytes p_impl_BootBytes:=by unfold s_impl_BootBytes p_impl_BootBytes;exact pfun_sound (f:=pf_impl_BootBytes) ⟨sp_impl_IsReport,trivial⟩
def h_impl_BootBytes:List HT:=[.agg [(.frz,.int .i64),(.frz,.sl (.one (.int .i64)))]]
def q_impl_BootBytes:QT:=.one (.one .own (.sl (.one (.int .u8))))
@[irreducible] noncomputable def v_impl_BootBytes(x:Int×List (Int)):List (Int):=(shut fun x=>fnV df_impl_BootBytes h_impl_BootBytes q_impl_BootBytes x).1 x
@[irreducible] noncomputable def ok_impl_BootBytes(x:Int×List (Int)):Prop:=(shut fun x=>fnOk df_impl_BootBytes h_impl_BootBytes q_impl_BootBytes x).1 x
theorem vu_impl_BootBytes (x):v_impl_BootBytes x=fnV df_impl_BootBytes h_impl_BootBytes q_impl_BootBytes x:=by unfold v_impl_BootBytes;exact congrFun (shut _).2 x
theorem ou_impl_BootBytes (x):ok_impl_BootBytes x=fnOk df_impl_BootBytes h_impl_BootBytes q_impl_BootBytes x:=by unfold ok_impl_BootBytes;exact congrFun (shut _).2 x
noncomputable def D_impl_BootBytes:DSem:=DSemOf h_impl_BootBytes q_impl_BootBytes ok_impl_BootBytes v_impl_BootBytes
theorem ck_impl_BootBytes(x:Int×List (Int)):fnChk df_impl_BootBytes h_impl_BootBytes q_impl_BootBytes x=true:=by kernel_rfl
theorem ob_impl_BootBytes:AllD df_impl_BootBytes.body.obs:=⟨sd_impl_IsReport,trivial⟩
theorem st_impl_BootBytes:fnSt df_impl_BootBytes h_impl_BootBytes q_impl_BootBytes=true:=by kernel_rfl
theorem sd_impl_BootBytes:SoundD p_impl_BootBytes D_impl_BootBytes:=by unfold p_impl_BootBytes;exact soundD_of (f:=df_impl_BootBytes) (hs:=h_impl_BootBytes) (q:=q_impl_BootBytes) ob_impl_BootBytes st_impl_BootBytes ck_impl_BootBytes (fun x h=>Eq.mp (ou_impl_BootBytes x) h) (fun x=>(vu_impl_BootBytes x).symm)
noncomputable def dc_spec_ReadBoot:DCode:=
 (.seq [4,3,0] (.region [oa 0 3 (.boxB 0 2 (.t 1)),
 oa 1 4 (.allocB 1 [(.int .i64 0),.nils]),
 oa 2 5 (.mv (.c (.bool false)))])
  (.seq [4,3,0] (.seq [29,4,3,0] (.region [on 0 9 0,
 oa 1 10 (.len (.t 9)),
 oa 2 11 (.bin .neq (.t 10) (.c (.int .i64 8))),
 om 3 12 11,
 ⟨4,some 13,.a true (.mv (.t 0)) none,(some (12,false)),[]⟩,
 og 5 14 (.indexA 1 (.t 13) (.c (.int .i64 0))) 12 false,
 og 6 15 (.loadH none (.t 14)) 12 false,
 og 7 16 (.conv .i64 (.t 15)) 12 false,
 og 8 17 (.bin .gtr (.t 16) (.c (.int .i64 15))) 12 false,
 oa 9 18 (.pick (.t 12) (.c (.bool true)) (.t 17)),
 om 10 19 18,
 ⟨11,some 20,.a true (.mv (.t 0)) none,(some (19,false)),[]⟩,
 og 12 21 (.indexA 1 (.t 20) (.c (.int .i64 1))) 19 false,
 og 13 22 (.loadH none (.t 21)) 19 false,
 og 14 23 (.bin .neq (.t 22) (.c (.int .u8 0))) 19 false,
 oa 15 24 (.pick (.t 19) (.c (.bool true)) (.t 23)),
 om 16 25 24,
 og 17 26 (.loadB 0 (some 2) (.t 3)) 25 false,
 ⟨18,some 27,.call false s_spec_IsReport p_spec_IsReport D_spec_IsReport [(.t 26)],(some (25,false)),[]⟩,
 og 19 28 (.un .not (.t 27)) 25 false,
 oa 20 29 (.pick (.t 25) (.c (.bool true)) (.t 28))])
  (.cond (.t 29) (.seq [5,4] (.region [oa 0 30 (.build [(.int .i64 0),.nils] []),
 os 1 (.storeB 1 2 (.t 4) (.t 30)),
 oa 2 5 (.mv (.c (.bool false)))])
  .ret) .skip))
  (.seq [6,4,3,0] (.region [on 0 31 0,
 oa 1 32 (.indexA 1 (.t 31) (.c (.int .i64 0))),
 oa 2 33 (.loadH none (.t 32)),
 oa 3 34 (.conv .i64 (.t 33)),
 ⟨4,some 35,.a false (.litSlice 1 0 [] []) (some (.one (.int .i64))),none,[]⟩,
 oa 5 36 (.build [(.int .i64 0),.nils] [(0,1,(.t 34)),(1,1,(.t 35))]),
 oa 6 6 (.allocB 2 [(.int .i64 0),.nils]),
 os 7 (.storeB 2 2 (.t 6) (.t 36))])
  (.seq [7,6,4,3,0] (.region [oi 0 7 0])
  (.seq [7,6,4,3,0] (.seq [8,7,6,4,3,0] (.region [oi 0 8 2])
  (.block 0 (.loop [0,3,4,6,7,8] 1 (.seq [8,7,6,4,3,0] (.seq [38,8,7,6,4,3,0] (.region [om 0 37 8,
 oa 1 38 (.bin .lss (.t 37) (.c (.int .i64 8)))])
  (.cond (.t 38) .skip (.exit 0)))
  (.seq [8,7,6,4,3,0] (.block 1 (.seq [8,7,6,4,3,0] (.seq [45,8,7,6,4,3,0] (.region [on 0 41 0,
 om 1 42 8,
 oa 2 43 (.indexA 1 (.t 41) (.t 42)),
 oa 3 44 (.loadH none (.t 43)),
 oa 4 45 (.bin .eql (.t 44) (.c (.int .u8 1)))])
  (.cond (.t 45) (.region [om 0 46 7,
 oa 1 47 (.bin .add (.t 46) (.c (.int .i64 1))),
 om 2 7 47]) .skip))
  (.seq [8,7,6,4,3,0] (.seq [52,8,7,6,4,3,0] (.region [on 0 48 0,
 om 1 49 8,
 oa 2 50 (.indexA 1 (.t 48) (.t 49)),
 oa 3 51 (.loadH none (.t 50)),
 oa 4 52 (.bin .neq (.t 51) (.c (.int .u8 0)))])
  (.cond (.t 52) (.region [oa 0 53 (.fieldA 1 (.t 6)),
 xB 1 54 (.loadB 2 none (.t 53)) (rg 1),
 on 2 55 0,
 om 3 56 8,
 xA 4 57 (.indexA 1 (.t 55) (.t 56)) [2,3],
 xA 5 58 (.loadH none (.t 57)) [2,3,4],
 xA 6 59 (.conv .i64 (.t 58)) [2,3,4,5],
 xA 7 60 (.bin .sub (.t 59) (.c (.int .i64 3))) [2,3,4,5,6],
 ⟨8,some 61,.a false (.litSlice 1 1 [(.int .i64 0)] [(0,1,(.t 60))]) (some (.one (.int .i64))),none,[2,3,4,5,6,7]⟩,
 xA 9 62 (.app 1 (.t 54) (.t 61)) (rg 9),
 xA 10 63 (.fieldA 1 (.t 6)) (rg 10),
 xS 11 (.storeB 2 1 (.t 63) (.t 62)) (rg 11)]) .skip))
  (.seq [80,8,7,6,4,3,0] (.region [on 0 64 0,
 om 1 65 8,
 oa 2 66 (.indexA 1 (.t 64) (.t 65)),
 oa 3 67 (.loadH none (.t 66)),
 oa 4 68 (.bin .neq (.t 67) (.c (.int .u8 0))),
 om 5 69 68,
 ⟨6,some 70,.a true (.mv (.t 0)) none,(some (69,true)),[]⟩,
 og 7 71 (.mv (.t 8)) 69 true,
 og 8 72 (.bin .sub (.t 71) (.c (.int .i64 1))) 69 true,
 og 9 73 (.indexA 1 (.t 70) (.t 72)) 69 true,
 og 10 74 (.loadH none (.t 73)) 69 true,
 og 11 75 (.bin .eql (.t 74) (.c (.int .u8 0))) 69 true,
 oa 12 76 (.pick (.t 69) (.t 75) (.c (.bool false))),
 om 13 77 76,
 og 14 78 (.mv (.t 8)) 77 true,
 og 15 79 (.bin .gtr (.t 78) (.c (.int .i64 2))) 77 true,
 oa 16 80 (.pick (.t 77) (.t 79) (.c (.bool false)))])
  (.cond (.t 80) (.seq [5,4] (.region [oa 0 81 (.build [(.int .i64 0),.nils] []),
 os 1 (.storeB 1 2 (.t 4) (.t 81)),
 oa 2 5 (.mv (.c (.bool false)))])
  .ret) .skip)))))
  (.region [om 0 39 8,
 oa 1 40 (.bin .add (.t 39) (.c (.int .i64 1))),
 om 2 8 40]))))))
  (.seq [6,4] (.seq [83,6,4,3,0] (.region [om 0 82 7,
 oa 1 83 (.bin .eql (.t 82) (.c (.int .i64 6)))])
  (.cond (.t 83) (.seq [5,4] (.region [on 0 84 0,
 xA 1 85 (.indexA 1 (.t 84) (.c (.int .i64 0))) (rg 1),
 xA 2 86 (.loadH none (.t 85)) (rg 2),
 xA 3 87 (.conv .i64 (.t 86)) (rg 3),
 oa 5 89 (.fieldA 1 (.t 3)),
 xA 6 90 (.loadB 0 none (.t 89)) [5],
 oa 4 88 (.litSlice 1 0 [] []),
 xA 7 91 (.appN 1 (.t 88) (.t 90)) [4,5,6],
 xA 8 92 (.build [(.int .i64 0),.nils] [(0,1,(.t 87)),(1,1,(.t 91))]) (rg 8),
 xS 9 (.storeB 1 2 (.t 4) (.t 92)) (rg 9),
 xA 10 5 (.mv (.c (.bool true))) (rg 10)])
  .ret) .skip))
  (.seq [6,4] (.seq [95,6,4] (.region [oa 0 93 (.loadB 2 (some 2) (.t 6)),
 oc 1 94 s_spec_IsReport p_spec_IsReport D_spec_IsReport [(.t 93)],
 oa 2 95 (.un .not (.t 94))])
  (.cond (.t 95) (.seq [5,4] (.region [oa 0 96 (.build [(.int .i64 0),.nils] []),
 os 1 (.storeB 1 2 (.t 4) (.t 96)),
 oa 2 5 (.mv (.c (.bool false)))])
  .ret) .skip))
  (.seq [5,4] (.region [ob 0 97 (.loadB 2 (some 2) (.t 6)),
 os 1 (.storeB 1 2 (.t 4) (.t 97)),
 oa 2 5 (.mv (.c (.bool true)))])
  .ret))))))))
noncomputable def df_spec_ReadBoot:DFun:=⟨2,98,3,false,[.cell 4 (some 2),.tmp 5],dc_spec_ReadBoot⟩
noncomputable def pf_spec_ReadBoot:PFun:=df_spec_ReadBoot.er
noncomputable def f_spec_ReadBoot:AFun:=pf_spec_ReadBoot.er
@[irreducible] noncomputable def s_spec_ReadBoot:CallSem:=funSem f_spec_ReadBoot
@[irreducible] noncomputable def p_spec_ReadBoot:PSem:=pfunSem pf_spec_ReadBoot
theorem sp_spec_ReadBoot:SoundP s_spec_ReadBoot p_spec_ReadBoot:=by unfold s_spec_ReadBoot p_spec_ReadBoot;exact pfun_sound (f:=pf_spec_ReadBoot) ⟨sp_spec_IsReport,sp_spec_IsReport,trivial⟩
def h_spec_ReadBoot:List HT:=[.one .frz (.sl (.one (.int .u8))),.agg [(.frz,.int .i64),(.frz,.sl (.one (.int .i64)))]]
def q_spec_ReadBoot:QT:=.tup [.agg [(.own,.int .i64),(.own,.sl (.one (.int .i64)))],.one .own (.bool)]
@[irreducible] noncomputable def v_spec_ReadBoot(x:List (Int)×(Int×List (Int))):(Int×List (Int))×Bool:=(shut fun x=>fnV df_spec_ReadBoot h_spec_ReadBoot q_spec_ReadBoot x).1 x
@[irreducible] noncomputable def ok_spec_ReadBoot(x:List (Int)×(Int×List (Int))):Prop:=(shut fun x=>fnOk df_spec_ReadBoot h_spec_ReadBoot q_spec_ReadBoot x).1 x
theorem vu_spec_ReadBoot (x):v_spec_ReadBoot x=fnV df_spec_ReadBoot h_spec_ReadBoot q_spec_ReadBoot x:=by unfold v_spec_ReadBoot;exact congrFun (shut _).2 x
theorem ou_spec_ReadBoot (x):ok_spec_ReadBoot x=fnOk df_spec_ReadBoot h_spec_ReadBoot q_spec_ReadBoot x:=by unfold ok_spec_ReadBoot;exact congrFun (shut _).2 x
noncomputable def D_spec_ReadBoot:DSem:=DSemOf h_spec_ReadBoot q_spec_ReadBoot ok_spec_ReadBoot v_spec_ReadBoot
theorem ck_spec_ReadBoot(x:List (Int)×(Int×List (Int))):fnChk df_spec_ReadBoot h_spec_ReadBoot q_spec_ReadBoot x=true:=by kernel_rfl
theorem ob_spec_ReadBoot:AllD df_spec_ReadBoot.body.obs:=⟨sd_spec_IsReport,sd_spec_IsReport,trivial⟩
theorem st_spec_ReadBoot:fnSt df_spec_ReadBoot h_spec_ReadBoot q_spec_ReadBoot=true:=by kernel_rfl
theorem sd_spec_ReadBoot:SoundD p_spec_ReadBoot D_spec_ReadBoot:=by unfold p_spec_ReadBoot;exact soundD_of (f:=df_spec_ReadBoot) (hs:=h_spec_ReadBoot) (q:=q_spec_ReadBoot) ob_spec_ReadBoot st_spec_ReadBoot ck_spec_ReadBoot (fun x h=>Eq.mp (ou_spec_ReadBoot x) h) (fun x=>(vu_spec_ReadBoot x).symm)
noncomputable def dc_impl_copyInts:DCode:=
 (.seq [0] (.region [oa 0 2 (.mv (.c .nils))])
 (.seq [2] (.region [on 0 3 0,
 oa 1 4 (.app 1 (.c .nils) (.t 3)),
 om 2 2 4])
  .ret))
noncomputable def df_impl_copyInts:DFun:=⟨1,5,0,false,[.tmp 2],dc_impl_copyInts⟩
noncomputable def pf_impl_copyInts:PFun:=df_impl_copyInts.er
noncomputable def f_impl_copyInts:AFun:=pf_impl_copyInts.er
@[irreducible] noncomputable def s_impl_copyInts:CallSem:=funSem f_impl_copyInts
@[irreducible] noncomputable def p_impl_copyInts:PSem:=pfunSem pf_impl_copyInts
theorem sp_impl_copyInts:SoundP s_impl_copyInts p_impl_copyInts:=by unfold s_impl_copyInts p_impl_copyInts;exact pfun_sound (f:=pf_impl_copyInts) trivial
def h_impl_copyInts:List HT:=[.one .frz (.sl (.one (.int .i64)))]
def q_impl_copyInts:QT:=.one (.one .own (.sl (.one (.int .i64))))
@[irreducible] noncomputable def v_impl_copyInts(x:List (Int)):List (Int):=(shut fun x=>fnV df_impl_copyInts h_impl_copyInts q_impl_copyInts x).1 x
@[irreducible] noncomputable def ok_impl_copyInts(x:List (Int)):Prop:=(shut fun x=>fnOk df_impl_copyInts h_impl_copyInts q_impl_copyInts x).1 x
theorem vu_impl_copyInts (x):v_impl_copyInts x=fnV df_impl_copyInts h_impl_copyInts q_impl_copyInts x:=by unfold v_impl_copyInts;exact congrFun (shut _).2 x
theorem ou_impl_copyInts (x):ok_impl_copyInts x=fnOk df_impl_copyInts h_impl_copyInts q_impl_copyInts x:=by unfold ok_impl_copyInts;exact congrFun (shut _).2 x
noncomputable def D_impl_copyInts:DSem:=DSemOf h_impl_copyInts q_impl_copyInts ok_impl_copyInts v_impl_copyInts
theorem ck_impl_copyInts(x:List (Int)):fnChk df_impl_copyInts h_impl_copyInts q_impl_copyInts x=true:=by kernel_rfl
theorem ob_impl_copyInts:AllD df_impl_copyInts.body.obs:=trivial
theorem st_impl_copyInts:fnSt df_impl_copyInts h_impl_copyInts q_impl_copyInts=true:=by kernel_rfl
theorem sd_impl_copyInts:SoundD p_impl_copyInts D_impl_copyInts:=by unfold p_impl_copyInts;exact soundD_of (f:=df_impl_copyInts) (hs:=h_impl_copyInts) (q:=q_impl_copyInts) ob_impl_copyInts st_impl_copyInts ck_impl_copyInts (fun x h=>Eq.mp (ou_impl_copyInts x) h) (fun x=>(vu_impl_copyInts x).symm)
noncomputable def dc_impl_ReadBoot:DCode:=
 (.seq [4,3,0] (.region [oa 0 3 (.boxB 0 2 (.t 1)),
 oa 1 4 (.allocB 1 [(.int .i64 0),.nils]),
 oa 2 5 (.mv (.c (.bool false)))])
  (.seq [4,3,0] (.seq [31,4,3,0] (.region [on 0 12 0,
 oa 1 13 (.len (.t 12)),
 oa 2 14 (.bin .neq (.t 13) (.c (.int .i64 8))),
 om 3 15 14,
 ⟨4,some 16,.a true (.mv (.t 0)) none,(some (15,false)),[]⟩,
 og 5 17 (.indexA 1 (.t 16) (.c (.int .i64 0))) 15 false,
 og 6 18 (.loadH none (.t 17)) 15 false,
 og 7 19 (.bin .gtr (.t 18) (.c (.int .u8 15))) 15 false,
 oa 8 20 (.pick (.t 15) (.c (.bool true)) (.t 19)),
 om 9 21 20,
 ⟨10,some 22,.a true (.mv (.t 0)) none,(some (21,false)),[]⟩,
 og 11 23 (.indexA 1 (.t 22) (.c (.int .i64 1))) 21 false,
 og 12 24 (.loadH none (.t 23)) 21 false,
 og 13 25 (.bin .neq (.t 24) (.c (.int .u8 0))) 21 false,
 oa 14 26 (.pick (.t 21) (.c (.bool true)) (.t 25)),
 om 15 27 26,
 og 16 28 (.loadB 0 (some 2) (.t 3)) 27 false,
 ⟨17,some 29,.call false s_impl_IsReport p_impl_IsReport D_impl_IsReport [(.t 28)],(some (27,false)),[]⟩,
 og 18 30 (.un .not (.t 29)) 27 false,
 oa 19 31 (.pick (.t 27) (.c (.bool true)) (.t 30))])
  (.cond (.t 31) (.seq [5,4] (.region [oa 0 32 (.build [(.int .i64 0),.nils] []),
 os 1 (.storeB 1 2 (.t 4) (.t 32)),
 oa 2 5 (.mv (.c (.bool false)))])
  .ret) .skip))
  (.seq [6,4,3,0] (.region [oa 0 6 (.mv (.c (.bool true)))])
  (.seq [6,4,3,0] (.seq [36,35,34,6,4,3,0] (.region [on 0 33 0,
 oa 1 34 (.slice 1 (.t 33) (some (.c (.int .i64 2))) none),
 oa 2 35 (.len (.t 34)),
 oi 3 36 0])
  (.block 0 (.loop [0,3,4,6,34,35,36] 1 (.seq [37,36,35,34,6,4,3,0] (.region [oa 0 37 (.bin .lss (.t 36) (.t 35))])
  (.seq [36,35,34,6,4,3,0] (.cond (.t 37) .skip (.exit 0))
  (.seq [36,35,34,6,4,3,0] (.block 1 (.seq [36,35,34,8,6,4,3,0] (.region [oa 0 38 (.indexA 1 (.t 34) (.t 36)),
 oa 1 39 (.loadH none (.t 38)),
 om 2 8 39])
  (.region [om 0 40 6,
 om 1 41 40,
 og 2 42 (.mv (.t 8)) 41 true,
 og 3 43 (.bin .eql (.t 42) (.c (.int .u8 1))) 41 true,
 oa 4 44 (.pick (.t 41) (.t 43) (.c (.bool false))),
 om 5 6 44])))
  (.region [oa 0 45 (.bin .add (.t 36) (.c (.int .i64 1))),
 om 1 36 45])))))))
  (.seq [9,6,4,3,0] (.region [on 0 46 0,
 oa 1 47 (.indexA 1 (.t 46) (.c (.int .i64 0))),
 oa 2 48 (.loadH none (.t 47)),
 oa 3 49 (.conv .i64 (.t 48)),
 oa 4 50 (.build [(.int .i64 0),.nils] [(0,1,(.t 49))]),
 oa 5 9 (.allocB 2 [(.int .i64 0),.nils]),
 os 6 (.storeB 2 2 (.t 9) (.t 50))])
  (.seq [9,4,0] (.seq [51,9,4,3,0] (.region [om 0 51 6])
  (.cond (.t 51) (.seq [9,4] (.region [oa 0 52 (.fieldA 1 (.t 3)),
 oa 1 53 (.loadB 0 none (.t 52)),
 oc 2 54 s_impl_copyInts p_impl_copyInts D_impl_copyInts [(.t 53)],
 oa 3 55 (.fieldA 1 (.t 9)),
 os 4 (.storeB 2 1 (.t 55) (.t 54))])
  (.seq [5,4] (.region [ob 0 56 (.loadB 2 (some 2) (.t 9)),
 os 1 (.storeB 1 2 (.t 4) (.t 56)),
 oa 2 5 (.mv (.c (.bool true)))])
  .ret)) .skip))
  (.seq [9,4,0] (.seq [60,59,58,9,4,0] (.region [on 0 57 0,
 oa 1 58 (.slice 1 (.t 57) (some (.c (.int .i64 2))) none),
 oa 2 59 (.len (.t 58)),
 oi 3 60 0])
  (.block 2 (.loop [0,4,9,58,59,60] 1 (.seq [61,60,59,58,9,4,0] (.region [oa 0 61 (.bin .lss (.t 60) (.t 59))])
  (.seq [60,59,58,9,4,0] (.cond (.t 61) .skip (.exit 2))
  (.seq [60,59,58,9,4,0] (.block 3 (.seq [60,59,58,11,9,4,0] (.region [oa 0 62 (.indexA 1 (.t 58) (.t 60)),
 oa 1 63 (.loadH none (.t 62)),
 om 2 11 63])
  (.seq [65,60,59,58,11,9,4,0] (.region [om 0 64 11,
 oa 1 65 (.bin .neq (.t 64) (.c (.int .u8 0)))])
  (.cond (.t 65) (.region [oa 0 66 (.fieldA 1 (.t 9)),
 ob 1 67 (.loadB 2 none (.t 66)),
 om 2 68 11,
 oa 3 69 (.conv .i64 (.t 68)),
 oa 4 70 (.bin .sub (.t 69) (.c (.int .i64 3))),
 ⟨5,some 71,.a false (.litSlice 1 1 [(.int .i64 0)] [(0,1,(.t 70))]) (some (.one (.int .i64))),none,[]⟩,
 oa 6 72 (.app 1 (.t 67) (.t 71)),
 oa 7 73 (.fieldA 1 (.t 9)),
 os 8 (.storeB 2 1 (.t 73) (.t 72))]) .skip))))
  (.region [oa 0 74 (.bin .add (.t 60) (.c (.int .i64 1))),
 om 1 60 74])))))))
  (.seq [9,4] (.seq [85,9,4] (.region [oa 0 75 (.loadB 2 (some 2) (.t 9)),
 xC 1 76 s_impl_IsReport p_impl_IsReport D_impl_IsReport [(.t 75)] (rg 1),
 xA 2 77 (.un .not (.t 76)) (rg 2),
 xA 3 78 (.mv (.t 77)) (rg 3),
 ⟨4,some 79,.a false (.loadB 2 (some 2) (.t 9)) none,(some (78,false)),[0,1,2,3]⟩,
 ⟨7,some 82,.a true (.mv (.t 0)) none,(some (78,false)),[0,1,2,3]⟩,
 ⟨8,some 83,.a false (.bstr (.t 82)) none,(some (78,false)),[0,1,2,3,7]⟩,
 ⟨5,some 80,.call false s_impl_BootBytes p_impl_BootBytes D_impl_BootBytes [(.t 79)],(some (78,false)),[0,1,2,3,4]⟩,
 ⟨6,some 81,.a false (.bstr (.t 80)) none,(some (78,false)),[0,1,2,3,4,5]⟩,
 ⟨9,some 84,.a false (.bin .neq (.t 81) (.t 83)) none,(some (78,false)),[0,1,2,3,4,5,6,7,8]⟩,
 xA 10 85 (.pick (.t 78) (.c (.bool true)) (.t 84)) (rg 10)])
  (.cond (.t 85) (.seq [5,4] (.region [oa 0 86 (.build [(.int .i64 0),.nils] []),
 os 1 (.storeB 1 2 (.t 4) (.t 86)),
 oa 2 5 (.mv (.c (.bool false)))])
  .ret) .skip))
  (.seq [5,4] (.region [ob 0 87 (.loadB 2 (some 2) (.t 9)),
 os 1 (.storeB 1 2 (.t 4) (.t 87)),
 oa 2 5 (.mv (.c (.bool true)))])
  .ret)))))))))
noncomputable def df_impl_ReadBoot:DFun:=⟨2,88,3,false,[.cell 4 (some 2),.tmp 5],dc_impl_ReadBoot⟩
noncomputable def pf_impl_ReadBoot:PFun:=df_impl_ReadBoot.er
noncomputable def f_impl_ReadBoot:AFun:=pf_impl_ReadBoot.er
@[irreducible] noncomputable def s_impl_ReadBoot:CallSem:=funSem f_impl_ReadBoot
@[irreducible] noncomputable def p_impl_ReadBoot:PSem:=pfunSem pf_impl_ReadBoot
theorem sp_impl_ReadBoot:SoundP s_impl_ReadBoot p_impl_ReadBoot:=by unfold s_impl_ReadBoot p_impl_ReadBoot;exact pfun_sound (f:=pf_impl_ReadBoot) ⟨sp_impl_IsReport,sp_impl_copyInts,sp_impl_IsReport,sp_impl_BootBytes,trivial⟩
def h_impl_ReadBoot:List HT:=[.one .frz (.sl (.one (.int .u8))),.agg [(.frz,.int .i64),(.frz,.sl (.one (.int .i64)))]]
def q_impl_ReadBoot:QT:=.tup [.agg [(.own,.int .i64),(.own,.sl (.one (.int .i64)))],.one .own (.bool)]
@[irreducible] noncomputable def v_impl_ReadBoot(x:List (Int)×(Int×List (Int))):(Int×List (Int))×Bool:=(shut fun x=>fnV df_impl_ReadBoot h_impl_ReadBoot q_impl_ReadBoot x).1 x
@[irreducible] noncomputable def ok_impl_ReadBoot(x:List (Int)×(Int×List (Int))):Prop:=(shut fun x=>fnOk df_impl_ReadBoot h_impl_ReadBoot q_impl_ReadBoot x).1 x
theorem vu_impl_ReadBoot (x):v_impl_ReadBoot x=fnV df_impl_ReadBoot h_impl_ReadBoot q_impl_ReadBoot x:=by unfold v_impl_ReadBoot;exact congrFun (shut _).2 x
theorem ou_impl_ReadBoot (x):ok_impl_ReadBoot x=fnOk df_impl_ReadBoot h_impl_ReadBoot q_impl_ReadBoot x:=by unfold ok_impl_ReadBoot;exact congrFun (shut _).2 x
noncomputable def D_impl_ReadBoot:DSem:=DSemOf h_impl_ReadBoot q_impl_ReadBoot ok_impl_ReadBoot v_impl_ReadBoot
theorem ck_impl_ReadBoot(x:List (Int)×(Int×List (Int))):fnChk df_impl_ReadBoot h_impl_ReadBoot q_impl_ReadBoot x=true:=by kernel_rfl
theorem ob_impl_ReadBoot:AllD df_impl_ReadBoot.body.obs:=⟨sd_impl_IsReport,sd_impl_copyInts,sd_impl_IsReport,sd_impl_BootBytes,trivial⟩
theorem st_impl_ReadBoot:fnSt df_impl_ReadBoot h_impl_ReadBoot q_impl_ReadBoot=true:=by kernel_rfl
theorem sd_impl_ReadBoot:SoundD p_impl_ReadBoot D_impl_ReadBoot:=by unfold p_impl_ReadBoot;exact soundD_of (f:=df_impl_ReadBoot) (hs:=h_impl_ReadBoot) (q:=q_impl_ReadBoot) ob_impl_ReadBoot st_impl_ReadBoot ck_impl_ReadBoot (fun x h=>Eq.mp (ou_impl_ReadBoot x) h) (fun x=>(vu_impl_ReadBoot x).symm)
noncomputable def dc_laws_FnExactReadBoot:DCode:=
 (.seq [3,0] (.region [oa 0 3 (.boxB 0 2 (.t 1)),
 oa 1 4 (.mv (.c (.bool false)))])
  (.seq [3,0] (.seq [19,3,0] (.region [on 0 17 0,
 oa 1 18 (.len (.t 17)),
 oa 2 19 (.bin .gtr (.t 18) (.c (.int .i64 1048576)))])
  (.cond (.t 19) (.seq [4] (.region [oa 0 4 (.mv (.c (.bool true)))])
  .ret) .skip))
  (.seq [5,3,0] (.region [oi 0 5 1048576])
  (.seq [5,3,0] (.region [oa 0 20 (.loadB 0 (some 2) (.t 3)),
 om 1 21 5,
 oc 2 22 s_laws_szReport p_laws_szReport D_laws_szReport [(.t 20),(.t 21)],
 om 3 5 22])
  (.seq [3,0] (.seq [24,3,0] (.region [om 0 23 5,
 oa 1 24 (.bin .lss (.t 23) (.c (.int .i64 0)))])
  (.cond (.t 24) (.seq [4] (.region [oa 0 4 (.mv (.c (.bool true)))])
  .ret) .skip))
  (.seq [7,6,3,0] (.region [oa 8 6 (.allocH [(.int .i64 0),.nils]),
 on 0 26 0,
 oa 2 28 (.loadB 0 (some 2) (.t 3)),
 xC 1 27 s_laws_toByteS p_laws_toByteS D_laws_toByteS [(.t 26)] (rg 1),
 xC 3 29 s_laws_toReport p_laws_toReport D_laws_toReport [(.t 28)] (rg 3),
 xC 4 30 s_spec_ReadBoot p_spec_ReadBoot D_spec_ReadBoot [(.t 27),(.t 29)] (rg 4),
 xA 5 25 (.mv (.t 30)) (rg 5),
 xA 6 31 (.extract (.t 25) 0) (rg 6),
 xA 7 32 (.extract (.t 25) 1) [0,1,2,3,4,5],
 xS 9 (.storeH 2 (.t 6) (.t 31)) [0,1,2,3,4,5,6,8],
 xA 10 7 (.mv (.t 32)) (rg 10)])
  (.seq [8,7,6,3,0] (.region [on 0 33 0,
 oc 1 34 s_laws_toByteS p_laws_toByteS D_laws_toByteS [(.t 33)],
 om 2 8 34])
  (.seq [9,8,7,6,3,0] (.region [oa 0 35 (.loadB 0 (some 2) (.t 3)),
 oc 1 36 s_laws_toReport p_laws_toReport D_laws_toReport [(.t 35)],
 oa 2 9 (.allocB 1 [(.int .i64 0),.nils]),
 os 3 (.storeB 1 2 (.t 9) (.t 36))])
  (.seq [11,10,9,8,7,6,3,0] (.region [on 0 38 8,
 oa 1 39 (.loadB 1 (some 2) (.t 9)),
 oc 2 40 s_impl_ReadBoot p_impl_ReadBoot D_impl_ReadBoot [(.t 38),(.t 39)],
 om 3 37 40,
 oa 4 41 (.extract (.t 37) 0),
 oa 5 42 (.extract (.t 37) 1),
 oa 6 10 (.allocB 2 [(.int .i64 0),.nils]),
 os 7 (.storeB 2 2 (.t 10) (.t 41)),
 om 8 11 42])
  (.seq [11,10,9,8,7,6,3,0] (.seq [51,11,10,9,8,7,6,3,0] (.region [oa 0 43 (.loadB 2 (some 2) (.t 10)),
 oa 1 44 (.loadH (some 2) (.t 6)),
 oc 2 45 s_laws_eqReport p_laws_eqReport D_laws_eqReport [(.t 43),(.t 44)],
 oa 3 46 (.un .not (.t 45)),
 om 4 47 46,
 og 5 48 (.mv (.t 11)) 47 false,
 og 6 49 (.mv (.t 7)) 47 false,
 og 7 50 (.eqB true (.t 48) (.t 49)) 47 false,
 oa 8 51 (.pick (.t 47) (.c (.bool true)) (.t 50))])
  (.cond (.t 51) (.seq [4] (.region [oa 0 4 (.mv (.c (.bool false)))])
  .ret) .skip))
  (.seq [11,10,9,8,7,6,3,0] (.seq [56,11,10,9,8,7,6,3,0] (.region [on 0 52 8,
 on 1 53 0,
 oc 2 54 s_laws_toByteS p_laws_toByteS D_laws_toByteS [(.t 53)],
 oc 3 55 s_laws_eqByteS p_laws_eqByteS D_laws_eqByteS [(.t 52),(.t 54)],
 oa 4 56 (.un .not (.t 55))])
  (.cond (.t 56) (.seq [4] (.region [oa 0 4 (.mv (.c (.bool false)))])
  .ret) .skip))
  (.seq [11,10,9,8,7,6,3,0] (.seq [61,11,10,9,8,7,6,3,0] (.region [oa 0 57 (.loadB 1 (some 2) (.t 9)),
 oa 1 58 (.loadB 0 (some 2) (.t 3)),
 xC 2 59 s_laws_toReport p_laws_toReport D_laws_toReport [(.t 58)] [1],
 xC 3 60 s_laws_eqReport p_laws_eqReport D_laws_eqReport [(.t 57),(.t 59)] (rg 3),
 xA 4 61 (.un .not (.t 60)) (rg 4)])
  (.cond (.t 61) (.seq [4] (.region [oa 0 4 (.mv (.c (.bool false)))])
  .ret) .skip))
  (.seq [12,11,10,9,8,7,6,3,0] (.region [oi 0 12 1])
  (.seq [12,11,10,9,7,6,3,0] (.region [on 0 62 8,
 om 1 63 12,
 ⟨2,some 64,.mark s_laws_markByteS M_laws_markByteS (.t 62) (.t 63),none,[]⟩,
 om 3 12 64])
  (.seq [12,11,10,7,6,3,0] (.region [oa 0 65 (.loadB 1 (some 2) (.t 9)),
 om 1 66 12,
 ⟨2,some 67,.mark s_laws_markReport M_laws_markReport (.t 65) (.t 66),none,[]⟩,
 om 3 12 67])
  (.seq [10,7,6,3,0] (.seq [80,10,7,6,3,0] (.region [om 0 68 12,
 oa 1 69 (.bin .lss (.t 68) (.c (.int .i64 0))),
 om 2 70 69,
 og 3 71 (.loadB 2 (some 2) (.t 10)) 70 false,
 og 4 72 (.loadH (some 2) (.t 6)) 70 false,
 ⟨5,some 73,.call false s_laws_eqReport p_laws_eqReport D_laws_eqReport [(.t 71),(.t 72)],(some (70,false)),[]⟩,
 og 6 74 (.un .not (.t 73)) 70 false,
 oa 7 75 (.pick (.t 70) (.c (.bool true)) (.t 74)),
 om 8 76 75,
 og 9 77 (.mv (.t 11)) 76 false,
 og 10 78 (.mv (.t 7)) 76 false,
 og 11 79 (.eqB true (.t 77) (.t 78)) 76 false,
 oa 12 80 (.pick (.t 76) (.c (.bool true)) (.t 79))])
  (.cond (.t 80) (.seq [4] (.region [oa 0 4 (.mv (.c (.bool false)))])
  .ret) .skip))
  (.seq [13,10,7,6,3,0] (.region [oi 0 13 1])
  (.seq [13,10,7,6,3,0] (.region [oa 0 81 (.loadB 2 (some 2) (.t 10)),
 om 1 82 13,
 ⟨2,some 83,.mark s_laws_markReport M_laws_markReport (.t 81) (.t 82),none,[]⟩,
 om 3 13 83])
  (.seq [14,13,10,7,6,3,0] (.region [oi 0 14 1])
  (.seq [14,13,10,7,6,3,0] (.region [oa 0 84 (.loadB 2 (some 2) (.t 10)),
 om 1 85 14,
 oc 2 86 s_laws_heldReport p_laws_heldReport D_laws_heldReport [(.t 84),(.t 85)],
 om 3 14 86])
  (.seq [14,13,10,7,6,3,0] (.seq [88,14,13,10,7,6,3,0] (.region [om 0 87 14,
 oa 1 88 (.bin .lss (.t 87) (.c (.int .i64 0)))])
  (.cond (.t 88) (.seq [4] (.region [oa 0 4 (.mv (.c (.bool false)))])
  .ret) .skip))
  (.seq [13,10,7,6,3,0] (.seq [91,13,10,7,6,3,0] (.region [om 0 89 14,
 om 1 90 13,
 oa 2 91 (.bin .neq (.t 89) (.t 90))])
  (.cond (.t 91) (.seq [4] (.region [oa 0 4 (.mv (.c (.bool false)))])
  .ret) .skip))
  (.seq [16,15,13,10,7,6] (.region [oa 8 15 (.allocH [(.int .i64 0),.nils]),
 on 0 93 0,
 oa 2 95 (.loadB 0 (some 2) (.t 3)),
 xC 1 94 s_laws_toByteS p_laws_toByteS D_laws_toByteS [(.t 93)] (rg 1),
 xC 3 96 s_laws_toReport p_laws_toReport D_laws_toReport [(.t 95)] (rg 3),
 xC 4 97 s_impl_ReadBoot p_impl_ReadBoot D_impl_ReadBoot [(.t 94),(.t 96)] (rg 4),
 xA 5 92 (.mv (.t 97)) (rg 5),
 xA 6 98 (.extract (.t 92) 0) (rg 6),
 xA 7 99 (.extract (.t 92) 1) [0,1,2,3,4,5],
 xS 9 (.storeH 2 (.t 15) (.t 98)) [0,1,2,3,4,5,6,8],
 xA 10 16 (.mv (.t 99)) (rg 10)])
  (.seq [13,10] (.seq [108,13,10] (.region [oa 0 100 (.loadH (some 2) (.t 15)),
 oa 1 101 (.loadH (some 2) (.t 6)),
 oc 2 102 s_laws_eqReport p_laws_eqReport D_laws_eqReport [(.t 100),(.t 101)],
 oa 3 103 (.un .not (.t 102)),
 om 4 104 103,
 og 5 105 (.mv (.t 16)) 104 false,
 og 6 106 (.mv (.t 7)) 104 false,
 og 7 107 (.eqB true (.t 105) (.t 106)) 104 false,
 oa 8 108 (.pick (.t 104) (.c (.bool true)) (.t 107))])
  (.cond (.t 108) (.seq [4] (.region [oa 0 4 (.mv (.c (.bool false)))])
  .ret) .skip))
  (.seq [14,13,10] (.region [oi 0 14 1])
  (.seq [14,13] (.region [oa 0 109 (.loadB 2 (some 2) (.t 10)),
 om 1 110 14,
 oc 2 111 s_laws_heldReport p_laws_heldReport D_laws_heldReport [(.t 109),(.t 110)],
 om 3 14 111])
  (.seq [14,13] (.seq [113,14,13] (.region [om 0 112 14,
 oa 1 113 (.bin .lss (.t 112) (.c (.int .i64 0)))])
  (.cond (.t 113) (.seq [4] (.region [oa 0 4 (.mv (.c (.bool false)))])
  .ret) .skip))
  (.seq [] (.seq [116] (.region [om 0 114 14,
 om 1 115 13,
 oa 2 116 (.bin .neq (.t 114) (.t 115))])
  (.cond (.t 116) (.seq [4] (.region [oa 0 4 (.mv (.c (.bool false)))])
  .ret) .skip))
  (.seq [4] (.region [oa 0 4 (.mv (.c (.bool true)))])
  .ret)))))))))))))))))))))))))))))
noncomputable def df_laws_FnExactReadBoot:DFun:=⟨2,117,3,true,[.tmp 4],dc_laws_FnExactReadBoot⟩
noncomputable def pf_laws_FnExactReadBoot:PFun:=df_laws_FnExactReadBoot.er
noncomputable def f_laws_FnExactReadBoot:AFun:=pf_laws_FnExactReadBoot.er
@[irreducible] noncomputable def s_laws_FnExactReadBoot:CallSem:=funSem f_laws_FnExactReadBoot
@[irreducible] noncomputable def p_laws_FnExactReadBoot:PSem:=pfunSem pf_laws_FnExactReadBoot
theorem sp_laws_FnExactReadBoot:SoundP s_laws_FnExactReadBoot p_laws_FnExactReadBoot:=by unfold s_laws_FnExactReadBoot p_laws_FnExactReadBoot;exact pfun_sound (f:=pf_laws_FnExactReadBoot) ⟨sp_laws_szReport,sp_laws_toByteS,sp_laws_toReport,sp_spec_ReadBoot,sp_laws_toByteS,sp_laws_toReport,sp_impl_ReadBoot,sp_laws_eqReport,sp_laws_toByteS,sp_laws_eqByteS,sp_laws_toReport,sp_laws_eqReport,smk_laws_markByteS,smk_laws_markReport,sp_laws_eqReport,smk_laws_markReport,sp_laws_heldReport,sp_laws_toByteS,sp_laws_toReport,sp_impl_ReadBoot,sp_laws_eqReport,sp_laws_heldReport,trivial⟩
def h_laws_FnExactReadBoot:List HT:=[.one .frz (.sl (.one (.int .u8))),.agg [(.frz,.int .i64),(.frz,.sl (.one (.int .i64)))]]
def q_laws_FnExactReadBoot:QT:=.one (.one .own (.bool))
@[irreducible] noncomputable def v_laws_FnExactReadBoot(x:List (Int)×(Int×List (Int))):Bool:=(shut fun x=>fnV df_laws_FnExactReadBoot h_laws_FnExactReadBoot q_laws_FnExactReadBoot x).1 x
@[irreducible] noncomputable def ok_laws_FnExactReadBoot(x:List (Int)×(Int×List (Int))):Prop:=(shut fun x=>fnOk df_laws_FnExactReadBoot h_laws_FnExactReadBoot q_laws_FnExactReadBoot x).1 x
theorem vu_laws_FnExactReadBoot (x):v_laws_FnExactReadBoot x=fnV df_laws_FnExactReadBoot h_laws_FnExactReadBoot q_laws_FnExactReadBoot x:=by unfold v_laws_FnExactReadBoot;exact congrFun (shut _).2 x
theorem ou_laws_FnExactReadBoot (x):ok_laws_FnExactReadBoot x=fnOk df_laws_FnExactReadBoot h_laws_FnExactReadBoot q_laws_FnExactReadBoot x:=by unfold ok_laws_FnExactReadBoot;exact congrFun (shut _).2 x
theorem ck_laws_FnExactReadBoot(x:List (Int)×(Int×List (Int))):fnChk df_laws_FnExactReadBoot h_laws_FnExactReadBoot q_laws_FnExactReadBoot x=true:=by kernel_rfl
theorem ob_laws_FnExactReadBoot:AllD df_laws_FnExactReadBoot.body.obs:=⟨sd_laws_szReport,sd_laws_toByteS,sd_laws_toReport,sd_spec_ReadBoot,sd_laws_toByteS,sd_laws_toReport,sd_impl_ReadBoot,sd_laws_eqReport,sd_laws_toByteS,sd_laws_eqByteS,sd_laws_toReport,sd_laws_eqReport,sd_laws_eqReport,sd_laws_heldReport,sd_laws_toByteS,sd_laws_toReport,sd_impl_ReadBoot,sd_laws_eqReport,sd_laws_heldReport,trivial⟩
theorem st_laws_FnExactReadBoot:fnSt df_laws_FnExactReadBoot h_laws_FnExactReadBoot q_laws_FnExactReadBoot=true:=by kernel_rfl
end
section
set_option maxRecDepth 100000
noncomputable def lc_spec_IsReport_1(x:Int×List (Int))(x0:Int):Bool:=(bAnd (iLt x0 (lLen x.2)) (bNot (bOr (bNot (v_spec_l1In ((lGet x.2 (iNat x0) 0),1,56))) (bAnd (iGt x0 0) (iGe (lGet x.2 (iNat (iSub .i64 x0 1)) 0) (lGet x.2 (iNat x0) 0))))))
noncomputable def lf_spec_IsReport_1(x0:Int):Int:=(iAdd .i64 x0 1)
noncomputable def lp_spec_IsReport_1(x:Int×List (Int))(x0:Int):Prop:=(((iLt x0 (lLen x.2))=true→((((0:Int)≤x0)∧(x0<(((List.length x.2):Int))))∧(((iNat x0)<(List.length x.2))∧((ok_spec_l1In ((lGet x.2 (iNat x0) 0),1,56))∧(((bNot (v_spec_l1In ((lGet x.2 (iNat x0) 0),1,56)))=true→True)∧((bNot (v_spec_l1In ((lGet x.2 (iNat x0) 0),1,56)))=false→(((iGt x0 0)=true→((((0:Int)≤(iSub .i64 x0 1))∧((iSub .i64 x0 1)<(((List.length x.2):Int))))∧(((iNat (iSub .i64 x0 1))<(List.length x.2))∧((((0:Int)≤x0)∧(x0<(((List.length x.2):Int))))∧((iNat x0)<(List.length x.2))))))∧((iGt x0 0)=false→True))))))))∧((iLt x0 (lLen x.2))=false→True))
theorem ve_spec_IsReport (x):v_spec_IsReport x=(bAnd (bNot (iLt (loopV (lc_spec_IsReport_1 x) lf_spec_IsReport_1 0) (lLen x.2))) (v_spec_l1In (x.1,0,15))):=(vu_spec_IsReport x).trans (by kernel_rfl)
theorem oe_spec_IsReport (x):ok_spec_IsReport x=((LoopOk (lc_spec_IsReport_1 x) lf_spec_IsReport_1 (lp_spec_IsReport_1 x) 0)∧(((iLt (loopV (lc_spec_IsReport_1 x) lf_spec_IsReport_1 0) (lLen x.2))=true→True)∧((iLt (loopV (lc_spec_IsReport_1 x) lf_spec_IsReport_1 0) (lLen x.2))=false→(ok_spec_l1In (x.1,0,15))))):=(ou_spec_IsReport x).trans (by kernel_rfl)
noncomputable def lc_impl_IsReport_1(x:Int×List (Int))(x0:Int):Bool:=(bAnd (iLt x0 (lLen x.2)) (bNot (bOr (bNot (v_impl_isCode (lGet x.2 (iNat x0) 0))) (bAnd (iGt x0 0) (iGe (lGet x.2 (iNat (iSub .i64 x0 1)) 0) (lGet x.2 (iNat x0) 0))))))
noncomputable def lf_impl_IsReport_1(x0:Int):Int:=(iAdd .i64 x0 1)
noncomputable def lp_impl_IsReport_1(x:Int×List (Int))(x0:Int):Prop:=(((iLt x0 (lLen x.2))=true→((((0:Int)≤x0)∧(x0<(((List.length x.2):Int))))∧(((iNat x0)<(List.length x.2))∧((ok_impl_isCode (lGet x.2 (iNat x0) 0))∧(((bNot (v_impl_isCode (lGet x.2 (iNat x0) 0)))=true→True)∧((bNot (v_impl_isCode (lGet x.2 (iNat x0) 0)))=false→(((iGt x0 0)=true→((((0:Int)≤(iSub .i64 x0 1))∧((iSub .i64 x0 1)<(((List.length x.2):Int))))∧((iNat (iSub .i64 x0 1))<(List.length x.2))))∧((iGt x0 0)=false→True))))))))∧((iLt x0 (lLen x.2))=false→True))
theorem ve_impl_IsReport (x):v_impl_IsReport x=(bAnd (bNot (bOr (iLt x.1 0) (iGt x.1 15))) (bNot (iLt (loopV (lc_impl_IsReport_1 x) lf_impl_IsReport_1 0) (lLen x.2)))):=(vu_impl_IsReport x).trans (by kernel_rfl)
theorem oe_impl_IsReport (x):ok_impl_IsReport x=(((bOr (iLt x.1 0) (iGt x.1 15))=true→True)∧((bOr (iLt x.1 0) (iGt x.1 15))=false→(LoopOk (lc_impl_IsReport_1 x) lf_impl_IsReport_1 (lp_impl_IsReport_1 x) 0))):=(ou_impl_IsReport x).trans (by kernel_rfl)
noncomputable def lc_spec_BootBytes_1(x0:((List Int)×Int)):Bool:=(iLt x0.2 6)
noncomputable def lf_spec_BootBytes_1(x:Int×List (Int))(x0:((List Int)×Int)):((List Int)×Int):=((bSel (iGt (lLen x.2) 6) (lSet x0.1 (iNat (iAdd .i64 2 x0.2)) 1) (bSel (iLt x0.2 (lLen x.2)) (lSet x0.1 (iNat (iAdd .i64 2 x0.2)) (iConv .u8 (iAdd .i64 (lGet x.2 (iNat x0.2) 0) 3))) x0.1)),(iAdd .i64 x0.2 1))
noncomputable def lp_spec_BootBytes_1(x:Int×List (Int))(x0:((List Int)×Int)):Prop:=(((iLt x0.2 6)=true→(((iGt (lLen x.2) 6)=true→((((0:Int)≤(iAdd .i64 2 x0.2))∧((iAdd .i64 2 x0.2)<(((List.length x0.1):Int))))∧((iNat (iAdd .i64 2 x0.2))<(List.length x0.1))))∧((iGt (lLen x.2) 6)=false→(((iLt x0.2 (lLen x.2))=true→((((0:Int)≤x0.2)∧(x0.2<(((List.length x.2):Int))))∧(((iNat x0.2)<(List.length x.2))∧((((0:Int)≤(iAdd .i64 2 x0.2))∧((iAdd .i64 2 x0.2)<(((List.length x0.1):Int))))∧((iNat (iAdd .i64 2 x0.2))<(List.length x0.1))))))∧((iLt x0.2 (lLen x.2))=false→True)))))∧((iLt x0.2 6)=false→True))
theorem ve_spec_BootBytes (x):v_spec_BootBytes x=(bSel (bNot (v_spec_IsReport x)) [] (loopV lc_spec_BootBytes_1 (lf_spec_BootBytes_1 x) ([(iConv .u8 x.1),0,0,0,0,0,0,0],0)).1):=(vu_spec_BootBytes x).trans (by kernel_rfl)
theorem oe_spec_BootBytes (x):ok_spec_BootBytes x=((ok_spec_IsReport x)∧(((bNot (v_spec_IsReport x))=true→True)∧((bNot (v_spec_IsReport x))=false→(LoopOk lc_spec_BootBytes_1 (lf_spec_BootBytes_1 x) (lp_spec_BootBytes_1 x) ([(iConv .u8 x.1),0,0,0,0,0,0,0],0))))):=(ou_spec_BootBytes x).trans (by kernel_rfl)
noncomputable def lc_impl_BootBytes_1(x0:((List Int)×Int)):Bool:=(iLt x0.2 6)
noncomputable def lf_impl_BootBytes_1(x:Int×List (Int))(x0:((List Int)×Int)):((List Int)×Int):=((bSel (iGt (lLen x.2) 6) (lSet x0.1 (iNat (iAdd .i64 x0.2 2)) 1) (bSel (iLt x0.2 (lLen x.2)) (lSet x0.1 (iNat (iAdd .i64 x0.2 2)) (iConv .u8 (iAdd .i64 (lGet x.2 (iNat x0.2) 0) 3))) x0.1)),(iAdd .i64 x0.2 1))
noncomputable def lp_impl_BootBytes_1(x:Int×List (Int))(x0:((List Int)×Int)):Prop:=(((iLt x0.2 6)=true→(((iGt (lLen x.2) 6)=true→((((0:Int)≤(iAdd .i64 x0.2 2))∧((iAdd .i64 x0.2 2)<(((List.length x0.1):Int))))∧((iNat (iAdd .i64 x0.2 2))<(List.length x0.1))))∧((iGt (lLen x.2) 6)=false→(((iLt x0.2 (lLen x.2))=true→((((0:Int)≤x0.2)∧(x0.2<(((List.length x.2):Int))))∧(((iNat x0.2)<(List.length x.2))∧((((0:Int)≤(iAdd .i64 x0.2 2))∧((iAdd .i64 x0.2 2)<(((List.length x0.1):Int))))∧((iNat (iAdd .i64 x0.2 2))<(List.length x0.1))))))∧((iLt x0.2 (lLen x.2))=false→True)))))∧((iLt x0.2 6)=false→True))
theorem ve_impl_BootBytes (x):v_impl_BootBytes x=(bSel (bNot (v_impl_IsReport x)) [] (loopV lc_impl_BootBytes_1 (lf_impl_BootBytes_1 x) ((lSet (lRep 8 0) (iNat 0) (iConv .u8 x.1)),0)).1):=(vu_impl_BootBytes x).trans (by kernel_rfl)
theorem oe_impl_BootBytes (x):ok_impl_BootBytes x=((ok_impl_IsReport x)∧(((bNot (v_impl_IsReport x))=true→True)∧((bNot (v_impl_IsReport x))=false→((((0:Int)≤8)∧(roomy 8))∧((((0:Int)≤0)∧((0:Int)<(((List.length (lRep 8 (0:Int))):Int))))∧(((iNat 0)<(List.length (lRep 8 (0:Int))))∧(LoopOk lc_impl_BootBytes_1 (lf_impl_BootBytes_1 x) (lp_impl_BootBytes_1 x) ((lSet (lRep 8 0) (iNat 0) (iConv .u8 x.1)),0)))))))):=(ou_impl_BootBytes x).trans (by kernel_rfl)
noncomputable def lc_spec_ReadBoot_1(x:List (Int)×(Int×List (Int)))(x0:(Int×(Int×(List Int)))):Bool:=(bAnd (iLt x0.2.1 8) (bNot (bAnd (iNe (lGet x.1 (iNat x0.2.1) 0) 0) (bAnd (iEq (lGet x.1 (iNat (iSub .i64 x0.2.1 1)) 0) 0) (iGt x0.2.1 2)))))
noncomputable def lf_spec_ReadBoot_1(x:List (Int)×(Int×List (Int)))(x0:(Int×(Int×(List Int)))):(Int×(Int×(List Int))):=((bSel (iEq (lGet x.1 (iNat x0.2.1) 0) 1) (iAdd .i64 x0.1 1) x0.1),(iAdd .i64 x0.2.1 1),(bSel (iNe (lGet x.1 (iNat x0.2.1) 0) 0) (lApp x0.2.2 [(iSub .i64 (iConv .i64 (lGet x.1 (iNat x0.2.1) 0)) 3)]) x0.2.2))
noncomputable def lp_spec_ReadBoot_1(x:List (Int)×(Int×List (Int)))(x0:(Int×(Int×(List Int)))):Prop:=(((iLt x0.2.1 8)=true→(((((0:Int)≤x0.2.1)∧(x0.2.1<(((List.length x.1):Int))))∧((iNat x0.2.1)<(List.length x.1)))∧(((((0:Int)≤x0.2.1)∧(x0.2.1<(((List.length x.1):Int))))∧(((iNat x0.2.1)<(List.length x.1))∧(((iNe (lGet x.1 (iNat x0.2.1) 0) 0)=true→((((0:Int)≤x0.2.1)∧(x0.2.1<(((List.length x.1):Int))))∧(((iNat x0.2.1)<(List.length x.1))∧(roomy (((List.length x0.2.2)+(List.length [(iSub .i64 (iConv .i64 (lGet x.1 (iNat x0.2.1) 0)) 3)]))*1)))))∧((iNe (lGet x.1 (iNat x0.2.1) 0) 0)=false→True))))∧((((0:Int)≤x0.2.1)∧(x0.2.1<(((List.length x.1):Int))))∧(((iNat x0.2.1)<(List.length x.1))∧(((iNe (lGet x.1 (iNat x0.2.1) 0) 0)=true→((((0:Int)≤(iSub .i64 x0.2.1 1))∧((iSub .i64 x0.2.1 1)<(((List.length x.1):Int))))∧((iNat (iSub .i64 x0.2.1 1))<(List.length x.1))))∧((iNe (lGet x.1 (iNat x0.2.1) 0) 0)=false→True)))))))∧((iLt x0.2.1 8)=false→True))
theorem ve_spec_ReadBoot (x):v_spec_ReadBoot x=(bSel (bOr (iNe (lLen x.1) 8) (bOr (iGt (iConv .i64 (lGet x.1 (iNat 0) 0)) 15) (bOr (iNe (lGet x.1 (iNat 1) 0) 0) (bNot (v_spec_IsReport x.2))))) ((0,[]),false) (bSel (iLt (loopV (lc_spec_ReadBoot_1 x) (lf_spec_ReadBoot_1 x) (0,2,[])).2.1 8) ((0,[]),false) (bSel (iEq (loopV (lc_spec_ReadBoot_1 x) (lf_spec_ReadBoot_1 x) (0,2,[])).1 6) (((iConv .i64 (lGet x.1 (iNat 0) 0)),x.2.2),true) (bSel (bNot (v_spec_IsReport ((iConv .i64 (lGet x.1 (iNat 0) 0)),(loopV (lc_spec_ReadBoot_1 x) (lf_spec_ReadBoot_1 x) (0,2,[])).2.2))) ((0,[]),false) (((iConv .i64 (lGet x.1 (iNat 0) 0)),(loopV (lc_spec_ReadBoot_1 x) (lf_spec_ReadBoot_1 x) (0,2,[])).2.2),true))))):=(vu_spec_ReadBoot x).trans (by kernel_rfl)
theorem oe_spec_ReadBoot (x):ok_spec_ReadBoot x=((((iNe (lLen x.1) 8)=true→True)∧((iNe (lLen x.1) 8)=false→((((0:Int)≤0)∧((0:Int)<(((List.length x.1):Int))))∧(((iNat 0)<(List.length x.1))∧(((iGt (iConv .i64 (lGet x.1 (iNat 0) 0)) 15)=true→True)∧((iGt (iConv .i64 (lGet x.1 (iNat 0) 0)) 15)=false→((((0:Int)≤1)∧((1:Int)<(((List.length x.1):Int))))∧(((iNat 1)<(List.length x.1))∧(((iNe (lGet x.1 (iNat 1) 0) 0)=true→True)∧((iNe (lGet x.1 (iNat 1) 0) 0)=false→(ok_spec_IsReport x.2)))))))))))∧(((bOr (iNe (lLen x.1) 8) (bOr (iGt (iConv .i64 (lGet x.1 (iNat 0) 0)) 15) (bOr (iNe (lGet x.1 (iNat 1) 0) 0) (bNot (v_spec_IsReport x.2)))))=true→True)∧((bOr (iNe (lLen x.1) 8) (bOr (iGt (iConv .i64 (lGet x.1 (iNat 0) 0)) 15) (bOr (iNe (lGet x.1 (iNat 1) 0) 0) (bNot (v_spec_IsReport x.2)))))=false→((((0:Int)≤0)∧((0:Int)<(((List.length x.1):Int))))∧(((iNat 0)<(List.length x.1))∧((LoopOk (lc_spec_ReadBoot_1 x) (lf_spec_ReadBoot_1 x) (lp_spec_ReadBoot_1 x) (0,2,[]))∧(((iLt (loopV (lc_spec_ReadBoot_1 x) (lf_spec_ReadBoot_1 x) (0,2,[])).2.1 8)=true→True)∧((iLt (loopV (lc_spec_ReadBoot_1 x) (lf_spec_ReadBoot_1 x) (0,2,[])).2.1 8)=false→(((iEq (loopV (lc_spec_ReadBoot_1 x) (lf_spec_ReadBoot_1 x) (0,2,[])).1 6)=true→((((0:Int)≤0)∧((0:Int)<(((List.length x.1):Int))))∧(((iNat 0)<(List.length x.1))∧(roomy ((List.length x.2.2)*1)))))∧((iEq (loopV (lc_spec_ReadBoot_1 x) (lf_spec_ReadBoot_1 x) (0,2,[])).1 6)=false→(ok_spec_IsReport ((iConv .i64 (lGet x.1 (iNat 0) 0)),(loopV (lc_spec_ReadBoot_1 x) (lf_spec_ReadBoot_1 x) (0,2,[])).2.2)))))))))))):=(ou_spec_ReadBoot x).trans (by kernel_rfl)
theorem ve_impl_copyInts (x):v_impl_copyInts x=x:=(vu_impl_copyInts x).trans (by kernel_rfl)
theorem oe_impl_copyInts (x):ok_impl_copyInts x=(roomy ((List.length x)*1)):=(ou_impl_copyInts x).trans (by kernel_rfl)
noncomputable def lc_impl_ReadBoot_1(x:List (Int)×(Int×List (Int)))(x0:(Bool×Int)):Bool:=(iLt x0.2 (lLen (lSub x.1 (iNat 2) (lN x.1))))
noncomputable def lf_impl_ReadBoot_1(x:List (Int)×(Int×List (Int)))(x0:(Bool×Int)):(Bool×Int):=((bAnd x0.1 (iEq (lGet (lSub x.1 (iNat 2) (lN x.1)) (iNat x0.2) 0) 1)),(iAdd .i64 x0.2 1))
noncomputable def lc_impl_ReadBoot_2(x:List (Int)×(Int×List (Int)))(x0:(Int×(List Int))):Bool:=(iLt x0.1 (lLen (lSub x.1 (iNat 2) (lN x.1))))
noncomputable def lf_impl_ReadBoot_2(x:List (Int)×(Int×List (Int)))(x0:(Int×(List Int))):(Int×(List Int)):=((iAdd .i64 x0.1 1),(bSel (iNe (lGet (lSub x.1 (iNat 2) (lN x.1)) (iNat x0.1) 0) 0) (lApp x0.2 [(iSub .i64 (iConv .i64 (lGet (lSub x.1 (iNat 2) (lN x.1)) (iNat x0.1) 0)) 3)]) x0.2))
noncomputable def lp_impl_ReadBoot_1(x:List (Int)×(Int×List (Int)))(x0:(Bool×Int)):Prop:=(((iLt x0.2 (lLen (lSub x.1 (iNat 2) (lN x.1))))=true→((((0:Int)≤x0.2)∧(x0.2<(((List.length (lSub x.1 (iNat 2) (lN x.1))):Int))))∧((iNat x0.2)<(List.length (lSub x.1 (iNat 2) (lN x.1))))))∧((iLt x0.2 (lLen (lSub x.1 (iNat 2) (lN x.1))))=false→True))
noncomputable def lp_impl_ReadBoot_2(x:List (Int)×(Int×List (Int)))(x0:(Int×(List Int))):Prop:=(((iLt x0.1 (lLen (lSub x.1 (iNat 2) (lN x.1))))=true→((((0:Int)≤x0.1)∧(x0.1<(((List.length (lSub x.1 (iNat 2) (lN x.1))):Int))))∧(((iNat x0.1)<(List.length (lSub x.1 (iNat 2) (lN x.1))))∧(((iNe (lGet (lSub x.1 (iNat 2) (lN x.1)) (iNat x0.1) 0) 0)=true→(roomy (((List.length x0.2)+(List.length [(iSub .i64 (iConv .i64 (lGet (lSub x.1 (iNat 2) (lN x.1)) (iNat x0.1) 0)) 3)]))*1)))∧((iNe (lGet (lSub x.1 (iNat 2) (lN x.1)) (iNat x0.1) 0) 0)=false→True)))))∧((iLt x0.1 (lLen (lSub x.1 (iNat 2) (lN x.1))))=false→True))
theorem ve_impl_ReadBoot (x):v_impl_ReadBoot x=(bSel (bOr (iNe (lLen x.1) 8) (bOr (iGt (lGet x.1 (iNat 0) 0) 15) (bOr (iNe (lGet x.1 (iNat 1) 0) 0) (bNot (v_impl_IsReport x.2))))) ((0,[]),false) (bSel (loopV (lc_impl_ReadBoot_1 x) (lf_impl_ReadBoot_1 x) (true,0)).1 (((iConv .i64 (lGet x.1 (iNat 0) 0)),(v_impl_copyInts x.2.2)),true) (bSel (bOr (bNot (v_impl_IsReport ((iConv .i64 (lGet x.1 (iNat 0) 0)),(loopV (lc_impl_ReadBoot_2 x) (lf_impl_ReadBoot_2 x) (0,[])).2))) (sNe (rowS (v_impl_BootBytes ((iConv .i64 (lGet x.1 (iNat 0) 0)),(loopV (lc_impl_ReadBoot_2 x) (lf_impl_ReadBoot_2 x) (0,[])).2))) (rowS x.1))) ((0,[]),false) (((iConv .i64 (lGet x.1 (iNat 0) 0)),(loopV (lc_impl_ReadBoot_2 x) (lf_impl_ReadBoot_2 x) (0,[])).2),true)))):=(vu_impl_ReadBoot x).trans (by kernel_rfl)
theorem oe_impl_ReadBoot (x):ok_impl_ReadBoot x=((((iNe (lLen x.1) 8)=true→True)∧((iNe (lLen x.1) 8)=false→((((0:Int)≤0)∧((0:Int)<(((List.length x.1):Int))))∧(((iNat 0)<(List.length x.1))∧(((iGt (lGet x.1 (iNat 0) 0) 15)=true→True)∧((iGt (lGet x.1 (iNat 0) 0) 15)=false→((((0:Int)≤1)∧((1:Int)<(((List.length x.1):Int))))∧(((iNat 1)<(List.length x.1))∧(((iNe (lGet x.1 (iNat 1) 0) 0)=true→True)∧((iNe (lGet x.1 (iNat 1) 0) 0)=false→(ok_impl_IsReport x.2)))))))))))∧(((bOr (iNe (lLen x.1) 8) (bOr (iGt (lGet x.1 (iNat 0) 0) 15) (bOr (iNe (lGet x.1 (iNat 1) 0) 0) (bNot (v_impl_IsReport x.2)))))=true→True)∧((bOr (iNe (lLen x.1) 8) (bOr (iGt (lGet x.1 (iNat 0) 0) 15) (bOr (iNe (lGet x.1 (iNat 1) 0) 0) (bNot (v_impl_IsReport x.2)))))=false→((((0:Int)≤2)∧(((iNat 2)≤(lN x.1))∧(((lN x.1)≤(List.length x.1))∧(0<(List.length x.1)))))∧((LoopOk (lc_impl_ReadBoot_1 x) (lf_impl_ReadBoot_1 x) (lp_impl_ReadBoot_1 x) (true,0))∧((((0:Int)≤0)∧((0:Int)<(((List.length x.1):Int))))∧(((iNat 0)<(List.length x.1))∧(((loopV (lc_impl_ReadBoot_1 x) (lf_impl_ReadBoot_1 x) (true,0)).1=true→(ok_impl_copyInts x.2.2))∧((loopV (lc_impl_ReadBoot_1 x) (lf_impl_ReadBoot_1 x) (true,0)).1=false→((((0:Int)≤2)∧(((iNat 2)≤(lN x.1))∧(((lN x.1)≤(List.length x.1))∧(0<(List.length x.1)))))∧((LoopOk (lc_impl_ReadBoot_2 x) (lf_impl_ReadBoot_2 x) (lp_impl_ReadBoot_2 x) (0,[]))∧((ok_impl_IsReport ((iConv .i64 (lGet x.1 (iNat 0) 0)),(loopV (lc_impl_ReadBoot_2 x) (lf_impl_ReadBoot_2 x) (0,[])).2))∧(((bNot (v_impl_IsReport ((iConv .i64 (lGet x.1 (iNat 0) 0)),(loopV (lc_impl_ReadBoot_2 x) (lf_impl_ReadBoot_2 x) (0,[])).2)))=true→True)∧((bNot (v_impl_IsReport ((iConv .i64 (lGet x.1 (iNat 0) 0)),(loopV (lc_impl_ReadBoot_2 x) (lf_impl_ReadBoot_2 x) (0,[])).2)))=false→(ok_impl_BootBytes ((iConv .i64 (lGet x.1 (iNat 0) 0)),(loopV (lc_impl_ReadBoot_2 x) (lf_impl_ReadBoot_2 x) (0,[])).2)))))))))))))))):=(ou_impl_ReadBoot x).trans (by kernel_rfl)
theorem ve_laws_FnExactReadBoot (x):v_laws_FnExactReadBoot x=(bOr (iGt (lLen x.1) 1048576) (bOr (iLt (v_laws_szReport (x.2,1048576)) 0) (bAnd (bNot (bOr (bNot (v_laws_eqReport ((v_impl_ReadBoot ((v_laws_toByteS x.1),(v_laws_toReport x.2))).1,(v_spec_ReadBoot ((v_laws_toByteS x.1),(v_laws_toReport x.2))).1))) (bNot (bIff (v_impl_ReadBoot ((v_laws_toByteS x.1),(v_laws_toReport x.2))).2 (v_spec_ReadBoot ((v_laws_toByteS x.1),(v_laws_toReport x.2))).2)))) (bAnd (bNot (bNot (v_laws_eqByteS ((v_laws_toByteS x.1),(v_laws_toByteS x.1))))) (bAnd (bNot (bNot (v_laws_eqReport ((v_laws_toReport x.2),(v_laws_toReport x.2))))) (bAnd (bNot (bOr (iLt (mg_laws_markReport (v_laws_toReport x.2) (mg_laws_markByteS (v_laws_toByteS x.1) 1).2).2 0) (bOr (bNot (v_laws_eqReport ((v_impl_ReadBoot ((v_laws_toByteS x.1),(v_laws_toReport x.2))).1,(v_spec_ReadBoot ((v_laws_toByteS x.1),(v_laws_toReport x.2))).1))) (bNot (bIff (v_impl_ReadBoot ((v_laws_toByteS x.1),(v_laws_toReport x.2))).2 (v_spec_ReadBoot ((v_laws_toByteS x.1),(v_laws_toReport x.2))).2))))) (bAnd (bNot (iLt (v_laws_heldReport (((v_impl_ReadBoot ((v_laws_toByteS x.1),(v_laws_toReport x.2))).1.1,(mg_laws_markReport (v_impl_ReadBoot ((v_laws_toByteS x.1),(v_laws_toReport x.2))).1 1).1.2),1)) 0)) (bAnd (bNot (iNe (v_laws_heldReport (((v_impl_ReadBoot ((v_laws_toByteS x.1),(v_laws_toReport x.2))).1.1,(mg_laws_markReport (v_impl_ReadBoot ((v_laws_toByteS x.1),(v_laws_toReport x.2))).1 1).1.2),1)) (mg_laws_markReport (v_impl_ReadBoot ((v_laws_toByteS x.1),(v_laws_toReport x.2))).1 1).2)) (bAnd (bNot (bOr (bNot (v_laws_eqReport ((v_impl_ReadBoot ((v_laws_toByteS x.1),(v_laws_toReport x.2))).1,(v_spec_ReadBoot ((v_laws_toByteS x.1),(v_laws_toReport x.2))).1))) (bNot (bIff (v_impl_ReadBoot ((v_laws_toByteS x.1),(v_laws_toReport x.2))).2 (v_spec_ReadBoot ((v_laws_toByteS x.1),(v_laws_toReport x.2))).2)))) (bAnd (bNot (iLt (v_laws_heldReport (((v_impl_ReadBoot ((v_laws_toByteS x.1),(v_laws_toReport x.2))).1.1,(mg_laws_markReport (v_impl_ReadBoot ((v_laws_toByteS x.1),(v_laws_toReport x.2))).1 1).1.2),1)) 0)) (bNot (iNe (v_laws_heldReport (((v_impl_ReadBoot ((v_laws_toByteS x.1),(v_laws_toReport x.2))).1.1,(mg_laws_markReport (v_impl_ReadBoot ((v_laws_toByteS x.1),(v_laws_toReport x.2))).1 1).1.2),1)) (mg_laws_markReport (v_impl_ReadBoot ((v_laws_toByteS x.1),(v_laws_toReport x.2))).1 1).2)))))))))))):=(vu_laws_FnExactReadBoot x).trans (by kernel_rfl)
theorem oe_laws_FnExactReadBoot (x):ok_laws_FnExactReadBoot x=(((iGt (lLen x.1) 1048576)=true→True)∧((iGt (lLen x.1) 1048576)=false→((ok_laws_szReport (x.2,1048576))∧(((iLt (v_laws_szReport (x.2,1048576)) 0)=true→True)∧((iLt (v_laws_szReport (x.2,1048576)) 0)=false→((ok_laws_toByteS x.1)∧((ok_laws_toReport x.2)∧((ok_spec_ReadBoot ((v_laws_toByteS x.1),(v_laws_toReport x.2)))∧((ok_laws_toByteS x.1)∧((ok_laws_toReport x.2)∧((ok_impl_ReadBoot ((v_laws_toByteS x.1),(v_laws_toReport x.2)))∧((ok_laws_eqReport ((v_impl_ReadBoot ((v_laws_toByteS x.1),(v_laws_toReport x.2))).1,(v_spec_ReadBoot ((v_laws_toByteS x.1),(v_laws_toReport x.2))).1))∧(((bOr (bNot (v_laws_eqReport ((v_impl_ReadBoot ((v_laws_toByteS x.1),(v_laws_toReport x.2))).1,(v_spec_ReadBoot ((v_laws_toByteS x.1),(v_laws_toReport x.2))).1))) (bNot (bIff (v_impl_ReadBoot ((v_laws_toByteS x.1),(v_laws_toReport x.2))).2 (v_spec_ReadBoot ((v_laws_toByteS x.1),(v_laws_toReport x.2))).2)))=true→True)∧((bOr (bNot (v_laws_eqReport ((v_impl_ReadBoot ((v_laws_toByteS x.1),(v_laws_toReport x.2))).1,(v_spec_ReadBoot ((v_laws_toByteS x.1),(v_laws_toReport x.2))).1))) (bNot (bIff (v_impl_ReadBoot ((v_laws_toByteS x.1),(v_laws_toReport x.2))).2 (v_spec_ReadBoot ((v_laws_toByteS x.1),(v_laws_toReport x.2))).2)))=false→((ok_laws_toByteS x.1)∧((ok_laws_eqByteS ((v_laws_toByteS x.1),(v_laws_toByteS x.1)))∧(((bNot (v_laws_eqByteS ((v_laws_toByteS x.1),(v_laws_toByteS x.1))))=true→True)∧((bNot (v_laws_eqByteS ((v_laws_toByteS x.1),(v_laws_toByteS x.1))))=false→((ok_laws_toReport x.2)∧((ok_laws_eqReport ((v_laws_toReport x.2),(v_laws_toReport x.2)))∧(((bNot (v_laws_eqReport ((v_laws_toReport x.2),(v_laws_toReport x.2))))=true→True)∧((bNot (v_laws_eqReport ((v_laws_toReport x.2),(v_laws_toReport x.2))))=false→((((List.length (v_laws_toByteS x.1))=(List.length (v_laws_toByteS x.1)))∧(DMk.ok (DMk.mk (RT.one (CT.sl (RT.one (CT.int IntKind.u8)))) false mok_laws_markByteS mg_laws_markByteS false) (v_laws_toByteS x.1)))∧((((List.length (v_laws_toReport x.2).2)=(List.length (v_laws_toReport x.2).2))∧(DMk.ok (DMk.mk (RT.cons (CT.int IntKind.i64) (RT.one (CT.sl (RT.one (CT.int IntKind.i64))))) true mok_laws_markReport mg_laws_markReport false) (v_laws_toReport x.2)))∧((((iLt (mg_laws_markReport (v_laws_toReport x.2) (mg_laws_markByteS (v_laws_toByteS x.1) 1).2).2 0)=true→True)∧((iLt (mg_laws_markReport (v_laws_toReport x.2) (mg_laws_markByteS (v_laws_toByteS x.1) 1).2).2 0)=false→(ok_laws_eqReport ((v_impl_ReadBoot ((v_laws_toByteS x.1),(v_laws_toReport x.2))).1,(v_spec_ReadBoot ((v_laws_toByteS x.1),(v_laws_toReport x.2))).1))))∧(((bOr (iLt (mg_laws_markReport (v_laws_toReport x.2) (mg_laws_markByteS (v_laws_toByteS x.1) 1).2).2 0) (bOr (bNot (v_laws_eqReport ((v_impl_ReadBoot ((v_laws_toByteS x.1),(v_laws_toReport x.2))).1,(v_spec_ReadBoot ((v_laws_toByteS x.1),(v_laws_toReport x.2))).1))) (bNot (bIff (v_impl_ReadBoot ((v_laws_toByteS x.1),(v_laws_toReport x.2))).2 (v_spec_ReadBoot ((v_laws_toByteS x.1),(v_laws_toReport x.2))).2))))=true→True)∧((bOr (iLt (mg_laws_markReport (v_laws_toReport x.2) (mg_laws_markByteS (v_laws_toByteS x.1) 1).2).2 0) (bOr (bNot (v_laws_eqReport ((v_impl_ReadBoot ((v_laws_toByteS x.1),(v_laws_toReport x.2))).1,(v_spec_ReadBoot ((v_laws_toByteS x.1),(v_laws_toReport x.2))).1))) (bNot (bIff (v_impl_ReadBoot ((v_laws_toByteS x.1),(v_laws_toReport x.2))).2 (v_spec_ReadBoot ((v_laws_toByteS x.1),(v_laws_toReport x.2))).2))))=false→((((List.length (v_impl_ReadBoot ((v_laws_toByteS x.1),(v_laws_toReport x.2))).1.2)=(List.length (v_impl_ReadBoot ((v_laws_toByteS x.1),(v_laws_toReport x.2))).1.2))∧(DMk.ok (DMk.mk (RT.cons (CT.int IntKind.i64) (RT.one (CT.sl (RT.one (CT.int IntKind.i64))))) true mok_laws_markReport mg_laws_markReport false) (v_impl_ReadBoot ((v_laws_toByteS x.1),(v_laws_toReport x.2))).1))∧((ok_laws_heldReport (((v_impl_ReadBoot ((v_laws_toByteS x.1),(v_laws_toReport x.2))).1.1,(mg_laws_markReport (v_impl_ReadBoot ((v_laws_toByteS x.1),(v_laws_toReport x.2))).1 1).1.2),1))∧(((iLt (v_laws_heldReport (((v_impl_ReadBoot ((v_laws_toByteS x.1),(v_laws_toReport x.2))).1.1,(mg_laws_markReport (v_impl_ReadBoot ((v_laws_toByteS x.1),(v_laws_toReport x.2))).1 1).1.2),1)) 0)=true→True)∧((iLt (v_laws_heldReport (((v_impl_ReadBoot ((v_laws_toByteS x.1),(v_laws_toReport x.2))).1.1,(mg_laws_markReport (v_impl_ReadBoot ((v_laws_toByteS x.1),(v_laws_toReport x.2))).1 1).1.2),1)) 0)=false→(((iNe (v_laws_heldReport (((v_impl_ReadBoot ((v_laws_toByteS x.1),(v_laws_toReport x.2))).1.1,(mg_laws_markReport (v_impl_ReadBoot ((v_laws_toByteS x.1),(v_laws_toReport x.2))).1 1).1.2),1)) (mg_laws_markReport (v_impl_ReadBoot ((v_laws_toByteS x.1),(v_laws_toReport x.2))).1 1).2)=true→True)∧((iNe (v_laws_heldReport (((v_impl_ReadBoot ((v_laws_toByteS x.1),(v_laws_toReport x.2))).1.1,(mg_laws_markReport (v_impl_ReadBoot ((v_laws_toByteS x.1),(v_laws_toReport x.2))).1 1).1.2),1)) (mg_laws_markReport (v_impl_ReadBoot ((v_laws_toByteS x.1),(v_laws_toReport x.2))).1 1).2)=false→((ok_laws_toByteS x.1)∧((ok_laws_toReport x.2)∧((ok_impl_ReadBoot ((v_laws_toByteS x.1),(v_laws_toReport x.2)))∧((ok_laws_eqReport ((v_impl_ReadBoot ((v_laws_toByteS x.1),(v_laws_toReport x.2))).1,(v_spec_ReadBoot ((v_laws_toByteS x.1),(v_laws_toReport x.2))).1))∧(((bOr (bNot (v_laws_eqReport ((v_impl_ReadBoot ((v_laws_toByteS x.1),(v_laws_toReport x.2))).1,(v_spec_ReadBoot ((v_laws_toByteS x.1),(v_laws_toReport x.2))).1))) (bNot (bIff (v_impl_ReadBoot ((v_laws_toByteS x.1),(v_laws_toReport x.2))).2 (v_spec_ReadBoot ((v_laws_toByteS x.1),(v_laws_toReport x.2))).2)))=true→True)∧((bOr (bNot (v_laws_eqReport ((v_impl_ReadBoot ((v_laws_toByteS x.1),(v_laws_toReport x.2))).1,(v_spec_ReadBoot ((v_laws_toByteS x.1),(v_laws_toReport x.2))).1))) (bNot (bIff (v_impl_ReadBoot ((v_laws_toByteS x.1),(v_laws_toReport x.2))).2 (v_spec_ReadBoot ((v_laws_toByteS x.1),(v_laws_toReport x.2))).2)))=false→(ok_laws_heldReport (((v_impl_ReadBoot ((v_laws_toByteS x.1),(v_laws_toReport x.2))).1.1,(mg_laws_markReport (v_impl_ReadBoot ((v_laws_toByteS x.1),(v_laws_toReport x.2))).1 1).1.2),1))))))))))))))))))))))))))))))))))))))))):=(ou_laws_FnExactReadBoot x).trans (by kernel_rfl)
end
def RepOk(x:Int×List Int):Prop:=(0≤x.1∧x.1≤15)∧∀ i,i<x.2.length→(1≤x.2.getD i 0∧x.2.getD i 0≤56)∧(0<i→x.2.getD (i-1) 0<x.2.getD i 0)
theorem RepOk.code{x:Int×List Int}(h:RepOk x)(i:Nat)(hi:i<x.2.length):(i:Int)+1≤x.2.getD i 0:=by
 induction i with
 |zero=>have:=(h.2 0 hi).1;omega
 | succ i ih=>
   have h1:=ih (by omega)
   have h2:=(h.2 (i+1) hi).2 (by omega)
   rw[Nat.add_sub_cancel] at h2
   omega
theorem RepOk.len{x:Int×List Int}(h:RepOk x):x.2.length≤56:=by
 rcases Nat.lt_or_ge 56 x.2.length with h1|h1
 · have h2:=h.code 56 h1
   have h3:=(h.2 56 h1).1
   omega
 · exact h1
def repBad(l:List Int)(i:Nat):Bool:=!(decide (1≤l.getD i 0)&&decide (l.getD i 0≤56))||(decide (0<i)&&decide (l.getD i 0≤l.getD (i-1) 0))
theorem repBad_iff{m:Int}{l:List Int}:((0≤m∧m≤15)∧∀ i,i<l.length→repBad l i=false)↔RepOk (m,l):=by
 unfold RepOk repBad
 refine and_congr Iff.rfl (forall_congr' fun i=>imp_congr Iff.rfl ?_)
 simp only[Bool.or_eq_false_iff,Bool.not_eq_false',Bool.and_eq_true,decide_eq_true_eq,Bool.and_eq_false_iff,decide_eq_false_iff_not]
 omega
theorem isReport_spec(m:Int)(l:List Int)(h:l.length≤1048576):ok_spec_IsReport (m,l)∧(v_spec_IsReport (m,l)=true↔RepOk (m,l)):=by
 rw[oe_spec_IsReport,ve_spec_IsReport]
 obtain⟨a1,a2⟩:=scan_loop (c:=lc_spec_IsReport_1 (m,l)) (f:=lf_spec_IsReport_1) (p:=lp_spec_IsReport_1 (m,l)) l.length (repBad l) (by omega) (fun i hi=>by
  simp only[lc_spec_IsReport_1,repBad,l1In_eq,lLen_eq,lGet_eq,iNat_eq,bAnd_eq,bNot_eq,bOr_eq,iLt_eq,iGt_eq,iGe_eq,Int.toNat_natCast]
  by_cases h0:0<i
  · rw[iSub_i64 (by unfold In64;omega)]
    have e:((i:Int)-1).toNat=i-1:=by omega
    rw[e];simp[h0]
  · simp[h0]) (fun i _=>rfl) (fun i hi=>by
  unfold lp_spec_IsReport_1
  repeat' (first|exact trivial|assumption|decide|apply And.intro|(intro hh;(try simp(disch:=first|omega|(unfold In64;omega)) only[lLen_eq,lN_eq,lGet_eq,iNat_eq,lSet_eq,lApp_eq,lSub_eq,lRep_eq,List.length_set,List.length_append,List.length_cons,List.length_nil,List.length_replicate,List.length_take,List.length_drop,Int.toNat_natCast,Nat.mul_one,Nat.zero_add,iAdd_i64,iSub_i64,iMul_i64,iQuo_i64,iRem_nn,conv_i64,ok_l1In,iLt_eq,iLe_eq,iGt_eq,iGe_eq,iEq_eq,iNe_eq,bNot_eq,bAnd_eq,bOr_eq,Bool.and_eq_true,Bool.or_eq_true,Bool.and_eq_false_iff,Bool.or_eq_false_iff,Bool.not_eq_true',Bool.not_eq_false',decide_eq_true_eq,decide_eq_false_iff_not,Bool.not_not] at hh))|omega|(unfold roomy;simp(disch:=first|omega|(unfold In64;omega)) only[lLen_eq,lN_eq,lGet_eq,iNat_eq,lSet_eq,lApp_eq,lSub_eq,lRep_eq,List.length_set,List.length_append,List.length_cons,List.length_nil,List.length_replicate,List.length_take,List.length_drop,Int.toNat_natCast,Nat.mul_one,Nat.zero_add,iAdd_i64,iSub_i64,iMul_i64,iQuo_i64,iRem_nn,conv_i64,ok_l1In];omega)|(simp(disch:=first|omega|(unfold In64;omega)) only[lLen_eq,lN_eq,lGet_eq,iNat_eq,lSet_eq,lApp_eq,lSub_eq,lRep_eq,List.length_set,List.length_append,List.length_cons,List.length_nil,List.length_replicate,List.length_take,List.length_drop,Int.toNat_natCast,Nat.mul_one,Nat.zero_add,iAdd_i64,iSub_i64,iMul_i64,iQuo_i64,iRem_nn,conv_i64,ok_l1In];done)|(simp(disch:=first|omega|(unfold In64;omega)) only[lLen_eq,lN_eq,lGet_eq,iNat_eq,lSet_eq,lApp_eq,lSub_eq,lRep_eq,List.length_set,List.length_append,List.length_cons,List.length_nil,List.length_replicate,List.length_take,List.length_drop,Int.toNat_natCast,Nat.mul_one,Nat.zero_add,iAdd_i64,iSub_i64,iMul_i64,iQuo_i64,iRem_nn,conv_i64,ok_l1In];omega)))
 refine⟨⟨a1,fun _=>trivial,fun _=>ok_l1In _⟩,?_⟩
 have hle:=firstAt_le (repBad l) l.length 0
 rw[← repBad_iff,← firstAt_all,a2,l1In_eq]
 simp only[bAnd_eq,bNot_eq,iLt_eq,lLen_eq,Bool.and_eq_true,Bool.not_eq_true',decide_eq_false_iff_not,decide_eq_true_eq]
 omega
theorem isReport_impl(m:Int)(l:List Int)(h:l.length≤1048576):ok_impl_IsReport (m,l)∧(v_impl_IsReport (m,l)=true↔RepOk (m,l)):=by
 rw[oe_impl_IsReport,ve_impl_IsReport]
 obtain⟨a1,a2⟩:=scan_loop (c:=lc_impl_IsReport_1 (m,l)) (f:=lf_impl_IsReport_1) (p:=lp_impl_IsReport_1 (m,l)) l.length (repBad l) (by omega) (fun i hi=>by
  simp only[lc_impl_IsReport_1,repBad,isCode_eq,lLen_eq,lGet_eq,iNat_eq,bAnd_eq,bNot_eq,bOr_eq,iLt_eq,iGt_eq,iGe_eq,Int.toNat_natCast]
  by_cases h0:0<i
  · rw[iSub_i64 (by unfold In64;omega)]
    have e:((i:Int)-1).toNat=i-1:=by omega
    rw[e];simp[h0]
  · simp[h0]) (fun i _=>rfl) (fun i hi=>by
  unfold lp_impl_IsReport_1
  repeat' (first|exact trivial|assumption|decide|apply And.intro|(intro hh;(try simp(disch:=first|omega|(unfold In64;omega)) only[lLen_eq,lN_eq,lGet_eq,iNat_eq,lSet_eq,lApp_eq,lSub_eq,lRep_eq,List.length_set,List.length_append,List.length_cons,List.length_nil,List.length_replicate,List.length_take,List.length_drop,Int.toNat_natCast,Nat.mul_one,Nat.zero_add,iAdd_i64,iSub_i64,iMul_i64,iQuo_i64,iRem_nn,conv_i64,ok_isCode,iLt_eq,iLe_eq,iGt_eq,iGe_eq,iEq_eq,iNe_eq,bNot_eq,bAnd_eq,bOr_eq,Bool.and_eq_true,Bool.or_eq_true,Bool.and_eq_false_iff,Bool.or_eq_false_iff,Bool.not_eq_true',Bool.not_eq_false',decide_eq_true_eq,decide_eq_false_iff_not,Bool.not_not] at hh))|omega|(unfold roomy;simp(disch:=first|omega|(unfold In64;omega)) only[lLen_eq,lN_eq,lGet_eq,iNat_eq,lSet_eq,lApp_eq,lSub_eq,lRep_eq,List.length_set,List.length_append,List.length_cons,List.length_nil,List.length_replicate,List.length_take,List.length_drop,Int.toNat_natCast,Nat.mul_one,Nat.zero_add,iAdd_i64,iSub_i64,iMul_i64,iQuo_i64,iRem_nn,conv_i64,ok_isCode];omega)|(simp(disch:=first|omega|(unfold In64;omega)) only[lLen_eq,lN_eq,lGet_eq,iNat_eq,lSet_eq,lApp_eq,lSub_eq,lRep_eq,List.length_set,List.length_append,List.length_cons,List.length_nil,List.length_replicate,List.length_take,List.length_drop,Int.toNat_natCast,Nat.mul_one,Nat.zero_add,iAdd_i64,iSub_i64,iMul_i64,iQuo_i64,iRem_nn,conv_i64,ok_isCode];done)|(simp(disch:=first|omega|(unfold In64;omega)) only[lLen_eq,lN_eq,lGet_eq,iNat_eq,lSet_eq,lApp_eq,lSub_eq,lRep_eq,List.length_set,List.length_append,List.length_cons,List.length_nil,List.length_replicate,List.length_take,List.length_drop,Int.toNat_natCast,Nat.mul_one,Nat.zero_add,iAdd_i64,iSub_i64,iMul_i64,iQuo_i64,iRem_nn,conv_i64,ok_isCode];omega)))
 refine⟨⟨fun _=>trivial,fun _=>a1⟩,?_⟩
 have hle:=firstAt_le (repBad l) l.length 0
 rw[← repBad_iff,← firstAt_all,a2]
 simp only[bAnd_eq,bNot_eq,bOr_eq,iLt_eq,iGt_eq,lLen_eq,Bool.and_eq_true,Bool.not_eq_true',Bool.or_eq_false_iff,decide_eq_false_iff_not,decide_eq_true_eq]
 omega
theorem isReport_two(x:Int×List Int)(h:x.2.length≤1048576):ok_spec_IsReport x∧ok_impl_IsReport x∧v_impl_IsReport x=v_spec_IsReport x∧(v_spec_IsReport x=true↔RepOk x):=by
 obtain⟨m,l⟩:=x
 obtain⟨a1,a2⟩:=isReport_spec m l h
 obtain⟨b1,b2⟩:=isReport_impl m l h
 exact⟨a1,b1,by rw[Bool.eq_iff_iff,a2,b2],a2⟩
theorem wl_Report_of{m:Int}{l:List Int}(h:l.length≤maxLen):wl_Report (m,l):=⟨h,trivial⟩
theorem iAdd_comm(k:IntKind)(a b:Int):iAdd k a b=iAdd k b a:=by rw[iAdd_u,iAdd_u,Int.add_comm]
theorem bootBytes_two(x:Int×List Int)(h:x.2.length≤1048576):ok_spec_BootBytes x∧ok_impl_BootBytes x∧v_impl_BootBytes x=v_spec_BootBytes x∧(v_spec_BootBytes x).length≤8:=by
 obtain⟨a1,a2,a3,a4⟩:=isReport_two x h
 rw[oe_spec_BootBytes,oe_impl_BootBytes,ve_spec_BootBytes,ve_impl_BootBytes]
 have e1:lc_impl_BootBytes_1=lc_spec_BootBytes_1:=rfl
 have e2:lf_impl_BootBytes_1 x=lf_spec_BootBytes_1 x:=by
  funext s
  simp only[lf_impl_BootBytes_1,lf_spec_BootBytes_1,iAdd_comm .i64 s.2 2]
 have e3:lSet (lRep 8 (0:Int)) (iNat 0) (iConv .u8 x.1)=[(iConv .u8 x.1),0,0,0,0,0,0,0]:=by rw[lSet_eq,lRep_eq,iNat_eq];rfl
 rw[e1,e2,a3,e3]
 cases hv:v_spec_IsReport x with
 | false=>
   simp[hv,a1,a2,bSel_eq,bNot_eq,a3]
 | true=>
   have hr:=a4.1 hv
   have hlen:=hr.len
   obtain⟨b1,b2,b3,b4⟩:=loop_two (c:=lc_spec_BootBytes_1) (f:=lf_spec_BootBytes_1 x) (p:=lp_spec_BootBytes_1 x) (d:=lc_spec_BootBytes_1) (g:=lf_spec_BootBytes_1 x) (q:=lp_impl_BootBytes_1 x) (x0:=([(iConv .u8 x.1),0,0,0,0,0,0,0],0)) (y0:=([(iConv .u8 x.1),0,0,0,0,0,0,0],0))
    (fun s t=>s=t∧s.1.length=8∧0≤s.2∧s.2≤6) (fun s=>6-s.2.toNat) (by
     rintro⟨o,i⟩ t ⟨rfl,h1,h2,h3⟩
     simp only at h1 h2 h3
     have e5:iAdd .i64 2 i=2+i:=iAdd_i64 (by unfold In64;omega)
     have e6:iAdd .i64 i 2=i+2:=iAdd_i64 (by unfold In64;omega)
     refine⟨?_,?_,rfl,fun hcc=>?_⟩
     · unfold lp_spec_BootBytes_1
       simp only[e5]
       repeat' (first|exact trivial|assumption|decide|apply And.intro|(intro hh;(try simp(disch:=first|omega|(unfold In64;omega)) only[lLen_eq,lN_eq,lGet_eq,iNat_eq,lSet_eq,lApp_eq,lSub_eq,lRep_eq,List.length_set,List.length_append,List.length_cons,List.length_nil,List.length_replicate,List.length_take,List.length_drop,Int.toNat_natCast,Nat.mul_one,Nat.zero_add,iAdd_i64,iSub_i64,iMul_i64,iQuo_i64,iRem_nn,conv_i64,iLt_eq,iLe_eq,iGt_eq,iGe_eq,iEq_eq,iNe_eq,bNot_eq,bAnd_eq,bOr_eq,Bool.and_eq_true,Bool.or_eq_true,Bool.and_eq_false_iff,Bool.or_eq_false_iff,Bool.not_eq_true',Bool.not_eq_false',decide_eq_true_eq,decide_eq_false_iff_not,Bool.not_not] at hh))|omega|(unfold roomy;simp(disch:=first|omega|(unfold In64;omega)) only[lLen_eq,lN_eq,lGet_eq,iNat_eq,lSet_eq,lApp_eq,lSub_eq,lRep_eq,List.length_set,List.length_append,List.length_cons,List.length_nil,List.length_replicate,List.length_take,List.length_drop,Int.toNat_natCast,Nat.mul_one,Nat.zero_add,iAdd_i64,iSub_i64,iMul_i64,iQuo_i64,iRem_nn,conv_i64];omega)|(simp(disch:=first|omega|(unfold In64;omega)) only[lLen_eq,lN_eq,lGet_eq,iNat_eq,lSet_eq,lApp_eq,lSub_eq,lRep_eq,List.length_set,List.length_append,List.length_cons,List.length_nil,List.length_replicate,List.length_take,List.length_drop,Int.toNat_natCast,Nat.mul_one,Nat.zero_add,iAdd_i64,iSub_i64,iMul_i64,iQuo_i64,iRem_nn,conv_i64];done)|(simp(disch:=first|omega|(unfold In64;omega)) only[lLen_eq,lN_eq,lGet_eq,iNat_eq,lSet_eq,lApp_eq,lSub_eq,lRep_eq,List.length_set,List.length_append,List.length_cons,List.length_nil,List.length_replicate,List.length_take,List.length_drop,Int.toNat_natCast,Nat.mul_one,Nat.zero_add,iAdd_i64,iSub_i64,iMul_i64,iQuo_i64,iRem_nn,conv_i64];omega))
     · unfold lp_impl_BootBytes_1
       simp only[e6]
       repeat' (first|exact trivial|assumption|decide|apply And.intro|(intro hh;(try simp(disch:=first|omega|(unfold In64;omega)) only[lLen_eq,lN_eq,lGet_eq,iNat_eq,lSet_eq,lApp_eq,lSub_eq,lRep_eq,List.length_set,List.length_append,List.length_cons,List.length_nil,List.length_replicate,List.length_take,List.length_drop,Int.toNat_natCast,Nat.mul_one,Nat.zero_add,iAdd_i64,iSub_i64,iMul_i64,iQuo_i64,iRem_nn,conv_i64,iLt_eq,iLe_eq,iGt_eq,iGe_eq,iEq_eq,iNe_eq,bNot_eq,bAnd_eq,bOr_eq,Bool.and_eq_true,Bool.or_eq_true,Bool.and_eq_false_iff,Bool.or_eq_false_iff,Bool.not_eq_true',Bool.not_eq_false',decide_eq_true_eq,decide_eq_false_iff_not,Bool.not_not] at hh))|omega|(unfold roomy;simp(disch:=first|omega|(unfold In64;omega)) only[lLen_eq,lN_eq,lGet_eq,iNat_eq,lSet_eq,lApp_eq,lSub_eq,lRep_eq,List.length_set,List.length_append,List.length_cons,List.length_nil,List.length_replicate,List.length_take,List.length_drop,Int.toNat_natCast,Nat.mul_one,Nat.zero_add,iAdd_i64,iSub_i64,iMul_i64,iQuo_i64,iRem_nn,conv_i64];omega)|(simp(disch:=first|omega|(unfold In64;omega)) only[lLen_eq,lN_eq,lGet_eq,iNat_eq,lSet_eq,lApp_eq,lSub_eq,lRep_eq,List.length_set,List.length_append,List.length_cons,List.length_nil,List.length_replicate,List.length_take,List.length_drop,Int.toNat_natCast,Nat.mul_one,Nat.zero_add,iAdd_i64,iSub_i64,iMul_i64,iQuo_i64,iRem_nn,conv_i64];done)|(simp(disch:=first|omega|(unfold In64;omega)) only[lLen_eq,lN_eq,lGet_eq,iNat_eq,lSet_eq,lApp_eq,lSub_eq,lRep_eq,List.length_set,List.length_append,List.length_cons,List.length_nil,List.length_replicate,List.length_take,List.length_drop,Int.toNat_natCast,Nat.mul_one,Nat.zero_add,iAdd_i64,iSub_i64,iMul_i64,iQuo_i64,iRem_nn,conv_i64];omega))
     · simp only[lc_spec_BootBytes_1,iLt_eq,decide_eq_true_eq] at hcc
       have e4:iAdd .i64 i 1=i+1:=iAdd_i64 (by unfold In64;omega)
       simp only[lf_spec_BootBytes_1,lSet_eq,bSel_eq,e4]
       refine⟨⟨trivial,?_,by omega,by omega⟩,by omega⟩
       split
       · rw[List.length_set];exact h1
       · split
         · rw[List.length_set];exact h1
         · exact h1) ⟨rfl,rfl,by simp,by simp⟩
   have r8:roomy 8:=by unfold roomy;omega
   have e9:∀ {α:Type} (z:α),(lRep 8 z).length=8:=fun z=>by rw[lRep_eq,List.length_replicate];rfl
   have e0:iNat 0<8:=by rw[iNat_eq];decide
   refine⟨?_,?_,rfl,?_⟩
   · simp[hv,a1,bNot_eq,b1]
   · simp[hv,a2,bNot_eq,b2,a3,r8,e9,e0]
   · rw[bNot_eq]
     simp only[Bool.not_true,bSel_f]
     omega
def kz(c:List Int):List Int:=(c.filter fun n=>!decide (n=0)).map fun n=>n-3
def cnt1(c:List Int):Int:=((c.filter fun n=>decide (n=1)).length:Nat)
theorem kz_snoc(c:List Int){i:Nat}(hi:i<c.length):kz (c.take (i+1))=if c.getD i 0=0 then kz (c.take i) else kz (c.take i)++[c.getD i 0-3]:=by
 rw[← take_snoc c 0 hi]
 generalize c.getD i 0=v
 unfold kz
 rw[List.filter_append,List.map_append]
 by_cases h:v=0<;>simp[h]
theorem cnt1_snoc(c:List Int){i:Nat}(hi:i<c.length):cnt1 (c.take (i+1))=if c.getD i 0=1 then cnt1 (c.take i)+1 else cnt1 (c.take i):=by
 rw[← take_snoc c 0 hi]
 generalize c.getD i 0=v
 unfold cnt1
 rw[List.filter_append]
 by_cases h:v=1<;>simp[h]
theorem kz_len(c:List Int):(kz c).length≤c.length:=by
 unfold kz
 rw[List.length_map]
 exact List.length_filter_le _ _
theorem cnt1_len(c:List Int):0≤cnt1 c∧cnt1 c≤c.length:=by
 unfold cnt1
 have:=List.length_filter_le (fun n:Int=>decide (n=1)) c
 omega
theorem six{c:List Int}(h:c.length=6):∃ a0 a1 a2 a3 a4 a5,c=[a0,a1,a2,a3,a4,a5]:=by
 match c,h with
 |[a0,a1,a2,a3,a4,a5],_=>exact⟨a0,a1,a2,a3,a4,a5,rfl⟩
theorem all6(P:Nat→Prop):(∀ i,i<6→P i)↔(P 0∧P 1∧P 2∧P 3∧P 4∧P 5):=by
 constructor
 · intro h;exact⟨h 0 (by omega),h 1 (by omega),h 2 (by omega),h 3 (by omega),h 4 (by omega),h 5 (by omega)⟩
 · rintro⟨h0,h1,h2,h3,h4,h5⟩ i hi
   match i,hi with
   |0,_=>exact h0
   |1,_=>exact h1
   |2,_=>exact h2
   |3,_=>exact h3
   |4,_=>exact h4
   |5,_=>exact h5
def gapAt(c:List Int)(i:Nat):Bool:=!decide (c.getD i 0=0)&&(decide (c.getD (i-1) 0=0)&&decide (0<i))
theorem nogap{c:List Int}(h6:c.length=6):(∀ i,i<6→gapAt c i=false)↔(∀ i,i<6→c.getD i 0=if i<(kz c).length then (kz c).getD i 0+3 else 0):=by
 obtain⟨a0,a1,a2,a3,a4,a5,rfl⟩:=six h6
 rw[all6,all6]
 unfold gapAt kz
 by_cases h0:a0=0<;>by_cases h1:a1=0<;>by_cases h2:a2=0<;>by_cases h3:a3=0<;>by_cases h4:a4=0<;>by_cases h5:a5=0<;>simp[h0,h1,h2,h3,h4,h5]<;>omega
theorem ones6{c:List Int}(h6:c.length=6):cnt1 c=6↔c.all (fun n=>decide (n=1))=true:=by
 unfold cnt1
 have h:(c.filter fun n=>decide (n=1)).length=c.length↔c.all (fun n=>decide (n=1))=true:=by
  rw[List.length_filter_eq_length_iff,List.all_eq_true]
 rw[← h,h6]
 omega
theorem all_snoc(c:List Int){i:Nat}(hi:i<c.length):(c.take (i+1)).all (fun n=>decide (n=1))=((c.take i).all (fun n=>decide (n=1))&&decide (c.getD i 0=1)):=by
 rw[← take_snoc c 0 hi,List.all_append]
 simp only[List.all_cons,List.all_nil,Bool.and_true]
theorem gap_ones{c:List Int}(h6:c.length=6)(h:c.all (fun n=>decide (n=1))=true):∀ i,i<6→gapAt c i=false:=by
 obtain⟨a0,a1,a2,a3,a4,a5,rfl⟩:=six h6
 simp only[List.all_cons,List.all_nil,Bool.and_true,Bool.and_eq_true,decide_eq_true_eq] at h
 obtain⟨rfl,rfl,rfl,rfl,rfl,rfl⟩:=h
 rw[all6]
 decide
theorem drop_get(b:List Int)(i:Nat):lGet b (iNat ((i+2:Nat):Int)) 0=(b.drop 2).getD i 0:=by
 rw[lGet_eq,iNat_eq,Int.toNat_natCast,List.getD_eq_getElem?_getD,List.getD_eq_getElem?_getD,List.getElem?_drop,Nat.add_comm]
theorem byte_drop{b:List Int}(hB:Bytes b)(i:Nat):0≤(b.drop 2).getD i 0∧(b.drop 2).getD i 0<256:=by
 obtain⟨n,h1,h2⟩:=hB.get (i+2)
 have e:(b.drop 2).getD i 0=b.getD (i+2) 0:=by rw[List.getD_eq_getElem?_getD,List.getD_eq_getElem?_getD,List.getElem?_drop,Nat.add_comm]
 rw[e,h2]
 omega
theorem spec_loop(b:List Int)(last:Int×List Int)(h8:b.length=8)(hB:Bytes b) :
 LoopOk (lc_spec_ReadBoot_1 (b,last)) (lf_spec_ReadBoot_1 (b,last)) (lp_spec_ReadBoot_1 (b,last)) (0,2,[])∧∃ k,k≤6∧loopV (lc_spec_ReadBoot_1 (b,last)) (lf_spec_ReadBoot_1 (b,last)) (0,2,[])=(cnt1 ((b.drop 2).take k),((k+2:Nat):Int),kz ((b.drop 2).take k))∧(k=6↔∀ i,i<6→gapAt (b.drop 2) i=false):=by
 have hc:(b.drop 2).length=6:=by rw[List.length_drop];omega
 have gl:=drop_get b
 have gm:∀ i:Nat,i≤6→0<i→lGet b (iNat (iSub .i64 ((i+2:Nat):Int) 1)) 0=(b.drop 2).getD (i-1) 0:=fun i hi h0=>by
  rw[iSub_i64 (by unfold In64;omega),show ((i+2:Nat):Int)-1=((i-1+2:Nat):Int) by omega,gl]
 have hb:=byte_drop hB
 obtain⟨a1,k,hk,a2,a3⟩:=scan_st (c:=lc_spec_ReadBoot_1 (b,last)) (f:=lf_spec_ReadBoot_1 (b,last)) (p:=lp_spec_ReadBoot_1 (b,last)) 6 (fun i=>(cnt1 ((b.drop 2).take i),((i+2:Nat):Int),kz ((b.drop 2).take i))) (fun i=>!gapAt (b.drop 2) i) (x0:=(0,2,[])) rfl
  (fun i hi _=>by
   simp only[lc_spec_ReadBoot_1,gl,bAnd_eq,bNot_eq,iNe_eq,iEq_eq,iGt_eq,iLt_eq,gapAt]
   have e1:decide (((i+2:Nat):Int)<8)=decide (i<6):=by rw[decide_eq_decide];omega
   have e2:decide ((2:Int)<((i+2:Nat):Int))=decide (0<i):=by rw[decide_eq_decide];omega
   rw[e1,e2]
   by_cases h0:0<i
   · rw[gm i hi h0]
   · rw[decide_eq_false h0];simp only[Bool.and_false])
  (fun i hi _=>by
   have hb:=hb i
   have hcn:=cnt1_len ((b.drop 2).take i)
   rw[List.length_take] at hcn
   simp only[lf_spec_ReadBoot_1,gl,iEq_eq,iNe_eq,bSel_eq]
   rw[kz_snoc _ (by omega),cnt1_snoc _ (by omega),iConv_i64 (by unfold In64;omega),iSub_i64 (by unfold In64;omega),iAdd_i64 (by unfold In64;omega),iAdd_i64 (by unfold In64;omega),lApp_eq]
   refine Prod.ext ?_ (Prod.ext ?_ ?_)
   · simp only[decide_eq_true_eq]
   · simp only;omega
   · by_cases h:(b.drop 2).getD i 0=0
     · rw[if_pos h,h];simp
     · rw[if_neg h];generalize (b.drop 2).getD i 0=v at h ⊢;simp[h])
  (fun i hi _=>by
   have hkl:=kz_len ((b.drop 2).take i)
   rw[List.length_take] at hkl
   have r:∀ v:Int,roomy ((List.length (kz ((b.drop 2).take i))+List.length [v])*1):=fun v=>by unfold roomy;simp only[List.length_cons,List.length_nil];omega
   have n0:(0:Int)≤((i+2:Nat):Int):=by omega
   simp only[lp_spec_ReadBoot_1,iLt_eq,decide_eq_true_eq]
   refine⟨fun h=>?_,fun _=>trivial⟩
   have n1:((i+2:Nat):Int)<(b.length:Int):=by omega
   have n2:iNat ((i+2:Nat):Int)<b.length:=by rw[iNat_eq];omega
   have n3:(0:Int)≤iSub .i64 ((i+2:Nat):Int) 1∧iSub .i64 ((i+2:Nat):Int) 1<(b.length:Int):=by rw[iSub_i64 (by unfold In64;omega)];omega
   have n4:iNat (iSub .i64 ((i+2:Nat):Int) 1)<b.length:=by rw[iNat_eq];omega
   exact⟨⟨⟨n0,n1⟩,n2⟩,⟨⟨n0,n1⟩,n2,fun _=>⟨⟨n0,n1⟩,n2,r _⟩,fun _=>trivial⟩,⟨n0,n1⟩,n2,fun _=>⟨n3,n4⟩,fun _=>trivial⟩)
 refine⟨a1,k,hk,a2,?_⟩
 rw[a3]
 simp only[Bool.not_eq_true']
theorem over_loop(b:List Int)(last:Int×List Int)(h8:b.length=8) :
 LoopOk (lc_impl_ReadBoot_1 (b,last)) (lf_impl_ReadBoot_1 (b,last)) (lp_impl_ReadBoot_1 (b,last)) (true,0)∧loopV (lc_impl_ReadBoot_1 (b,last)) (lf_impl_ReadBoot_1 (b,last)) (true,0)=((b.drop 2).all (fun n=>decide (n=1)),(6:Int)):=by
 have hc:(b.drop 2).length=6:=by rw[List.length_drop];omega
 have hR:lSub b (iNat 2) (lN b)=b.drop 2:=by
  have e:iNat 2=2:=by rw[iNat_eq];rfl
  rw[lSub_eq,lN_eq,e,List.take_of_length_le]
  rw[List.length_drop]
  exact Nat.le_refl _
 have gl:∀ i:Nat,lGet (b.drop 2) (iNat (i:Int)) 0=(b.drop 2).getD i 0:=fun i=>by rw[lGet_eq,iNat_eq,Int.toNat_natCast]
 obtain⟨a1,k,hk,a2,a3⟩:=scan_st (c:=lc_impl_ReadBoot_1 (b,last)) (f:=lf_impl_ReadBoot_1 (b,last)) (p:=lp_impl_ReadBoot_1 (b,last)) 6 (fun i=>(((b.drop 2).take i).all (fun n=>decide (n=1)),(i:Int))) (fun _=>true) (x0:=(true,0)) rfl
  (fun i hi _=>by
   simp only[lc_impl_ReadBoot_1,hR,iLt_eq,lLen_eq,hc,Bool.and_true]
   rw[decide_eq_decide];omega)
  (fun i hi _=>by
   simp only[lf_impl_ReadBoot_1,hR,gl,iEq_eq,bAnd_eq]
   rw[all_snoc _ (by omega),iAdd_i64 (by unfold In64;omega)]
   rfl)
  (fun i hi _=>by
   simp only[lp_impl_ReadBoot_1,hR,iLt_eq,lLen_eq,decide_eq_true_eq]
   exact⟨fun h=>⟨⟨by omega,h⟩,by rw[iNat_eq];omega⟩,fun _=>trivial⟩)
 have:k=6:=a3.2 (fun _ _=>rfl)
 subst this
 rw[a2]
 refine⟨a1,?_⟩
 rw[List.take_of_length_le (by omega)]
 rfl
theorem keys_loop(b:List Int)(last:Int×List Int)(h8:b.length=8)(hB:Bytes b) :
 LoopOk (lc_impl_ReadBoot_2 (b,last)) (lf_impl_ReadBoot_2 (b,last)) (lp_impl_ReadBoot_2 (b,last)) (0,[])∧loopV (lc_impl_ReadBoot_2 (b,last)) (lf_impl_ReadBoot_2 (b,last)) (0,[])=((6:Int),kz (b.drop 2)):=by
 have hc:(b.drop 2).length=6:=by rw[List.length_drop];omega
 have hR:lSub b (iNat 2) (lN b)=b.drop 2:=by
  have e:iNat 2=2:=by rw[iNat_eq];rfl
  rw[lSub_eq,lN_eq,e,List.take_of_length_le]
  rw[List.length_drop]
  exact Nat.le_refl _
 have gl:∀ i:Nat,lGet (b.drop 2) (iNat (i:Int)) 0=(b.drop 2).getD i 0:=fun i=>by rw[lGet_eq,iNat_eq,Int.toNat_natCast]
 have hb:=byte_drop hB
 obtain⟨a1,k,hk,a2,a3⟩:=scan_st (c:=lc_impl_ReadBoot_2 (b,last)) (f:=lf_impl_ReadBoot_2 (b,last)) (p:=lp_impl_ReadBoot_2 (b,last)) 6 (fun i=>((i:Int),kz ((b.drop 2).take i))) (fun _=>true) (x0:=(0,[])) rfl
  (fun i hi _=>by
   simp only[lc_impl_ReadBoot_2,hR,iLt_eq,lLen_eq,hc,Bool.and_true]
   rw[decide_eq_decide];omega)
  (fun i hi _=>by
   have hb:=hb i
   simp only[lf_impl_ReadBoot_2,hR,gl,iNe_eq,bSel_eq]
   rw[kz_snoc _ (by omega),iConv_i64 (by unfold In64;omega),iSub_i64 (by unfold In64;omega),iAdd_i64 (by unfold In64;omega),lApp_eq]
   refine Prod.ext rfl ?_
   by_cases h:(b.drop 2).getD i 0=0
   · rw[if_pos h,h];simp
   · rw[if_neg h];generalize (b.drop 2).getD i 0=v at h ⊢;simp[h])
  (fun i hi _=>by
   have hkl:=kz_len ((b.drop 2).take i)
   rw[List.length_take] at hkl
   have r:∀ v:Int,roomy ((List.length (kz ((b.drop 2).take i))+List.length [v])*1):=fun v=>by unfold roomy;simp only[List.length_cons,List.length_nil];omega
   simp only[lp_impl_ReadBoot_2,hR,iLt_eq,lLen_eq,decide_eq_true_eq]
   exact⟨fun h=>⟨⟨by omega,h⟩,by rw[iNat_eq];omega,fun _=>r _,fun _=>trivial⟩,fun _=>trivial⟩)
 have:k=6:=a3.2 (fun _ _=>rfl)
 subst this
 rw[a2]
 refine⟨a1,?_⟩
 rw[List.take_of_length_le (by omega)]
 rfl
theorem rowS_back{l:List Int}(h:Bytes l):(rowS l).map (fun u=>(u.toNat:Int))=l:=by
 rw[rowS_u,List.map_map]
 have e:∀ a∈l,((fun u:UInt8=>(u.toNat:Int)) ∘ fun n:Int=>UInt8.ofNat n.toNat) a=a:=fun a ha=>by
  have:=h a ha
  show ((UInt8.ofNat a.toNat).toNat:Int)=a
  rw[UInt8.toNat_ofNat']
  omega
 rw[List.map_congr_left e,List.map_id']
theorem rowS_ne{a b:List Int}(ha:Bytes a)(hb:Bytes b):sNe (rowS a) (rowS b)=!decide (a=b):=by
 rw[sNe_eq]
 congr 1
 rw[Bool.eq_iff_iff,beq_iff_eq,decide_eq_true_eq]
 exact⟨fun h=>by rw[← rowS_back ha,h,rowS_back hb],fun h=>by rw[h]⟩
def bootAt(m:Int)(K:List Int)(i p:Nat):Int:=if p=0 then m else if 2≤p∧p-2<i∧p-2<K.length then K.getD (p-2) 0+3 else 0
theorem getD_at(l:List Int)(p:Nat)(h:p<l.length):l[p]=l.getD p 0:=by rw[List.getD_eq_getElem?_getD,List.getElem?_eq_getElem h];rfl
theorem boot_short(m:Int)(K:List Int)(hr:RepOk (m,K))(hl:K.length≤6)(hv:v_impl_IsReport (m,K)=true):v_impl_BootBytes (m,K)=(List.range 8).map (bootAt m K 6):=by
 rw[ve_impl_BootBytes,hv,show bNot true=false from by rw[bNot_eq];rfl,bSel_f]
 have hm:iConv .u8 m=m:=conv_u8 hr.1.1 (by have:=hr.1.2;simp only at this;omega)
 have h0:lSet (lRep 8 (0:Int)) (iNat 0) m=[m,0,0,0,0,0,0,0]:=by rw[lSet_eq,lRep_eq,iNat_eq];rfl
 obtain ⟨a1, k,hk,a2,a3⟩:=scan_st (c:=lc_impl_BootBytes_1) (f:=lf_impl_BootBytes_1 (m,K)) (p:=fun _=>True) 6 (fun i=>((List.range 8).map (bootAt m K i),(i:Int))) (fun _=>true) (x0:=(lSet (lRep 8 (0:Int)) (iNat 0) (iConv .u8 m),0)) (by
  rw[hm,h0];simp[bootAt,List.range_succ])
  (fun i hi _=>by
   simp only[lc_impl_BootBytes_1,iLt_eq,Bool.and_true]
   rw[decide_eq_decide];omega)
  (fun i hi _=>by
   simp only[lf_impl_BootBytes_1,bSel_eq,iGt_eq,iLt_eq,lLen_eq,decide_eq_true_eq]
   have s1:iAdd .i64 (i:Int) 1=((i+1:Nat):Int):=by rw[iAdd_i64 (by unfold In64;omega)];omega
   have s2:iAdd .i64 (i:Int) 2=((i+2:Nat):Int):=by rw[iAdd_i64 (by unfold In64;omega)];omega
   rw[if_neg (by omega),s1,s2]
   refine Prod.ext ?_ rfl
   · simp only
     by_cases h:i<K.length
     · have hc:=(hr.2 i h).1
       simp only at hc
       rw[if_pos (by omega),lSet_eq,iNat_eq,lGet_eq,iNat_eq,Int.toNat_natCast,Int.toNat_natCast,iAdd_i64 (by unfold In64;omega),conv_u8 (by omega) (by omega)]
       refine List.ext_getElem (by simp) (fun p h1 h2=>?_)
       rw[List.getElem_set,List.getElem_map,List.getElem_map,List.getElem_range]
       unfold bootAt
       by_cases hp:i+2=p
       · subst hp
         rw[if_pos (by omega),if_neg (by omega),if_pos ⟨by omega,by omega,by simpa using h⟩]
         rfl
       · rw[if_neg (by omega)]
         by_cases hp0:p=0
         · rw[if_pos hp0,if_pos hp0]
         · rw[if_neg hp0,if_neg hp0]
           have:(2≤p∧p-2<i∧p-2<K.length)↔(2≤p∧p-2<i+1∧p-2<K.length):=by omega
           simp only[this]
     · rw[if_neg (by omega)]
       refine List.map_congr_left fun p _=>?_
       unfold bootAt
       have:(2≤p∧p-2<i∧p-2<K.length)↔(2≤p∧p-2<i+1∧p-2<K.length):=by omega
       simp only[this])
  (fun _ _ _=>trivial)
 have:k=6:=a3.2 (fun _ _=>rfl)
 subst this
 rw[a2]
theorem boot_eq{b:List Int}(K:List Int)(h8:b.length=8)(h1:b.getD 1 0=0):(List.range 8).map (bootAt (b.getD 0 0) K 6)=b↔∀ i,i<6→(b.drop 2).getD i 0=if i<K.length then K.getD i 0+3 else 0:=by
 have hg:∀ i,(b.drop 2).getD i 0=b.getD (i+2) 0:=fun i=>by rw[List.getD_eq_getElem?_getD,List.getD_eq_getElem?_getD,List.getElem?_drop,Nat.add_comm]
 have hx:∀ p,p<8→((List.range 8).map (bootAt (b.getD 0 0) K 6)).getD p 0=bootAt (b.getD 0 0) K 6 p:=fun p hp=>by
  rw[List.getD_eq_getElem?_getD,List.getElem?_map,List.getElem?_range hp];rfl
 constructor
 · intro h i hi
   have:=hx (i+2) (by omega)
   rw[h] at this
   rw[hg,this]
   unfold bootAt
   rw[if_neg (by omega)]
   have e:(2≤i+2∧i<6∧i<K.length)↔i<K.length:=by omega
   simp only[Nat.add_sub_cancel,e]
 · intro h
   refine List.ext_getElem (by simp[h8]) (fun p q1 q2=>?_)
   have hp:p<8:=by omega
   rw[getD_at _ p q1,getD_at b p q2,hx p hp]
   unfold bootAt
   by_cases hp0:p=0
   · rw[if_pos hp0,hp0]
   · rw[if_neg hp0]
     by_cases hp1:p=1
     · subst hp1;rw[if_neg (by omega),h1]
     · have e:=h (p-2) (by omega)
       rw[hg,show p-2+2=p by omega] at e
       rw[e]
       have e:(2≤p∧p-2<6∧p-2<K.length)↔p-2<K.length:=by omega
       simp only[e]
theorem boot_bytes(m:Int)(K:List Int)(hr:RepOk (m,K)):Bytes ((List.range 8).map (bootAt m K 6)):=by
 intro a ha
 obtain⟨p,_,rfl⟩:=List.mem_map.1 ha
 unfold bootAt
 have h1:=hr.1
 simp only at h1
 by_cases hp:p=0
 · rw[if_pos hp];omega
 · rw[if_neg hp]
   split
   · rename_i h
     have:=(hr.2 (p-2) h.2.2).1
     simp only at this
     omega
   · omega
theorem copyInts_eq(l:List Int)(h:l.length≤1048576):ok_impl_copyInts l∧v_impl_copyInts l=lApp [] l:=by
 rw[oe_impl_copyInts,ve_impl_copyInts]
 exact⟨by unfold roomy;omega,by rw[lApp_eq];rfl⟩
theorem readBoot_two(b:List Int)(last:Int×List Int)(hB:Bytes b)(hl:last.2.length≤1048576) :
 ok_spec_ReadBoot (b,last)∧ok_impl_ReadBoot (b,last)∧v_impl_ReadBoot (b,last)=v_spec_ReadBoot (b,last)∧(v_spec_ReadBoot (b,last)).1.2.length≤1048576:=by
 rw[oe_spec_ReadBoot,oe_impl_ReadBoot,ve_spec_ReadBoot,ve_impl_ReadBoot]
 obtain⟨i1,i2,i3,_⟩:=isReport_two last hl
 obtain⟨u1,u2⟩:=copyInts_eq last.2 hl
 have la:lApp ([]:List Int) last.2=last.2:=by rw[lApp_eq];rfl
 rw[la] at u2
 have bt:∀ a,bOr true a=true:=fun a=>by rw[bOr_eq];rfl
 simp only[i1,i2,i3,u1,u2]
 by_cases h8:b.length=8
 · have t:iNe (lLen b) 8=false:=by rw[iNe_eq,lLen_eq,h8];rfl
   have g0:lGet b (iNat 0) 0=b.getD 0 0:=by rw[lGet_eq,iNat_eq];rfl
   have g1:lGet b (iNat 1) 0=b.getD 1 0:=by rw[lGet_eq,iNat_eq];rfl
   have c0:iConv .i64 (b.getD 0 0)=b.getD 0 0:=by
    obtain⟨n,h1,h2⟩:=hB.get 0
    rw[h2,conv_i64 (by omega) (by omega)]
   obtain⟨s1,k,hk,s2,s3⟩:=spec_loop b last h8 hB
   obtain⟨o1,o2⟩:=over_loop b last h8
   obtain⟨q1,q2⟩:=keys_loop b last h8 hB
   have hc:(b.drop 2).length=6:=by rw[List.length_drop];omega
   have hK:=kz_len (b.drop 2)
   have hKk:=kz_len ((b.drop 2).take k)
   rw[List.length_take] at hKk
   obtain⟨j1,j2,j3,j4⟩:=isReport_two (b.getD 0 0,kz (b.drop 2)) (by simp only;omega)
   obtain⟨k1,_,_,_⟩:=isReport_two (b.getD 0 0,kz ((b.drop 2).take k)) (by simp only;omega)
   obtain⟨_,l2,_,_⟩:=bootBytes_two (b.getD 0 0,kz (b.drop 2)) (by simp only;omega)
   have n0:(0:Int)<(b.length:Int):=by omega
   have n1:(1:Int)<(b.length:Int):=by omega
   have n2:iNat 0<b.length:=by rw[iNat_eq];omega
   have n3:iNat 1<b.length:=by rw[iNat_eq];omega
   have n4:iNat 2≤lN b:=by rw[iNat_eq,lN_eq];omega
   have n5:lN b≤b.length:=by rw[lN_eq];exact Nat.le_refl _
   have n6:0<b.length:=by omega
   have r:roomy ((List.length ([]:List Int)+List.length last.2)*1):=by unfold roomy;simp only[List.length_nil];omega
   have r':roomy (List.length last.2*1):=by unfold roomy;omega
   have r'':roomy (List.length last.2):=by unfold roomy;omega
   simp only[t,g0,g1,c0,s1,s2,o1,o2,q1,q2,j1,j2,j3,k1,l2,n0,n1,n2,n3,n4,n5,n6,r,r',r'',la]
   generalize hG:bOr false (bOr (iGt (b.getD 0 0) 15) (bOr (iNe (b.getD 1 0) 0) (bNot (v_spec_IsReport last))))=G
   cases G with
   |true=>simp[bSel_t]
   | false =>
     simp only[bOr_eq,iNe_eq,Bool.or_eq_false_iff,Bool.not_eq_false',decide_eq_true_eq,bNot_eq] at hG
     have h1:b.getD 1 0=0:=hG.2.2.1
     refine⟨by simp,by simp,?_⟩
     rw[bSel_f,bSel_f]
     have hsn:v_spec_IsReport (b.getD 0 0,kz (b.drop 2))=true→sNe (rowS (v_impl_BootBytes (b.getD 0 0,kz (b.drop 2)))) (rowS b)=!decide (k=6):=fun hv=>by
      have hr:=j4.1 hv
      rw[boot_short _ _ hr (by omega) (by rw[j3];exact hv),rowS_ne (boot_bytes _ _ hr) hB]
      congr 1
      rw[decide_eq_decide,boot_eq _ h8 h1,← nogap hc,s3]
     by_cases hk6:k=6
     · subst hk6
       have hno:=s3.1 rfl
       have e8:iLt ((6+2:Nat):Int) 8=false:=by rw[iLt_eq];rfl
       rw[List.take_of_length_le (by omega),e8,bSel_f]
       have ho:=ones6 hc
       cases ha:(b.drop 2).all (fun n=>decide (n=1)) with
       | true=>
         rw[iEq_eq,decide_eq_true (ho.2 ha),bSel_t,bSel_t]
         exact⟨rfl,by simp only[lApp_eq,List.nil_append];exact hl⟩
       | false=>
         rw[iEq_eq,decide_eq_false (fun h=>by rw[ho.1 h] at ha;cases ha),bSel_f,bSel_f]
         cases hv:v_spec_IsReport (b.getD 0 0,kz (b.drop 2)) with
         |false=>simp[bNot_eq,bOr_eq,bSel_t]
         | true=>
           rw[hsn hv,decide_eq_true rfl]
           simp only[bNot_eq,bOr_eq,Bool.not_true,Bool.or_false,bSel_f]
           exact⟨trivial,by omega⟩
     · have hno:¬ (∀ i,i<6→gapAt (b.drop 2) i=false):=fun h=>hk6 (s3.2 h)
       have e8:iLt ((k+2:Nat):Int) 8=true:=by rw[iLt_eq];exact decide_eq_true (by omega)
       rw[e8,bSel_t]
       cases ha:(b.drop 2).all (fun n=>decide (n=1)) with
       |true=>exact absurd (gap_ones hc ha) hno
       | false=>
         rw[bSel_f]
         cases hv:v_spec_IsReport (b.getD 0 0,kz (b.drop 2)) with
         |false=>simp[bNot_eq,bOr_eq,bSel_t]
         | true=>
           rw[hsn hv,decide_eq_false hk6]
           simp[bNot_eq,bOr_eq,bSel_t]
 · have t:iNe (lLen b) 8=true:=by rw[iNe_eq,lLen_eq,decide_eq_false (by omega)];rfl
   simp only[t,bt,bSel_t]
   simp
theorem plain_FnExactReadBoot(x:List Int×(Int×List Int))(hw:TuX.wf h_laws_FnExactReadBoot x):ok_laws_FnExactReadBoot x∧v_laws_FnExactReadBoot x=true:=by
 obtain⟨b,last⟩:=x
 rw[oe_laws_FnExactReadBoot,ve_laws_FnExactReadBoot]
 by_cases hx:b.length≤1048576
 · have hg:iGt (lLen b) 1048576=false:=by rw[iGt_eq,lLen_eq];simp;omega
   have hB:Bytes b:=Bytes.of hw.1
   obtain⟨k1,k2⟩:=sz_Report last (wl_Report_of hw.2.2.1) 1048576 (by omega) (by omega)
   rcases k2 with k2|⟨k2,_,k3⟩
   · have e:iLt (v_laws_szReport (last,1048576)) 0=true:=by rw[iLt_eq];simpa using k2
     simp only[hg,e];simp[bOr_eq,k1]
   · have e:iLt (v_laws_szReport (last,1048576)) 0=false:=by rw[iLt_eq];simpa using k2
     obtain⟨t1,t2⟩:=to_ByteS b hx
     obtain⟨t3,t4⟩:=to_Report last k3
     obtain⟨r1,r2,r3,r4⟩:=readBoot_two b last hB k3.1
     have hsm:sm_Report (v_spec_ReadBoot (b,last)).1:=⟨by show _≤1048576;omega,trivial⟩
     obtain⟨q1,q2⟩:=eqR _ hsm
     obtain⟨q3,q4⟩:=eqR last k3
     obtain⟨b1,b2⟩:=eq_ByteS b b hx
     have b3:=b2.2 rfl
     obtain⟨m1,⟨m2,m3⟩,_,_⟩:=mh_ByteS b hx 1 (by omega) (by omega)
     obtain⟨p1,⟨p2,p3⟩,_,_⟩:=mh_Report last k3 (mg_laws_markByteS b 1).2 (by omega) (by omega)
     obtain⟨n1,⟨n2,n3⟩,n4,n5⟩:=mh_Report _ hsm 1 (by omega) (by omega)
     have c1:iLt (mg_laws_markReport last (mg_laws_markByteS b 1).2).2 0=false:=by rw[iLt_eq];simp;omega
     have c2:iLt (mg_laws_markReport (v_spec_ReadBoot (b,last)).1 1).2 0=false:=by rw[iLt_eq];simp;omega
     simp only[hg,e,t1,t2,t3,t4,r3,k1,r1,r2,q1,q2,q3,q4,b1,b3,n4,n5,c1,c2]
     simp[bOr_eq,bAnd_eq,bNot_eq,bIff_eq,iNe_eq]
     all_goals first|exact⟨m1,p1,n1⟩|exact⟨m1,n1⟩|exact n1
 · have hg:iGt (lLen b) 1048576=true:=by rw[iGt_eq,lLen_eq];simp;omega
   simp only[hg]
   simp[bOr_eq]
end Go.Ag
