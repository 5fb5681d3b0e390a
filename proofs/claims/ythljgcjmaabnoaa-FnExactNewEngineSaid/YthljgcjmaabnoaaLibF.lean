/- Part 6 of what FnExactNewEngine needs. No conditions. -/
import Derived.Test.YthljgcjmaabnoaaLibE
namespace Go.Ag
set_option linter.unusedSimpArgs false
set_option linter.unusedVariables false
section
set_option maxRecDepth 8000
noncomputable def dc_spec_l8Find:DCode:=
 (.seq [3,0] (.region [oa 0 3 (.boxB 0 3 (.t 1)),
 oi 1 4 0])
  (.seq [] (.seq [5,3,0] (.region [oi 0 5 0])
  (.block 0 (.loop [0,3,5] 1 (.seq [5,3,0] (.seq [9,5,3,0] (.region [om 0 6 5,
 on 1 7 0,
 oa 2 8 (.len (.t 7)),
 oa 3 9 (.bin .lss (.t 6) (.t 8))])
  (.cond (.t 9) .skip (.exit 0)))
  (.seq [5,3,0] (.block 1 (.seq [31,5,3,0] (.region [on 0 12 0,
 om 1 13 5,
 xA 2 14 (.indexA 5 (.t 12) (.t 13)) (rg 2),
 xA 3 15 (.fieldA 1 (.t 14)) (rg 3),
 xA 4 16 (.fieldA 1 (.t 15)) (rg 4),
 xA 5 17 (.loadH none (.t 16)) (rg 5),
 oa 6 18 (.fieldA 1 (.t 3)),
 xA 7 19 (.loadB 0 none (.t 18)) [6],
 xA 8 20 (.bin .eql (.t 17) (.t 19)) (rg 8),
 xA 9 21 (.mv (.t 20)) (rg 9),
 ⟨10,some 22,.a true (.mv (.t 0)) none,(some (21,true)),[0,1,2,3,4,5,6,7,8,9]⟩,
 ⟨11,some 23,.a false (.mv (.t 5)) none,(some (21,true)),[0,1,2,3,4,5,6,7,8,9]⟩,
 ⟨12,some 24,.a false (.indexA 5 (.t 22) (.t 23)) none,(some (21,true)),[0,1,2,3,4,5,6,7,8,9,10,11]⟩,
 ⟨13,some 25,.a false (.fieldA 1 (.t 24)) none,(some (21,true)),[0,1,2,3,4,5,6,7,8,9,10,11,12]⟩,
 ⟨14,some 26,.a false (.fieldA 2 (.t 25)) none,(some (21,true)),[0,1,2,3,4,5,6,7,8,9,10,11,12,13]⟩,
 ⟨15,some 27,.a false (.loadH none (.t 26)) none,(some (21,true)),[0,1,2,3,4,5,6,7,8,9,10,11,12,13,14]⟩,
 ⟨16,some 28,.a false (.fieldA 2 (.t 3)) none,(some (21,true)),[0,1,2,3,4,5,6,7,8,9]⟩,
 ⟨17,some 29,.a false (.loadB 0 none (.t 28)) none,(some (21,true)),[0,1,2,3,4,5,6,7,8,9,16]⟩,
 ⟨18,some 30,.a false (.bin .eql (.t 27) (.t 29)) none,(some (21,true)),[0,1,2,3,4,5,6,7,8,9,10,11,12,13,14,15,16,17]⟩,
 xA 19 31 (.pick (.t 21) (.t 30) (.c (.bool false))) (rg 19)])
  (.cond (.t 31) (.seq [4] (.region [om 0 32 5,
 om 1 4 32])
  .ret) .skip)))
  (.region [om 0 10 5,
 oa 1 11 (.bin .add (.t 10) (.c (.int .i64 1))),
 om 2 5 11]))))))
  (.seq [4] (.region [oi 0 4 (-1)])
  .ret)))
noncomputable def df_spec_l8Find:DFun:=⟨2,33,1,true,[.tmp 4],dc_spec_l8Find⟩
noncomputable def pf_spec_l8Find:PFun:=df_spec_l8Find.er
noncomputable def f_spec_l8Find:AFun:=pf_spec_l8Find.er
@[irreducible] noncomputable def s_spec_l8Find:CallSem:=funSem f_spec_l8Find
@[irreducible] noncomputable def p_spec_l8Find:PSem:=pfunSem pf_spec_l8Find
theorem sp_spec_l8Find:SoundP s_spec_l8Find p_spec_l8Find:=by unfold s_spec_l8Find p_spec_l8Find;exact pfun_sound (f:=pf_spec_l8Find) trivial
def h_spec_l8Find:List HT:=[.one .frz (.sl rI5),.agg [(.frz,.int .i64),(.frz,.int .i64),(.frz,.int .i64)]]
def q_spec_l8Find:QT:=.one (.one .own (.int .i64))
@[irreducible] noncomputable def v_spec_l8Find(x:(List (Int×Int×Int×Int×Int))×(Int×Int×Int)):Int:=(shut fun x=>fnV df_spec_l8Find h_spec_l8Find q_spec_l8Find x).1 x
@[irreducible] noncomputable def ok_spec_l8Find(x:(List (Int×Int×Int×Int×Int))×(Int×Int×Int)):Prop:=(shut fun x=>fnOk df_spec_l8Find h_spec_l8Find q_spec_l8Find x).1 x
theorem vu_spec_l8Find (x):v_spec_l8Find x=fnV df_spec_l8Find h_spec_l8Find q_spec_l8Find x:=by unfold v_spec_l8Find;exact congrFun (shut _).2 x
theorem ou_spec_l8Find (x):ok_spec_l8Find x=fnOk df_spec_l8Find h_spec_l8Find q_spec_l8Find x:=by unfold ok_spec_l8Find;exact congrFun (shut _).2 x
noncomputable def D_spec_l8Find:DSem:=DSemOf h_spec_l8Find q_spec_l8Find ok_spec_l8Find v_spec_l8Find
theorem ck_spec_l8Find(x:(List (Int×Int×Int×Int×Int))×(Int×Int×Int)):fnChk df_spec_l8Find h_spec_l8Find q_spec_l8Find x=true:=by kernel_rfl
theorem ob_spec_l8Find:AllD df_spec_l8Find.body.obs:=trivial
theorem st_spec_l8Find:fnSt df_spec_l8Find h_spec_l8Find q_spec_l8Find=true:=by kernel_rfl
theorem sd_spec_l8Find:SoundD p_spec_l8Find D_spec_l8Find:=by unfold p_spec_l8Find;exact soundD_of (f:=df_spec_l8Find) (hs:=h_spec_l8Find) (q:=q_spec_l8Find) ob_spec_l8Find st_spec_l8Find ck_spec_l8Find (fun x h=>Eq.mp (ou_spec_l8Find x) h) (fun x=>(vu_spec_l8Find x).symm)
noncomputable def dc_spec_l8Action:DCode:=
 (.seq [2,1] (.region [oa 0 1 (.boxB 0 3 (.t 0)),
 oa 1 2 (.allocB 1 [(.int .i64 0),(.int .i64 0),(.int .i64 0),(.int .i64 0)])])
  (.seq [2] (.region [oa 0 3 (.fieldA 1 (.t 1)),
 ob 1 4 (.loadB 0 none (.t 3)),
 oa 2 5 (.fieldA 2 (.t 1)),
 ob 3 6 (.loadB 0 none (.t 5)),
 oa 4 7 (.build [(.int .i64 0),(.int .i64 0),(.int .i64 0),(.int .i64 0)] [(0,1,(.c (.int .i64 2))),(1,1,(.t 4)),(2,1,(.t 6))]),
 os 5 (.storeB 1 4 (.t 2) (.t 7))])
  .ret))
noncomputable def df_spec_l8Action:DFun:=⟨1,8,2,true,[.cell 2 (some 4)],dc_spec_l8Action⟩
noncomputable def pf_spec_l8Action:PFun:=df_spec_l8Action.er
noncomputable def f_spec_l8Action:AFun:=pf_spec_l8Action.er
@[irreducible] noncomputable def s_spec_l8Action:CallSem:=funSem f_spec_l8Action
@[irreducible] noncomputable def p_spec_l8Action:PSem:=pfunSem pf_spec_l8Action
theorem sp_spec_l8Action:SoundP s_spec_l8Action p_spec_l8Action:=by unfold s_spec_l8Action p_spec_l8Action;exact pfun_sound (f:=pf_spec_l8Action) trivial
def h_spec_l8Action:List HT:=[.agg [(.frz,.int .i64),(.frz,.int .i64),(.frz,.int .i64)]]
def q_spec_l8Action:QT:=.one (.agg [(.own,.int .i64),(.own,.int .i64),(.own,.int .i64),(.own,.int .i64)])
@[irreducible] noncomputable def v_spec_l8Action(x:Int×Int×Int):Int×Int×Int×Int:=(shut fun x=>fnV df_spec_l8Action h_spec_l8Action q_spec_l8Action x).1 x
@[irreducible] noncomputable def ok_spec_l8Action(x:Int×Int×Int):Prop:=(shut fun x=>fnOk df_spec_l8Action h_spec_l8Action q_spec_l8Action x).1 x
theorem vu_spec_l8Action (x):v_spec_l8Action x=fnV df_spec_l8Action h_spec_l8Action q_spec_l8Action x:=by unfold v_spec_l8Action;exact congrFun (shut _).2 x
theorem ou_spec_l8Action (x):ok_spec_l8Action x=fnOk df_spec_l8Action h_spec_l8Action q_spec_l8Action x:=by unfold ok_spec_l8Action;exact congrFun (shut _).2 x
noncomputable def D_spec_l8Action:DSem:=DSemOf h_spec_l8Action q_spec_l8Action ok_spec_l8Action v_spec_l8Action
theorem ck_spec_l8Action(x:Int×Int×Int):fnChk df_spec_l8Action h_spec_l8Action q_spec_l8Action x=true:=by kernel_rfl
theorem ob_spec_l8Action:AllD df_spec_l8Action.body.obs:=trivial
theorem st_spec_l8Action:fnSt df_spec_l8Action h_spec_l8Action q_spec_l8Action=true:=by kernel_rfl
theorem sd_spec_l8Action:SoundD p_spec_l8Action D_spec_l8Action:=by unfold p_spec_l8Action;exact soundD_of (f:=df_spec_l8Action) (hs:=h_spec_l8Action) (q:=q_spec_l8Action) ob_spec_l8Action st_spec_l8Action ck_spec_l8Action (fun x h=>Eq.mp (ou_spec_l8Action x) h) (fun x=>(vu_spec_l8Action x).symm)
noncomputable def dc_spec_l8Without:DCode:=
 (.seq [1,0] (.region [oa 0 4 (.mv (.c .nils))])
 (.seq [4] (.region [on 1 6 0,
 om 2 7 1,
 xA 3 8 (.slice 5 (.t 6) none (some (.t 7))) [1,2],
 on 5 10 0,
 om 6 11 1,
 xA 7 12 (.bin .add (.t 11) (.c (.int .i64 1))) [6],
 xA 8 13 (.slice 5 (.t 10) (some (.t 12)) none) [5,6,7],
 ⟨0,some 5,.a false (.litSlice 5 0 [] []) (some rI5),none,[]⟩,
 xA 4 9 (.app 5 (.t 5) (.t 8)) (rg 4),
 xA 9 14 (.app 5 (.t 9) (.t 13)) (rg 9),
 xA 10 4 (.mv (.t 14)) (rg 10)])
  .ret))
noncomputable def df_spec_l8Without:DFun:=⟨2,15,0,false,[.tmp 4],dc_spec_l8Without⟩
noncomputable def pf_spec_l8Without:PFun:=df_spec_l8Without.er
noncomputable def f_spec_l8Without:AFun:=pf_spec_l8Without.er
@[irreducible] noncomputable def s_spec_l8Without:CallSem:=funSem f_spec_l8Without
@[irreducible] noncomputable def p_spec_l8Without:PSem:=pfunSem pf_spec_l8Without
theorem sp_spec_l8Without:SoundP s_spec_l8Without p_spec_l8Without:=by unfold s_spec_l8Without p_spec_l8Without;exact pfun_sound (f:=pf_spec_l8Without) trivial
def h_spec_l8Without:List HT:=[.one .frz (.sl rI5),.one .frz (.int .i64)]
def q_spec_l8Without:QT:=.one (.one .own (.sl rI5))
@[irreducible] noncomputable def v_spec_l8Without(x:(List (Int×Int×Int×Int×Int))×Int):List (Int×Int×Int×Int×Int):=(shut fun x=>fnV df_spec_l8Without h_spec_l8Without q_spec_l8Without x).1 x
@[irreducible] noncomputable def ok_spec_l8Without(x:(List (Int×Int×Int×Int×Int))×Int):Prop:=(shut fun x=>fnOk df_spec_l8Without h_spec_l8Without q_spec_l8Without x).1 x
theorem vu_spec_l8Without (x):v_spec_l8Without x=fnV df_spec_l8Without h_spec_l8Without q_spec_l8Without x:=by unfold v_spec_l8Without;exact congrFun (shut _).2 x
theorem ou_spec_l8Without (x):ok_spec_l8Without x=fnOk df_spec_l8Without h_spec_l8Without q_spec_l8Without x:=by unfold ok_spec_l8Without;exact congrFun (shut _).2 x
noncomputable def D_spec_l8Without:DSem:=DSemOf h_spec_l8Without q_spec_l8Without ok_spec_l8Without v_spec_l8Without
theorem ck_spec_l8Without(x:(List (Int×Int×Int×Int×Int))×Int):fnChk df_spec_l8Without h_spec_l8Without q_spec_l8Without x=true:=by kernel_rfl
theorem ob_spec_l8Without:AllD df_spec_l8Without.body.obs:=trivial
theorem st_spec_l8Without:fnSt df_spec_l8Without h_spec_l8Without q_spec_l8Without=true:=by kernel_rfl
theorem sd_spec_l8Without:SoundD p_spec_l8Without D_spec_l8Without:=by unfold p_spec_l8Without;exact soundD_of (f:=df_spec_l8Without) (hs:=h_spec_l8Without) (q:=q_spec_l8Without) ob_spec_l8Without st_spec_l8Without ck_spec_l8Without (fun x h=>Eq.mp (ou_spec_l8Without x) h) (fun x=>(vu_spec_l8Without x).symm)
noncomputable def dc_spec_IsMacro:DCode:=
 (.seq [0] (.region [oa 0 2 (.mv (.c (.bool false)))])
 (.seq [3,0] (.region [⟨0,some 7,.a false (.litSlice 5 0 [] []) (some rI5),none,[]⟩,
 om 1 3 7])
  (.seq [3,0] (.seq [4,3,0] (.region [oi 0 4 0])
  (.block 0 (.loop [0,3,4] 1 (.seq [4,3,0] (.seq [11,4,3,0] (.region [om 0 8 4,
 on 1 9 0,
 oa 2 10 (.len (.t 9)),
 oa 3 11 (.bin .lss (.t 8) (.t 10))])
  (.cond (.t 11) .skip (.exit 0)))
  (.seq [4,3,0] (.block 1 (.seq [5,4,3,0] (.region [on 0 14 0,
 om 1 15 4,
 oa 2 16 (.indexA 3 (.t 14) (.t 15)),
 ob 3 17 (.loadH (some 3) (.t 16)),
 oa 4 5 (.allocB 0 [(.int .i64 0),(.int .i64 0),(.int .i64 0)]),
 os 5 (.storeB 0 3 (.t 5) (.t 17))])
  (.seq [6,5,4,3,0] (.region [on 0 18 3,
 oa 1 19 (.loadB 0 (some 3) (.t 5)),
 oc 2 20 s_spec_l8Find p_spec_l8Find D_spec_l8Find [(.t 18),(.t 19)],
 om 3 6 20])
  (.seq [6,5,4,3,0] (.seq [38,6,5,4,3,0] (.region [oa 0 21 (.fieldA 0 (.t 5)),
 oa 1 22 (.loadB 0 none (.t 21)),
 oc 2 23 s_spec_l1In p_spec_l1In D_spec_l1In [(.t 22),(.c (.int .i64 0)),(.c (.int .i64 2))],
 oa 3 24 (.un .not (.t 23)),
 om 4 25 24,
 og 5 26 (.loadB 0 (some 3) (.t 5)) 25 false,
 ⟨6,some 27,.call false s_spec_l8Action p_spec_l8Action D_spec_l8Action [(.t 26)],(some (25,false)),[]⟩,
 ⟨7,some 28,.call false s_spec_IsAction p_spec_IsAction D_spec_IsAction [(.t 27)],(some (25,false)),[]⟩,
 og 8 29 (.un .not (.t 28)) 25 false,
 oa 9 30 (.pick (.t 25) (.c (.bool true)) (.t 29)),
 om 10 31 30,
 og 11 32 (.fieldA 0 (.t 5)) 31 false,
 og 12 33 (.loadB 0 none (.t 32)) 31 false,
 og 13 34 (.bin .eql (.t 33) (.c (.int .i64 2))) 31 false,
 og 14 35 (.mv (.t 6)) 31 false,
 og 15 36 (.bin .geq (.t 35) (.c (.int .i64 0))) 31 false,
 og 16 37 (.eqB true (.t 34) (.t 36)) 31 false,
 oa 17 38 (.pick (.t 31) (.c (.bool true)) (.t 37))])
  (.cond (.t 38) (.seq [2] (.region [oa 0 2 (.mv (.c (.bool false)))])
  .ret) .skip))
  (.seq [40,6,5,4,3,0] (.region [oa 0 39 (.fieldA 0 (.t 5)),
 oa 1 40 (.loadB 0 none (.t 39))])
  (.block 2 (.seq [41,40,6,5,4,3,0] (.region [oa 0 42 (.bin .eql (.t 40) (.c (.int .i64 1))),
 om 1 41 42])
  (.cond (.t 41) (.region [om 0 43 3,
 oa 1 44 (.loadB 0 (some 3) (.t 5)),
 oc 2 45 s_spec_l8Action p_spec_l8Action D_spec_l8Action [(.t 44)],
 oa 3 46 (.build [(.int .i64 0),(.int .i64 0),(.int .i64 0),(.int .i64 0),(.int .i64 0)] [(1,4,(.t 45))]),
 ⟨4,some 47,.a false (.litSlice 5 1 [(.int .i64 0),(.int .i64 0),(.int .i64 0),(.int .i64 0),(.int .i64 0)] [(0,5,(.t 46))]) (some rI5),none,[]⟩,
 oa 5 48 (.app 5 (.t 43) (.t 47)),
 om 6 3 48]) (.seq [49,6,4,3,0] (.region [oa 0 50 (.bin .eql (.t 40) (.c (.int .i64 2))),
 om 1 49 50])
  (.cond (.t 49) (.region [on 0 51 3,
 om 1 52 6,
 oc 2 53 s_spec_l8Without p_spec_l8Without D_spec_l8Without [(.t 51),(.t 52)],
 om 3 3 53]) .skip))))))))))
  (.region [om 0 12 4,
 oa 1 13 (.bin .add (.t 12) (.c (.int .i64 1))),
 om 2 4 13]))))))
  (.seq [2] (.region [on 0 54 0,
 oa 1 55 (.len (.t 54)),
 oa 2 56 (.bin .leq (.t 55) (.c (.int .i64 8))),
 om 3 57 56,
 ⟨4,some 58,.a true (.mv (.t 3)) none,(some (57,true)),[]⟩,
 og 5 59 (.len (.t 58)) 57 true,
 og 6 60 (.bin .eql (.t 59) (.c (.int .i64 0))) 57 true,
 oa 7 61 (.pick (.t 57) (.t 60) (.c (.bool false))),
 om 8 2 61])
  .ret))))
noncomputable def df_spec_IsMacro:DFun:=⟨1,62,1,true,[.tmp 2],dc_spec_IsMacro⟩
noncomputable def pf_spec_IsMacro:PFun:=df_spec_IsMacro.er
noncomputable def f_spec_IsMacro:AFun:=pf_spec_IsMacro.er
@[irreducible] noncomputable def s_spec_IsMacro:CallSem:=funSem f_spec_IsMacro
@[irreducible] noncomputable def p_spec_IsMacro:PSem:=pfunSem pf_spec_IsMacro
theorem sp_spec_IsMacro:SoundP s_spec_IsMacro p_spec_IsMacro:=by unfold s_spec_IsMacro p_spec_IsMacro;exact pfun_sound (f:=pf_spec_IsMacro) ⟨sp_spec_l8Find,sp_spec_l1In,sp_spec_l8Action,sp_spec_IsAction,sp_spec_l8Action,sp_spec_l8Without,trivial⟩
def h_spec_IsMacro:List HT:=[.one .frz (.sl rI3)]
def q_spec_IsMacro:QT:=.one (.one .own (.bool))
@[irreducible] noncomputable def v_spec_IsMacro(x:List (Int×Int×Int)):Bool:=(shut fun x=>fnV df_spec_IsMacro h_spec_IsMacro q_spec_IsMacro x).1 x
@[irreducible] noncomputable def ok_spec_IsMacro(x:List (Int×Int×Int)):Prop:=(shut fun x=>fnOk df_spec_IsMacro h_spec_IsMacro q_spec_IsMacro x).1 x
theorem vu_spec_IsMacro (x):v_spec_IsMacro x=fnV df_spec_IsMacro h_spec_IsMacro q_spec_IsMacro x:=by unfold v_spec_IsMacro;exact congrFun (shut _).2 x
theorem ou_spec_IsMacro (x):ok_spec_IsMacro x=fnOk df_spec_IsMacro h_spec_IsMacro q_spec_IsMacro x:=by unfold ok_spec_IsMacro;exact congrFun (shut _).2 x
noncomputable def D_spec_IsMacro:DSem:=DSemOf h_spec_IsMacro q_spec_IsMacro ok_spec_IsMacro v_spec_IsMacro
theorem ck_spec_IsMacro(x:List (Int×Int×Int)):fnChk df_spec_IsMacro h_spec_IsMacro q_spec_IsMacro x=true:=by kernel_rfl
theorem ob_spec_IsMacro:AllD df_spec_IsMacro.body.obs:=⟨sd_spec_l8Find,sd_spec_l1In,sd_spec_l8Action,sd_spec_IsAction,sd_spec_l8Action,sd_spec_l8Without,trivial⟩
theorem st_spec_IsMacro:fnSt df_spec_IsMacro h_spec_IsMacro q_spec_IsMacro=true:=by kernel_rfl
theorem sd_spec_IsMacro:SoundD p_spec_IsMacro D_spec_IsMacro:=by unfold p_spec_IsMacro;exact soundD_of (f:=df_spec_IsMacro) (hs:=h_spec_IsMacro) (q:=q_spec_IsMacro) ob_spec_IsMacro st_spec_IsMacro ck_spec_IsMacro (fun x h=>Eq.mp (ou_spec_IsMacro x) h) (fun x=>(vu_spec_IsMacro x).symm)
noncomputable def dc_impl_pairAt:DCode:=
 (.seq [3,0] (.region [oa 0 3 (.boxB 0 2 (.t 1)),
 oi 1 4 0])
  (.seq [] (.seq [9,8,7,3] (.region [on 0 7 0,
 oa 1 8 (.len (.t 7)),
 oi 2 9 0])
  (.block 0 (.loop [3,7,8,9] 1 (.seq [10,9,8,7,3] (.region [oa 0 10 (.bin .lss (.t 9) (.t 8))])
  (.seq [9,8,7,3] (.cond (.t 10) .skip (.exit 0))
  (.seq [9,8,7,3] (.block 1 (.seq [9,8,7,6,5,3] (.region [om 0 11 9,
 oa 1 12 (.indexA 2 (.t 7) (.t 9)),
 ob 2 13 (.loadH (some 2) (.t 12)),
 oa 3 6 (.allocB 1 [(.int .i64 0),(.int .i64 0)]),
 om 4 5 11,
 os 5 (.storeB 1 2 (.t 6) (.t 13))])
  (.seq [16,9,8,7,5,3] (.region [oa 0 14 (.loadB 1 (some 2) (.t 6)),
 oa 1 15 (.loadB 0 (some 2) (.t 3)),
 oa 2 16 (.eqA 2 false (.t 14) (.t 15))])
  (.cond (.t 16) (.seq [4] (.region [om 0 17 5,
 om 1 4 17])
  .ret) .skip))))
  (.region [oa 0 18 (.bin .add (.t 9) (.c (.int .i64 1))),
 om 1 9 18])))))))
  (.seq [4] (.region [oi 0 4 (-1)])
  .ret)))
noncomputable def df_impl_pairAt:DFun:=⟨2,19,2,true,[.tmp 4],dc_impl_pairAt⟩
noncomputable def pf_impl_pairAt:PFun:=df_impl_pairAt.er
noncomputable def f_impl_pairAt:AFun:=pf_impl_pairAt.er
@[irreducible] noncomputable def s_impl_pairAt:CallSem:=funSem f_impl_pairAt
@[irreducible] noncomputable def p_impl_pairAt:PSem:=pfunSem pf_impl_pairAt
theorem sp_impl_pairAt:SoundP s_impl_pairAt p_impl_pairAt:=by unfold s_impl_pairAt p_impl_pairAt;exact pfun_sound (f:=pf_impl_pairAt) trivial
def h_impl_pairAt:List HT:=[.one .frz (.sl (.cons (.int .i64) (.one (.int .i64)))),.agg [(.frz,.int .i64),(.frz,.int .i64)]]
def q_impl_pairAt:QT:=.one (.one .own (.int .i64))
@[irreducible] noncomputable def v_impl_pairAt(x:(List (Int×Int))×(Int×Int)):Int:=(shut fun x=>fnV df_impl_pairAt h_impl_pairAt q_impl_pairAt x).1 x
@[irreducible] noncomputable def ok_impl_pairAt(x:(List (Int×Int))×(Int×Int)):Prop:=(shut fun x=>fnOk df_impl_pairAt h_impl_pairAt q_impl_pairAt x).1 x
theorem vu_impl_pairAt (x):v_impl_pairAt x=fnV df_impl_pairAt h_impl_pairAt q_impl_pairAt x:=by unfold v_impl_pairAt;exact congrFun (shut _).2 x
theorem ou_impl_pairAt (x):ok_impl_pairAt x=fnOk df_impl_pairAt h_impl_pairAt q_impl_pairAt x:=by unfold ok_impl_pairAt;exact congrFun (shut _).2 x
noncomputable def D_impl_pairAt:DSem:=DSemOf h_impl_pairAt q_impl_pairAt ok_impl_pairAt v_impl_pairAt
theorem ck_impl_pairAt(x:(List (Int×Int))×(Int×Int)):fnChk df_impl_pairAt h_impl_pairAt q_impl_pairAt x=true:=by kernel_rfl
theorem ob_impl_pairAt:AllD df_impl_pairAt.body.obs:=trivial
theorem st_impl_pairAt:fnSt df_impl_pairAt h_impl_pairAt q_impl_pairAt=true:=by kernel_rfl
theorem sd_impl_pairAt:SoundD p_impl_pairAt D_impl_pairAt:=by unfold p_impl_pairAt;exact soundD_of (f:=df_impl_pairAt) (hs:=h_impl_pairAt) (q:=q_impl_pairAt) ob_impl_pairAt st_impl_pairAt ck_impl_pairAt (fun x h=>Eq.mp (ou_impl_pairAt x) h) (fun x=>(vu_impl_pairAt x).symm)
noncomputable def dc_impl_IsMacro:DCode:=
 (.seq [0] (.region [oa 0 2 (.mv (.c (.bool false)))])
 (.seq [0] (.seq [10,0] (.region [on 0 8 0,
 oa 1 9 (.len (.t 8)),
 oa 2 10 (.bin .gtr (.t 9) (.c (.int .i64 8)))])
  (.cond (.t 10) (.seq [2] (.region [oa 0 2 (.mv (.c (.bool false)))])
  .ret) .skip))
  (.seq [3,0] (.region [⟨0,some 3,.aw [(0,2)] false (.mv (.c .nils)) none,none,[]⟩])
  (.seq [3] (.seq [13,12,11,3] (.region [on 0 11 0,
 oa 1 12 (.len (.t 11)),
 oi 2 13 0])
  (.block 0 (.loop [3,11,12,13] 1 (.seq [14,13,12,11,3] (.region [oa 0 14 (.bin .lss (.t 13) (.t 12))])
  (.seq [13,12,11,3] (.cond (.t 14) .skip (.exit 0))
  (.seq [13,12,11,3] (.block 1 (.seq [13,12,11,5,3] (.region [oa 0 15 (.indexA 3 (.t 11) (.t 13)),
 ob 1 16 (.loadH (some 3) (.t 15)),
 oa 2 5 (.allocB 0 [(.int .i64 0),(.int .i64 0),(.int .i64 0)]),
 os 3 (.storeB 0 3 (.t 5) (.t 16))])
  (.seq [13,12,11,6,5,3] (.region [oa 0 17 (.fieldA 1 (.t 5)),
 ob 1 18 (.loadB 0 none (.t 17)),
 oa 2 19 (.fieldA 2 (.t 5)),
 ob 3 20 (.loadB 0 none (.t 19)),
 oa 4 21 (.build [(.int .i64 0),(.int .i64 0)] [(0,1,(.t 18)),(1,1,(.t 20))]),
 oa 5 6 (.allocB 1 [(.int .i64 0),(.int .i64 0)]),
 os 6 (.storeB 1 2 (.t 6) (.t 21))])
  (.seq [13,12,11,7,6,5,3] (.region [on 0 22 3,
 oa 1 23 (.loadB 1 (some 2) (.t 6)),
 oc 2 24 s_impl_pairAt p_impl_pairAt D_impl_pairAt [(.t 22),(.t 23)],
 om 3 7 24])
  (.seq [13,12,11,7,6,5,3] (.seq [31,13,12,11,7,6,5,3] (.region [oa 0 25 (.fieldA 1 (.t 5)),
 ob 1 26 (.loadB 0 none (.t 25)),
 oa 2 27 (.fieldA 2 (.t 5)),
 ob 3 28 (.loadB 0 none (.t 27)),
 oa 4 29 (.build [(.int .i64 0),(.int .i64 0),(.int .i64 0),(.int .i64 0)] [(0,1,(.c (.int .i64 2))),(1,1,(.t 26)),(2,1,(.t 28))]),
 oc 5 30 s_impl_IsAction p_impl_IsAction D_impl_IsAction [(.t 29)],
 oa 6 31 (.un .not (.t 30))])
  (.cond (.t 31) (.seq [2] (.region [oa 0 2 (.mv (.c (.bool false)))])
  .ret) .skip))
  (.seq [33,13,12,11,7,6,5,3] (.region [oa 0 32 (.fieldA 0 (.t 5)),
 oa 1 33 (.loadB 0 none (.t 32))])
  (.block 2 (.seq [34,33,13,12,11,7,6,5,3] (.seq [34,33,13,12,11,7,6,5,3] (.region [oa 0 35 (.bin .eql (.t 33) (.c (.int .i64 0))),
 om 1 34 35])
  (.cond (.t 34) .skip (.region [oa 0 36 (.bin .eql (.t 33) (.c (.int .i64 1))),
 om 1 34 36])))
  (.cond (.t 34) (.seq [13,12,11,6,5,3] (.seq [38,13,12,11,6,5,3] (.region [om 0 37 7,
 oa 1 38 (.bin .geq (.t 37) (.c (.int .i64 0)))])
  (.cond (.t 38) (.seq [2] (.region [oa 0 2 (.mv (.c (.bool false)))])
  .ret) .skip))
  (.seq [41,13,12,11,6,3] (.region [oa 0 39 (.fieldA 0 (.t 5)),
 oa 1 40 (.loadB 0 none (.t 39)),
 oa 2 41 (.bin .eql (.t 40) (.c (.int .i64 1)))])
  (.cond (.t 41) (.region [om 0 42 3,
 ob 1 43 (.loadB 1 (some 2) (.t 6)),
 ⟨2,some 44,.a false (.litSlice 2 1 [(.int .i64 0),(.int .i64 0)] [(0,2,(.t 43))]) (some (.cons (.int .i64) (.one (.int .i64)))),none,[]⟩,
 ⟨3,some 45,.aw [(0,2)] false (.app 2 (.t 42) (.t 44)) none,none,[]⟩,
 ⟨4,some 3,.aw [(0,2)] false (.mv (.t 45)) none,none,[]⟩]) .skip))) (.seq [46,13,12,11,7,3] (.region [oa 0 47 (.bin .eql (.t 33) (.c (.int .i64 2))),
 om 1 46 47])
  (.cond (.t 46) (.seq [13,12,11,7,3] (.seq [49,13,12,11,7,3] (.region [om 0 48 7,
 oa 1 49 (.bin .lss (.t 48) (.c (.int .i64 0)))])
  (.cond (.t 49) (.seq [2] (.region [oa 0 2 (.mv (.c (.bool false)))])
  .ret) .skip))
  (.region [on 0 50 3,
 om 1 51 7,
 xA 2 52 (.slice 2 (.t 50) none (some (.t 51))) (rg 2),
 on 3 53 3,
 om 4 54 7,
 xA 5 55 (.bin .add (.t 54) (.c (.int .i64 1))) [4],
 xA 6 56 (.slice 2 (.t 53) (some (.t 55)) none) [3,4,5],
 ⟨7,some 57,.aw [(0,2)] false (.app 2 (.t 52) (.t 56)) none,none,[0,1,2,3,4,5,6]⟩,
 ⟨8,some 3,.aw [(0,2)] false (.mv (.t 57)) none,none,[0,1,2,3,4,5,6,7]⟩])) (.seq [2] (.region [oa 0 2 (.mv (.c (.bool false)))])
  .ret))))))))))))
  (.region [oa 0 58 (.bin .add (.t 13) (.c (.int .i64 1))),
 om 1 13 58])))))))
  (.seq [2] (.region [on 0 59 3,
 oa 1 60 (.len (.t 59)),
 oa 2 61 (.bin .eql (.t 60) (.c (.int .i64 0))),
 om 3 2 61])
  .ret)))))
noncomputable def df_impl_IsMacro:DFun:=⟨1,62,2,true,[.tmp 2],dc_impl_IsMacro⟩
noncomputable def pf_impl_IsMacro:PFun:=df_impl_IsMacro.er
noncomputable def f_impl_IsMacro:AFun:=pf_impl_IsMacro.er
@[irreducible] noncomputable def s_impl_IsMacro:CallSem:=funSem f_impl_IsMacro
@[irreducible] noncomputable def p_impl_IsMacro:PSem:=pfunSem pf_impl_IsMacro
theorem sp_impl_IsMacro:SoundP s_impl_IsMacro p_impl_IsMacro:=by unfold s_impl_IsMacro p_impl_IsMacro;exact pfun_sound (f:=pf_impl_IsMacro) ⟨sp_impl_pairAt,sp_impl_IsAction,trivial⟩
def h_impl_IsMacro:List HT:=[.one .frz (.sl rI3)]
def q_impl_IsMacro:QT:=.one (.one .own (.bool))
@[irreducible] noncomputable def v_impl_IsMacro(x:List (Int×Int×Int)):Bool:=(shut fun x=>fnV df_impl_IsMacro h_impl_IsMacro q_impl_IsMacro x).1 x
@[irreducible] noncomputable def ok_impl_IsMacro(x:List (Int×Int×Int)):Prop:=(shut fun x=>fnOk df_impl_IsMacro h_impl_IsMacro q_impl_IsMacro x).1 x
theorem vu_impl_IsMacro (x):v_impl_IsMacro x=fnV df_impl_IsMacro h_impl_IsMacro q_impl_IsMacro x:=by unfold v_impl_IsMacro;exact congrFun (shut _).2 x
theorem ou_impl_IsMacro (x):ok_impl_IsMacro x=fnOk df_impl_IsMacro h_impl_IsMacro q_impl_IsMacro x:=by unfold ok_impl_IsMacro;exact congrFun (shut _).2 x
noncomputable def D_impl_IsMacro:DSem:=DSemOf h_impl_IsMacro q_impl_IsMacro ok_impl_IsMacro v_impl_IsMacro
theorem ck_impl_IsMacro(x:List (Int×Int×Int)):fnChk df_impl_IsMacro h_impl_IsMacro q_impl_IsMacro x=true:=by kernel_rfl
theorem ob_impl_IsMacro:AllD df_impl_IsMacro.body.obs:=⟨sd_impl_pairAt,sd_impl_IsAction,trivial⟩
theorem st_impl_IsMacro:fnSt df_impl_IsMacro h_impl_IsMacro q_impl_IsMacro=true:=by kernel_rfl
theorem sd_impl_IsMacro:SoundD p_impl_IsMacro D_impl_IsMacro:=by unfold p_impl_IsMacro;exact soundD_of (f:=df_impl_IsMacro) (hs:=h_impl_IsMacro) (q:=q_impl_IsMacro) ob_impl_IsMacro st_impl_IsMacro ck_impl_IsMacro (fun x h=>Eq.mp (ou_impl_IsMacro x) h) (fun x=>(vu_impl_IsMacro x).symm)
end
section
set_option maxRecDepth 100000
theorem ve_spec_l8Find (x):v_spec_l8Find x=(bSel (iLt (loopV (fun(x0:Int)=>(bAnd (iLt x0 (lLen x.1)) (bNot (bAnd (iEq (lGet x.1 (iNat x0) (0,0,0,0,0)).2.2.1 x.2.2.1) (iEq (lGet x.1 (iNat x0) (0,0,0,0,0)).2.2.2.1 x.2.2.2))))) (fun(x0:Int)=>(iAdd .i64 x0 1)) 0) (lLen x.1)) (loopV (fun(x0:Int)=>(bAnd (iLt x0 (lLen x.1)) (bNot (bAnd (iEq (lGet x.1 (iNat x0) (0,0,0,0,0)).2.2.1 x.2.2.1) (iEq (lGet x.1 (iNat x0) (0,0,0,0,0)).2.2.2.1 x.2.2.2))))) (fun(x0:Int)=>(iAdd .i64 x0 1)) 0) (-1)):=(vu_spec_l8Find x).trans (by kernel_rfl)
theorem oe_spec_l8Find (x):ok_spec_l8Find x=(LoopOk (fun(x0:Int)=>(bAnd (iLt x0 (lLen x.1)) (bNot (bAnd (iEq (lGet x.1 (iNat x0) (0,0,0,0,0)).2.2.1 x.2.2.1) (iEq (lGet x.1 (iNat x0) (0,0,0,0,0)).2.2.2.1 x.2.2.2))))) (fun(x0:Int)=>(iAdd .i64 x0 1)) (fun(x0:Int)=>(((iLt x0 (lLen x.1))=true→((((0:Int)≤x0)∧(x0<(((List.length x.1):Int))))∧(((iNat x0)<(List.length x.1))∧(((iEq (lGet x.1 (iNat x0) (0,0,0,0,0)).2.2.1 x.2.2.1)=true→((((0:Int)≤x0)∧(x0<(((List.length x.1):Int))))∧((iNat x0)<(List.length x.1))))∧((iEq (lGet x.1 (iNat x0) (0,0,0,0,0)).2.2.1 x.2.2.1)=false→True)))))∧((iLt x0 (lLen x.1))=false→True))) 0):=(ou_spec_l8Find x).trans (by kernel_rfl)
theorem ve_spec_l8Action (x):v_spec_l8Action x=(2,x.2.1,x.2.2,0):=(vu_spec_l8Action x).trans (by kernel_rfl)
theorem oe_spec_l8Action (x):ok_spec_l8Action x=True:=(ou_spec_l8Action x).trans (by kernel_rfl)
theorem ve_spec_l8Without (x):v_spec_l8Without x=(lApp (lApp [] (lSub x.1 0 (iNat x.2))) (lSub x.1 (iNat (iAdd .i64 x.2 1)) (lN x.1))):=(vu_spec_l8Without x).trans (by kernel_rfl)
theorem oe_spec_l8Without (x):ok_spec_l8Without x=((((0:Int)≤x.2)∧((0≤(iNat x.2))∧(((iNat x.2)≤(List.length x.1))∧(0<(List.length x.1)))))∧((((0:Int)≤(iAdd .i64 x.2 1))∧(((iNat (iAdd .i64 x.2 1))≤(lN x.1))∧(((lN x.1)≤(List.length x.1))∧(0<(List.length x.1)))))∧((roomy (((List.length ([]:List (Int×(Int×(Int×(Int×Int))))))+(List.length (lSub x.1 0 (iNat x.2))))*5))∧(roomy (((List.length (lApp [] (lSub x.1 0 (iNat x.2))))+(List.length (lSub x.1 (iNat (iAdd .i64 x.2 1)) (lN x.1))))*5))))):=(ou_spec_l8Without x).trans (by kernel_rfl)
theorem ve_spec_IsMacro (x):v_spec_IsMacro x=(bAnd (bNot (iLt (loopV (fun(x0:((List (Int×(Int×(Int×(Int×Int)))))×Int))=>(bAnd (iLt x0.2 (lLen x)) (bNot (bOr (bNot (v_spec_l1In ((lGet x (iNat x0.2) (0,0,0)).1,0,2))) (bOr (bNot (v_spec_IsAction ((v_spec_l8Action ((lGet x (iNat x0.2) (0,0,0)).1,(lGet x (iNat x0.2) (0,0,0)).2.1,(lGet x (iNat x0.2) (0,0,0)).2.2)).1,(v_spec_l8Action ((lGet x (iNat x0.2) (0,0,0)).1,(lGet x (iNat x0.2) (0,0,0)).2.1,(lGet x (iNat x0.2) (0,0,0)).2.2)).2.1,(v_spec_l8Action ((lGet x (iNat x0.2) (0,0,0)).1,(lGet x (iNat x0.2) (0,0,0)).2.1,(lGet x (iNat x0.2) (0,0,0)).2.2)).2.2.1,(v_spec_l8Action ((lGet x (iNat x0.2) (0,0,0)).1,(lGet x (iNat x0.2) (0,0,0)).2.1,(lGet x (iNat x0.2) (0,0,0)).2.2)).2.2.2))) (bNot (bIff (iEq (lGet x (iNat x0.2) (0,0,0)).1 2) (iGe (v_spec_l8Find (x0.1,(lGet x (iNat x0.2) (0,0,0)).1,(lGet x (iNat x0.2) (0,0,0)).2.1,(lGet x (iNat x0.2) (0,0,0)).2.2)) 0)))))))) (fun(x0:((List (Int×(Int×(Int×(Int×Int)))))×Int))=>((bSel (iEq (lGet x (iNat x0.2) (0,0,0)).1 1) (lApp x0.1 [(0,(v_spec_l8Action ((lGet x (iNat x0.2) (0,0,0)).1,(lGet x (iNat x0.2) (0,0,0)).2.1,(lGet x (iNat x0.2) (0,0,0)).2.2)).1,(v_spec_l8Action ((lGet x (iNat x0.2) (0,0,0)).1,(lGet x (iNat x0.2) (0,0,0)).2.1,(lGet x (iNat x0.2) (0,0,0)).2.2)).2.1,(v_spec_l8Action ((lGet x (iNat x0.2) (0,0,0)).1,(lGet x (iNat x0.2) (0,0,0)).2.1,(lGet x (iNat x0.2) (0,0,0)).2.2)).2.2.1,(v_spec_l8Action ((lGet x (iNat x0.2) (0,0,0)).1,(lGet x (iNat x0.2) (0,0,0)).2.1,(lGet x (iNat x0.2) (0,0,0)).2.2)).2.2.2)]) (bSel (iEq (lGet x (iNat x0.2) (0,0,0)).1 2) (v_spec_l8Without (x0.1,(v_spec_l8Find (x0.1,(lGet x (iNat x0.2) (0,0,0)).1,(lGet x (iNat x0.2) (0,0,0)).2.1,(lGet x (iNat x0.2) (0,0,0)).2.2)))) x0.1)),(iAdd .i64 x0.2 1))) ([],0)).2 (lLen x))) (bAnd (iLe (lLen x) 8) (iEq (lLen (loopV (fun(x0:((List (Int×(Int×(Int×(Int×Int)))))×Int))=>(bAnd (iLt x0.2 (lLen x)) (bNot (bOr (bNot (v_spec_l1In ((lGet x (iNat x0.2) (0,0,0)).1,0,2))) (bOr (bNot (v_spec_IsAction ((v_spec_l8Action ((lGet x (iNat x0.2) (0,0,0)).1,(lGet x (iNat x0.2) (0,0,0)).2.1,(lGet x (iNat x0.2) (0,0,0)).2.2)).1,(v_spec_l8Action ((lGet x (iNat x0.2) (0,0,0)).1,(lGet x (iNat x0.2) (0,0,0)).2.1,(lGet x (iNat x0.2) (0,0,0)).2.2)).2.1,(v_spec_l8Action ((lGet x (iNat x0.2) (0,0,0)).1,(lGet x (iNat x0.2) (0,0,0)).2.1,(lGet x (iNat x0.2) (0,0,0)).2.2)).2.2.1,(v_spec_l8Action ((lGet x (iNat x0.2) (0,0,0)).1,(lGet x (iNat x0.2) (0,0,0)).2.1,(lGet x (iNat x0.2) (0,0,0)).2.2)).2.2.2))) (bNot (bIff (iEq (lGet x (iNat x0.2) (0,0,0)).1 2) (iGe (v_spec_l8Find (x0.1,(lGet x (iNat x0.2) (0,0,0)).1,(lGet x (iNat x0.2) (0,0,0)).2.1,(lGet x (iNat x0.2) (0,0,0)).2.2)) 0)))))))) (fun(x0:((List (Int×(Int×(Int×(Int×Int)))))×Int))=>((bSel (iEq (lGet x (iNat x0.2) (0,0,0)).1 1) (lApp x0.1 [(0,(v_spec_l8Action ((lGet x (iNat x0.2) (0,0,0)).1,(lGet x (iNat x0.2) (0,0,0)).2.1,(lGet x (iNat x0.2) (0,0,0)).2.2)).1,(v_spec_l8Action ((lGet x (iNat x0.2) (0,0,0)).1,(lGet x (iNat x0.2) (0,0,0)).2.1,(lGet x (iNat x0.2) (0,0,0)).2.2)).2.1,(v_spec_l8Action ((lGet x (iNat x0.2) (0,0,0)).1,(lGet x (iNat x0.2) (0,0,0)).2.1,(lGet x (iNat x0.2) (0,0,0)).2.2)).2.2.1,(v_spec_l8Action ((lGet x (iNat x0.2) (0,0,0)).1,(lGet x (iNat x0.2) (0,0,0)).2.1,(lGet x (iNat x0.2) (0,0,0)).2.2)).2.2.2)]) (bSel (iEq (lGet x (iNat x0.2) (0,0,0)).1 2) (v_spec_l8Without (x0.1,(v_spec_l8Find (x0.1,(lGet x (iNat x0.2) (0,0,0)).1,(lGet x (iNat x0.2) (0,0,0)).2.1,(lGet x (iNat x0.2) (0,0,0)).2.2)))) x0.1)),(iAdd .i64 x0.2 1))) ([],0)).1) 0))):=(vu_spec_IsMacro x).trans (by kernel_rfl)
theorem oe_spec_IsMacro (x):ok_spec_IsMacro x=(LoopOk (fun(x0:((List (Int×(Int×(Int×(Int×Int)))))×Int))=>(bAnd (iLt x0.2 (lLen x)) (bNot (bOr (bNot (v_spec_l1In ((lGet x (iNat x0.2) (0,0,0)).1,0,2))) (bOr (bNot (v_spec_IsAction ((v_spec_l8Action ((lGet x (iNat x0.2) (0,0,0)).1,(lGet x (iNat x0.2) (0,0,0)).2.1,(lGet x (iNat x0.2) (0,0,0)).2.2)).1,(v_spec_l8Action ((lGet x (iNat x0.2) (0,0,0)).1,(lGet x (iNat x0.2) (0,0,0)).2.1,(lGet x (iNat x0.2) (0,0,0)).2.2)).2.1,(v_spec_l8Action ((lGet x (iNat x0.2) (0,0,0)).1,(lGet x (iNat x0.2) (0,0,0)).2.1,(lGet x (iNat x0.2) (0,0,0)).2.2)).2.2.1,(v_spec_l8Action ((lGet x (iNat x0.2) (0,0,0)).1,(lGet x (iNat x0.2) (0,0,0)).2.1,(lGet x (iNat x0.2) (0,0,0)).2.2)).2.2.2))) (bNot (bIff (iEq (lGet x (iNat x0.2) (0,0,0)).1 2) (iGe (v_spec_l8Find (x0.1,(lGet x (iNat x0.2) (0,0,0)).1,(lGet x (iNat x0.2) (0,0,0)).2.1,(lGet x (iNat x0.2) (0,0,0)).2.2)) 0)))))))) (fun(x0:((List (Int×(Int×(Int×(Int×Int)))))×Int))=>((bSel (iEq (lGet x (iNat x0.2) (0,0,0)).1 1) (lApp x0.1 [(0,(v_spec_l8Action ((lGet x (iNat x0.2) (0,0,0)).1,(lGet x (iNat x0.2) (0,0,0)).2.1,(lGet x (iNat x0.2) (0,0,0)).2.2)).1,(v_spec_l8Action ((lGet x (iNat x0.2) (0,0,0)).1,(lGet x (iNat x0.2) (0,0,0)).2.1,(lGet x (iNat x0.2) (0,0,0)).2.2)).2.1,(v_spec_l8Action ((lGet x (iNat x0.2) (0,0,0)).1,(lGet x (iNat x0.2) (0,0,0)).2.1,(lGet x (iNat x0.2) (0,0,0)).2.2)).2.2.1,(v_spec_l8Action ((lGet x (iNat x0.2) (0,0,0)).1,(lGet x (iNat x0.2) (0,0,0)).2.1,(lGet x (iNat x0.2) (0,0,0)).2.2)).2.2.2)]) (bSel (iEq (lGet x (iNat x0.2) (0,0,0)).1 2) (v_spec_l8Without (x0.1,(v_spec_l8Find (x0.1,(lGet x (iNat x0.2) (0,0,0)).1,(lGet x (iNat x0.2) (0,0,0)).2.1,(lGet x (iNat x0.2) (0,0,0)).2.2)))) x0.1)),(iAdd .i64 x0.2 1))) (fun(x0:((List (Int×(Int×(Int×(Int×Int)))))×Int))=>(((iLt x0.2 (lLen x))=true→((((0:Int)≤x0.2)∧(x0.2<(((List.length x):Int))))∧(((iNat x0.2)<(List.length x))∧((ok_spec_l8Find (x0.1,(lGet x (iNat x0.2) (0,0,0)).1,(lGet x (iNat x0.2) (0,0,0)).2.1,(lGet x (iNat x0.2) (0,0,0)).2.2))∧(((ok_spec_l1In ((lGet x (iNat x0.2) (0,0,0)).1,0,2))∧(((bNot (v_spec_l1In ((lGet x (iNat x0.2) (0,0,0)).1,0,2)))=true→True)∧((bNot (v_spec_l1In ((lGet x (iNat x0.2) (0,0,0)).1,0,2)))=false→((ok_spec_l8Action ((lGet x (iNat x0.2) (0,0,0)).1,(lGet x (iNat x0.2) (0,0,0)).2.1,(lGet x (iNat x0.2) (0,0,0)).2.2))∧(ok_spec_IsAction ((v_spec_l8Action ((lGet x (iNat x0.2) (0,0,0)).1,(lGet x (iNat x0.2) (0,0,0)).2.1,(lGet x (iNat x0.2) (0,0,0)).2.2)).1,(v_spec_l8Action ((lGet x (iNat x0.2) (0,0,0)).1,(lGet x (iNat x0.2) (0,0,0)).2.1,(lGet x (iNat x0.2) (0,0,0)).2.2)).2.1,(v_spec_l8Action ((lGet x (iNat x0.2) (0,0,0)).1,(lGet x (iNat x0.2) (0,0,0)).2.1,(lGet x (iNat x0.2) (0,0,0)).2.2)).2.2.1,(v_spec_l8Action ((lGet x (iNat x0.2) (0,0,0)).1,(lGet x (iNat x0.2) (0,0,0)).2.1,(lGet x (iNat x0.2) (0,0,0)).2.2)).2.2.2))))))∧(((bOr (bNot (v_spec_l1In ((lGet x (iNat x0.2) (0,0,0)).1,0,2))) (bOr (bNot (v_spec_IsAction ((v_spec_l8Action ((lGet x (iNat x0.2) (0,0,0)).1,(lGet x (iNat x0.2) (0,0,0)).2.1,(lGet x (iNat x0.2) (0,0,0)).2.2)).1,(v_spec_l8Action ((lGet x (iNat x0.2) (0,0,0)).1,(lGet x (iNat x0.2) (0,0,0)).2.1,(lGet x (iNat x0.2) (0,0,0)).2.2)).2.1,(v_spec_l8Action ((lGet x (iNat x0.2) (0,0,0)).1,(lGet x (iNat x0.2) (0,0,0)).2.1,(lGet x (iNat x0.2) (0,0,0)).2.2)).2.2.1,(v_spec_l8Action ((lGet x (iNat x0.2) (0,0,0)).1,(lGet x (iNat x0.2) (0,0,0)).2.1,(lGet x (iNat x0.2) (0,0,0)).2.2)).2.2.2))) (bNot (bIff (iEq (lGet x (iNat x0.2) (0,0,0)).1 2) (iGe (v_spec_l8Find (x0.1,(lGet x (iNat x0.2) (0,0,0)).1,(lGet x (iNat x0.2) (0,0,0)).2.1,(lGet x (iNat x0.2) (0,0,0)).2.2)) 0)))))=true→True)∧((bOr (bNot (v_spec_l1In ((lGet x (iNat x0.2) (0,0,0)).1,0,2))) (bOr (bNot (v_spec_IsAction ((v_spec_l8Action ((lGet x (iNat x0.2) (0,0,0)).1,(lGet x (iNat x0.2) (0,0,0)).2.1,(lGet x (iNat x0.2) (0,0,0)).2.2)).1,(v_spec_l8Action ((lGet x (iNat x0.2) (0,0,0)).1,(lGet x (iNat x0.2) (0,0,0)).2.1,(lGet x (iNat x0.2) (0,0,0)).2.2)).2.1,(v_spec_l8Action ((lGet x (iNat x0.2) (0,0,0)).1,(lGet x (iNat x0.2) (0,0,0)).2.1,(lGet x (iNat x0.2) (0,0,0)).2.2)).2.2.1,(v_spec_l8Action ((lGet x (iNat x0.2) (0,0,0)).1,(lGet x (iNat x0.2) (0,0,0)).2.1,(lGet x (iNat x0.2) (0,0,0)).2.2)).2.2.2))) (bNot (bIff (iEq (lGet x (iNat x0.2) (0,0,0)).1 2) (iGe (v_spec_l8Find (x0.1,(lGet x (iNat x0.2) (0,0,0)).1,(lGet x (iNat x0.2) (0,0,0)).2.1,(lGet x (iNat x0.2) (0,0,0)).2.2)) 0)))))=false→(((iEq (lGet x (iNat x0.2) (0,0,0)).1 1)=true→((ok_spec_l8Action ((lGet x (iNat x0.2) (0,0,0)).1,(lGet x (iNat x0.2) (0,0,0)).2.1,(lGet x (iNat x0.2) (0,0,0)).2.2))∧(roomy (((List.length x0.1)+(List.length [(0,(v_spec_l8Action ((lGet x (iNat x0.2) (0,0,0)).1,(lGet x (iNat x0.2) (0,0,0)).2.1,(lGet x (iNat x0.2) (0,0,0)).2.2)).1,(v_spec_l8Action ((lGet x (iNat x0.2) (0,0,0)).1,(lGet x (iNat x0.2) (0,0,0)).2.1,(lGet x (iNat x0.2) (0,0,0)).2.2)).2.1,(v_spec_l8Action ((lGet x (iNat x0.2) (0,0,0)).1,(lGet x (iNat x0.2) (0,0,0)).2.1,(lGet x (iNat x0.2) (0,0,0)).2.2)).2.2.1,(v_spec_l8Action ((lGet x (iNat x0.2) (0,0,0)).1,(lGet x (iNat x0.2) (0,0,0)).2.1,(lGet x (iNat x0.2) (0,0,0)).2.2)).2.2.2)]))*5))))∧((iEq (lGet x (iNat x0.2) (0,0,0)).1 1)=false→(((iEq (lGet x (iNat x0.2) (0,0,0)).1 2)=true→(ok_spec_l8Without (x0.1,(v_spec_l8Find (x0.1,(lGet x (iNat x0.2) (0,0,0)).1,(lGet x (iNat x0.2) (0,0,0)).2.1,(lGet x (iNat x0.2) (0,0,0)).2.2)))))∧((iEq (lGet x (iNat x0.2) (0,0,0)).1 2)=false→True)))))))))))∧((iLt x0.2 (lLen x))=false→True))) ([],0)):=(ou_spec_IsMacro x).trans (by kernel_rfl)
theorem ve_impl_pairAt (x):v_impl_pairAt x=(bSel (iLt (loopV (fun(x0:Int)=>(bAnd (iLt x0 (lLen x.1)) (bNot (bAnd (iEq (lGet x.1 (iNat x0) (0,0)).1 x.2.1) (iEq (lGet x.1 (iNat x0) (0,0)).2 x.2.2))))) (fun(x0:Int)=>(iAdd .i64 x0 1)) 0) (lLen x.1)) (loopV (fun(x0:Int)=>(bAnd (iLt x0 (lLen x.1)) (bNot (bAnd (iEq (lGet x.1 (iNat x0) (0,0)).1 x.2.1) (iEq (lGet x.1 (iNat x0) (0,0)).2 x.2.2))))) (fun(x0:Int)=>(iAdd .i64 x0 1)) 0) (-1)):=(vu_impl_pairAt x).trans (by kernel_rfl)
theorem oe_impl_pairAt (x):ok_impl_pairAt x=(LoopOk (fun(x0:Int)=>(bAnd (iLt x0 (lLen x.1)) (bNot (bAnd (iEq (lGet x.1 (iNat x0) (0,0)).1 x.2.1) (iEq (lGet x.1 (iNat x0) (0,0)).2 x.2.2))))) (fun(x0:Int)=>(iAdd .i64 x0 1)) (fun(x0:Int)=>(((iLt x0 (lLen x.1))=true→((((0:Int)≤x0)∧(x0<(((List.length x.1):Int))))∧((iNat x0)<(List.length x.1))))∧((iLt x0 (lLen x.1))=false→True))) 0):=(ou_impl_pairAt x).trans (by kernel_rfl)
theorem ve_impl_IsMacro (x):v_impl_IsMacro x=(bAnd (bNot (iGt (lLen x) 8)) (bAnd (bNot (iLt (loopV (fun(x0:((List (Int×Int))×Int))=>(bAnd (iLt x0.2 (lLen x)) (bAnd (bNot (bNot (v_impl_IsAction (2,(lGet x (iNat x0.2) (0,0,0)).2.1,(lGet x (iNat x0.2) (0,0,0)).2.2,0)))) (bSel (bOr (iEq (lGet x (iNat x0.2) (0,0,0)).1 0) (iEq (lGet x (iNat x0.2) (0,0,0)).1 1)) (bNot (iGe (v_impl_pairAt (x0.1,(lGet x (iNat x0.2) (0,0,0)).2.1,(lGet x (iNat x0.2) (0,0,0)).2.2)) 0)) (bAnd (iEq (lGet x (iNat x0.2) (0,0,0)).1 2) (bNot (iLt (v_impl_pairAt (x0.1,(lGet x (iNat x0.2) (0,0,0)).2.1,(lGet x (iNat x0.2) (0,0,0)).2.2)) 0))))))) (fun(x0:((List (Int×Int))×Int))=>((bSel (bOr (iEq (lGet x (iNat x0.2) (0,0,0)).1 0) (iEq (lGet x (iNat x0.2) (0,0,0)).1 1)) (bSel (iEq (lGet x (iNat x0.2) (0,0,0)).1 1) (lApp x0.1 [((lGet x (iNat x0.2) (0,0,0)).2.1,(lGet x (iNat x0.2) (0,0,0)).2.2)]) x0.1) (lApp (lTake x0.1 (lN (lSub x0.1 0 (iNat (v_impl_pairAt (x0.1,(lGet x (iNat x0.2) (0,0,0)).2.1,(lGet x (iNat x0.2) (0,0,0)).2.2)))))) (lSub x0.1 (iNat (iAdd .i64 (v_impl_pairAt (x0.1,(lGet x (iNat x0.2) (0,0,0)).2.1,(lGet x (iNat x0.2) (0,0,0)).2.2)) 1)) (lN x0.1)))),(iAdd .i64 x0.2 1))) ([],0)).2 (lLen x))) (iEq (lLen (loopV (fun(x0:((List (Int×Int))×Int))=>(bAnd (iLt x0.2 (lLen x)) (bAnd (bNot (bNot (v_impl_IsAction (2,(lGet x (iNat x0.2) (0,0,0)).2.1,(lGet x (iNat x0.2) (0,0,0)).2.2,0)))) (bSel (bOr (iEq (lGet x (iNat x0.2) (0,0,0)).1 0) (iEq (lGet x (iNat x0.2) (0,0,0)).1 1)) (bNot (iGe (v_impl_pairAt (x0.1,(lGet x (iNat x0.2) (0,0,0)).2.1,(lGet x (iNat x0.2) (0,0,0)).2.2)) 0)) (bAnd (iEq (lGet x (iNat x0.2) (0,0,0)).1 2) (bNot (iLt (v_impl_pairAt (x0.1,(lGet x (iNat x0.2) (0,0,0)).2.1,(lGet x (iNat x0.2) (0,0,0)).2.2)) 0))))))) (fun(x0:((List (Int×Int))×Int))=>((bSel (bOr (iEq (lGet x (iNat x0.2) (0,0,0)).1 0) (iEq (lGet x (iNat x0.2) (0,0,0)).1 1)) (bSel (iEq (lGet x (iNat x0.2) (0,0,0)).1 1) (lApp x0.1 [((lGet x (iNat x0.2) (0,0,0)).2.1,(lGet x (iNat x0.2) (0,0,0)).2.2)]) x0.1) (lApp (lTake x0.1 (lN (lSub x0.1 0 (iNat (v_impl_pairAt (x0.1,(lGet x (iNat x0.2) (0,0,0)).2.1,(lGet x (iNat x0.2) (0,0,0)).2.2)))))) (lSub x0.1 (iNat (iAdd .i64 (v_impl_pairAt (x0.1,(lGet x (iNat x0.2) (0,0,0)).2.1,(lGet x (iNat x0.2) (0,0,0)).2.2)) 1)) (lN x0.1)))),(iAdd .i64 x0.2 1))) ([],0)).1) 0))):=(vu_impl_IsMacro x).trans (by kernel_rfl)
theorem oe_impl_IsMacro (x):ok_impl_IsMacro x=(((iGt (lLen x) 8)=true→True)∧((iGt (lLen x) 8)=false→(LoopOk (fun(x0:((List (Int×Int))×Int))=>(bAnd (iLt x0.2 (lLen x)) (bAnd (bNot (bNot (v_impl_IsAction (2,(lGet x (iNat x0.2) (0,0,0)).2.1,(lGet x (iNat x0.2) (0,0,0)).2.2,0)))) (bSel (bOr (iEq (lGet x (iNat x0.2) (0,0,0)).1 0) (iEq (lGet x (iNat x0.2) (0,0,0)).1 1)) (bNot (iGe (v_impl_pairAt (x0.1,(lGet x (iNat x0.2) (0,0,0)).2.1,(lGet x (iNat x0.2) (0,0,0)).2.2)) 0)) (bAnd (iEq (lGet x (iNat x0.2) (0,0,0)).1 2) (bNot (iLt (v_impl_pairAt (x0.1,(lGet x (iNat x0.2) (0,0,0)).2.1,(lGet x (iNat x0.2) (0,0,0)).2.2)) 0))))))) (fun(x0:((List (Int×Int))×Int))=>((bSel (bOr (iEq (lGet x (iNat x0.2) (0,0,0)).1 0) (iEq (lGet x (iNat x0.2) (0,0,0)).1 1)) (bSel (iEq (lGet x (iNat x0.2) (0,0,0)).1 1) (lApp x0.1 [((lGet x (iNat x0.2) (0,0,0)).2.1,(lGet x (iNat x0.2) (0,0,0)).2.2)]) x0.1) (lApp (lTake x0.1 (lN (lSub x0.1 0 (iNat (v_impl_pairAt (x0.1,(lGet x (iNat x0.2) (0,0,0)).2.1,(lGet x (iNat x0.2) (0,0,0)).2.2)))))) (lSub x0.1 (iNat (iAdd .i64 (v_impl_pairAt (x0.1,(lGet x (iNat x0.2) (0,0,0)).2.1,(lGet x (iNat x0.2) (0,0,0)).2.2)) 1)) (lN x0.1)))),(iAdd .i64 x0.2 1))) (fun(x0:((List (Int×Int))×Int))=>(((iLt x0.2 (lLen x))=true→((((0:Int)≤x0.2)∧(x0.2<(((List.length x):Int))))∧(((iNat x0.2)<(List.length x))∧((ok_impl_pairAt (x0.1,(lGet x (iNat x0.2) (0,0,0)).2.1,(lGet x (iNat x0.2) (0,0,0)).2.2))∧((ok_impl_IsAction (2,(lGet x (iNat x0.2) (0,0,0)).2.1,(lGet x (iNat x0.2) (0,0,0)).2.2,0))∧(((bNot (v_impl_IsAction (2,(lGet x (iNat x0.2) (0,0,0)).2.1,(lGet x (iNat x0.2) (0,0,0)).2.2,0)))=true→True)∧((bNot (v_impl_IsAction (2,(lGet x (iNat x0.2) (0,0,0)).2.1,(lGet x (iNat x0.2) (0,0,0)).2.2,0)))=false→(((bOr (iEq (lGet x (iNat x0.2) (0,0,0)).1 0) (iEq (lGet x (iNat x0.2) (0,0,0)).1 1))=true→(((iGe (v_impl_pairAt (x0.1,(lGet x (iNat x0.2) (0,0,0)).2.1,(lGet x (iNat x0.2) (0,0,0)).2.2)) 0)=true→True)∧((iGe (v_impl_pairAt (x0.1,(lGet x (iNat x0.2) (0,0,0)).2.1,(lGet x (iNat x0.2) (0,0,0)).2.2)) 0)=false→(((iEq (lGet x (iNat x0.2) (0,0,0)).1 1)=true→(roomy (((List.length x0.1)+(List.length [((lGet x (iNat x0.2) (0,0,0)).2.1,(lGet x (iNat x0.2) (0,0,0)).2.2)]))*2)))∧((iEq (lGet x (iNat x0.2) (0,0,0)).1 1)=false→True)))))∧((bOr (iEq (lGet x (iNat x0.2) (0,0,0)).1 0) (iEq (lGet x (iNat x0.2) (0,0,0)).1 1))=false→(((iEq (lGet x (iNat x0.2) (0,0,0)).1 2)=true→(((iLt (v_impl_pairAt (x0.1,(lGet x (iNat x0.2) (0,0,0)).2.1,(lGet x (iNat x0.2) (0,0,0)).2.2)) 0)=true→True)∧((iLt (v_impl_pairAt (x0.1,(lGet x (iNat x0.2) (0,0,0)).2.1,(lGet x (iNat x0.2) (0,0,0)).2.2)) 0)=false→((((0:Int)≤(v_impl_pairAt (x0.1,(lGet x (iNat x0.2) (0,0,0)).2.1,(lGet x (iNat x0.2) (0,0,0)).2.2)))∧((0≤(iNat (v_impl_pairAt (x0.1,(lGet x (iNat x0.2) (0,0,0)).2.1,(lGet x (iNat x0.2) (0,0,0)).2.2))))∧(((iNat (v_impl_pairAt (x0.1,(lGet x (iNat x0.2) (0,0,0)).2.1,(lGet x (iNat x0.2) (0,0,0)).2.2)))≤(List.length x0.1))∧(0<(List.length x0.1)))))∧((((0:Int)≤(iAdd .i64 (v_impl_pairAt (x0.1,(lGet x (iNat x0.2) (0,0,0)).2.1,(lGet x (iNat x0.2) (0,0,0)).2.2)) 1))∧(((iNat (iAdd .i64 (v_impl_pairAt (x0.1,(lGet x (iNat x0.2) (0,0,0)).2.1,(lGet x (iNat x0.2) (0,0,0)).2.2)) 1))≤(lN x0.1))∧(((lN x0.1)≤(List.length x0.1))∧(0<(List.length x0.1)))))∧((0<(List.length x0.1))∧(((List.length (lSub x0.1 0 (iNat (v_impl_pairAt (x0.1,(lGet x (iNat x0.2) (0,0,0)).2.1,(lGet x (iNat x0.2) (0,0,0)).2.2)))))≤(List.length x0.1))∧(roomy (((List.length (lSub x0.1 0 (iNat (v_impl_pairAt (x0.1,(lGet x (iNat x0.2) (0,0,0)).2.1,(lGet x (iNat x0.2) (0,0,0)).2.2)))))+(List.length (lSub x0.1 (iNat (iAdd .i64 (v_impl_pairAt (x0.1,(lGet x (iNat x0.2) (0,0,0)).2.1,(lGet x (iNat x0.2) (0,0,0)).2.2)) 1)) (lN x0.1))))*2)))))))))∧((iEq (lGet x (iNat x0.2) (0,0,0)).1 2)=false→True)))))))))))∧((iLt x0.2 (lLen x))=false→True))) ([],0)))):=(ou_impl_IsMacro x).trans (by kernel_rfl)
end
def pi5(h:Int×Int×Int×Int×Int):Int×Int:=(h.2.2.1,h.2.2.2.1)
theorem getD_map5(dn:List (Int×Int×Int×Int×Int))(i:Nat):(dn.map pi5).getD i (0,0)=pi5 (dn.getD i (0,0,0,0,0)):=by
 rw[List.getD_eq_getElem?_getD,List.getD_eq_getElem?_getD,List.getElem?_map];cases dn[i]?<;>rfl
theorem cnt_nn{c:Int→Bool}{f:Int→Int}(n:Int)(h0:0≤n)(hn:n≤9223372036854775806)(hc:∀ st:Int,c st=true→st<n)(hf:∀ st,f st=iAdd .i64 st 1):0≤loopV c f 0:=
 (loop_inv_v (fun st=>0≤st∧st≤n) (fun st=>(n-st).toNat) (fun st hI h=>by
  have:=hc st h
  rw[hf,iAdd_i64 (by constructor<;>omega)]
  exact⟨by omega,by omega⟩) ⟨by omega,h0⟩).1.1
theorem find_eq(dn:List (Int×Int×Int×Int×Int))(k c m:Int):v_spec_l8Find (dn,k,c,m)=v_impl_pairAt (dn.map pi5,c,m):=by
 rw[ve_spec_l8Find,ve_impl_pairAt]
 simp only[lGet_eq,getD_map5,lLen_eq,List.length_map,pi5]
theorem pair_rng(dm:List (Int×Int))(q:Int×Int)(h:dm.length≤1048576):v_impl_pairAt (dm,q)=-1∨(0≤v_impl_pairAt (dm,q)∧v_impl_pairAt (dm,q)<dm.length):=by
 rw[ve_impl_pairAt,bSel_eq,iLt_eq,lLen_eq]
 split
 · rename_i hlt
   rw[decide_eq_true_eq] at hlt
   refine .inr ⟨cnt_nn dm.length (by omega) (by omega) (fun st hc=>?_) (fun _=>rfl),hlt⟩
   rw[bAnd_eq,iLt_eq,Bool.and_eq_true,decide_eq_true_eq] at hc
   exact hc.1
 · exact .inl rfl
theorem ok_find(dn:List (Int×Int×Int×Int×Int))(q:Int×Int×Int)(h:dn.length≤1048576):ok_spec_l8Find (dn,q):=by
 rw[oe_spec_l8Find]
 refine cnt_ok (fun st=>st) dn.length (by omega) (fun st _ _ h=>?_) (fun _=>rfl) (fun st h0 h1=>⟨fun hlt=>?_,fun _=>trivial⟩) (by simp) (by simp)
 · rw[bAnd_eq,iLt_eq,lLen_eq,Bool.and_eq_true,decide_eq_true_eq] at h;exact h.1
 · rw[iLt_eq,lLen_eq,decide_eq_true_eq] at hlt
   have a:(0:Int)≤st∧st<(dn.length:Int):=⟨h0,hlt⟩
   have b:iNat st<dn.length:=by rw[iNat_eq];omega
   exact⟨a,b,fun _=>⟨a,b⟩,fun _=>trivial⟩
theorem ok_pair(dm:List (Int×Int))(q:Int×Int)(h:dm.length≤1048576):ok_impl_pairAt (dm,q):=by
 rw[oe_impl_pairAt]
 refine cnt_ok (fun st=>st) dm.length (by omega) (fun st _ _ h=>?_) (fun _=>rfl) (fun st h0 h1=>⟨fun hlt=>?_,fun _=>trivial⟩) (by simp) (by simp)
 · rw[bAnd_eq,iLt_eq,lLen_eq,Bool.and_eq_true,decide_eq_true_eq] at h;exact h.1
 · rw[iLt_eq,lLen_eq,decide_eq_true_eq] at hlt
   exact⟨⟨h0,hlt⟩,by rw[iNat_eq];omega⟩
theorem without_map(dn:List (Int×Int×Int×Int×Int))(p:Int)(h0:0≤p)(h1:p<dn.length) :
 (v_spec_l8Without (dn,p)).map pi5=lApp (lTake (dn.map pi5) (lN (lSub (dn.map pi5) 0 (iNat p)))) (lSub (dn.map pi5) (iNat (iAdd .i64 p 1)) (lN (dn.map pi5))):=by
 have hm:min p.toNat dn.length=p.toNat:=by omega
 rw[ve_spec_l8Without]
 simp only[lApp_eq,lTake_eq,lN_eq,lSub_eq,iNat_eq,List.drop_zero,Nat.sub_zero,List.length_take,List.map_append,List.map_take,List.map_drop,List.length_map,List.nil_append,hm]
theorem without_len(dn:List (Int×Int×Int×Int×Int))(p:Int)(h0:0≤p)(h1:p<dn.length)(h:dn.length≤1048576):(v_spec_l8Without (dn,p)).length≤dn.length:=by
 rw[ve_spec_l8Without]
 simp only[lApp_eq,lN_eq,lSub_eq,iNat_eq,List.drop_zero,Nat.sub_zero,List.length_take,List.length_drop,List.length_append,List.nil_append]
 rw[iAdd_i64 (by constructor<;>omega)]
 omega
theorem mac_cond(K p:Int)(A:Bool):bNot (bOr (bNot (v_spec_l1In (K,0,2))) (bOr (bNot A) (bNot (bIff (iEq K 2) (iGe p 0)))))=
 bAnd (bNot (bNot A)) (bSel (bOr (iEq K 0) (iEq K 1)) (bNot (iGe p 0)) (bAnd (iEq K 2) (bNot (iLt p 0)))):=by
 have hp:decide (p<0)=!decide (0≤p):=by simp only[← decide_not,Int.not_le]
 rw[ve_spec_l1In]
 simp only[bAnd_eq,bNot_eq,bOr_eq,bIff_eq,bSel_eq,iEq_eq,iGe_eq,iLe_eq,iLt_eq,hp]
 generalize decide (0≤p)=P
 have h:K=0∨K=1∨K=2∨(¬ (0≤K∧K≤2)):=by omega
 rcases h with h|h|h|h
 · subst h;cases A<;>cases P<;>decide
 · subst h;cases A<;>cases P<;>decide
 · subst h;cases A<;>cases P<;>decide
 · have e0:K≠0:=by omega
   have e1:K≠1:=by omega
   have e2:K≠2:=by omega
   have e3:(decide (0≤K)&&decide (K≤2))=false:=by rw[← Bool.decide_and];exact decide_eq_false h
   simp only[e3,e0,e1,e2,decide_false]
   cases A<;>rfl
theorem mac_join {l:List (Int×Int×Int)} {cs:List (Int×Int×Int×Int×Int)×Int→Bool} {fs} {ci:List (Int×Int)×Int→Bool} {fi}
 (h:∀ (dn:List (Int×Int×Int×Int×Int)) (i:Int),0≤i→i≤l.length→dn.length≤i→cs (dn,i)=ci (dn.map pi5,i)∧(cs (dn,i)=true→i<l.length∧∃ dn':List (Int×Int×Int×Int×Int),fs (dn,i)=(dn',i+1)∧fi (dn.map pi5,i)=(dn'.map pi5,i+1)∧dn'.length≤i+1)) :
 bAnd (bNot (iLt (loopV cs fs ([],0)).2 (lLen l))) (bAnd (iLe (lLen l) 8) (iEq (lLen (loopV cs fs ([],0)).1) 0))=
 bAnd (bNot (iGt (lLen l) 8)) (bAnd (bNot (iLt (loopV ci fi ([],0)).2 (lLen l))) (iEq (lLen (loopV ci fi ([],0)).1) 0)):=by
 have go:∀ (n:Nat) (dn:List (Int×Int×Int×Int×Int)) (i:Int),0≤i→i≤l.length→dn.length≤i→(l.length-i).toNat<n →
  ∃ (en:List (Int×Int×Int×Int×Int)) (j:Int),LoopTo cs fs (fun _=>True) (dn,i) (en,j)∧LoopTo ci fi (fun _=>True) (dn.map pi5,i) (en.map pi5,j):=by
  intro n
  induction n with
  |zero=>intro _ _ _ _ _ hm;exact absurd hm (Nat.not_lt_zero _)
  | succ n ih=>
    intro dn i h0 h1 h2 hm
    obtain⟨a,b⟩:=h dn i h0 h1 h2
    cases hc:cs (dn,i) with
    |false=>exact⟨dn,i,.stop trivial hc,.stop trivial (by rw[← a,hc])⟩
    | true=>
      obtain⟨c1,dn',c2,c3,c4⟩:=b hc
      obtain⟨en,j,d1,d2⟩:=ih dn' (i+1) (by omega) (by omega) c4 (by omega)
      exact⟨en,j,.go trivial hc (by rw[c2];exact d1),.go trivial (by rw[← a,hc]) (by rw[c3];exact d2)⟩
 obtain⟨en,j,d1,d2⟩:=go _ [] 0 (by omega) (by omega) (by simp) (Nat.lt_succ_self _)
 have d2:LoopTo ci fi (fun _=>True) ([],0) (en.map pi5,j):=d2
 rw[d1.val,d2.val]
 simp only[bAnd_eq,bNot_eq,iLe_eq,iGt_eq,lLen_eq,List.length_map,← decide_not,Int.not_lt]
 exact Bool.and_left_comm ..
theorem macroStep (dn:List (Int×Int×Int×Int×Int)) (K c m p i:Int) (t:Bool) (n:Int) (hp:p=-1∨(0≤p∧p<dn.length)) (hd:dn.length≤i) (hi:i<n) (hn:n≤1048576)
 (hc:bSel (bOr (iEq K 0) (iEq K 1)) (bNot (iGe p 0)) (bAnd (iEq K 2) (bNot (iLt p 0)))=true) :
 bSel (bOr (iEq K 0) (iEq K 1)) (bSel (iEq K 1) (lApp (dn.map pi5) [(c,m)]) (dn.map pi5)) (lApp (lTake (dn.map pi5) (lN (lSub (dn.map pi5) 0 (iNat p)))) (lSub (dn.map pi5) (iNat (iAdd .i64 p 1)) (lN (dn.map pi5))))=
  (bSel (iEq K 1) (lApp dn [(0,2,c,m,0)]) (bSel (iEq K 2) (v_spec_l8Without (dn,p)) dn)).map pi5 ∧
 ((bSel (iEq K 1) (lApp dn [(0,2,c,m,0)]) (bSel (iEq K 2) (v_spec_l8Without (dn,p)) dn)).length:Int)≤i+1:=by
 simp only[bSel_eq,bOr_eq,bAnd_eq,bNot_eq,iEq_eq,iGe_eq,iLt_eq,Bool.or_eq_true,decide_eq_true_eq] at hc ⊢
 by_cases k1:K=1
 · subst k1
   simp[lApp_eq,pi5];omega
 · by_cases k0:K=0
   · subst k0
     simp;omega
   · simp only[k0,k1,or_self,if_false,Bool.and_eq_true,decide_eq_true_eq,Bool.not_eq_true',decide_eq_false_iff_not] at hc ⊢
     have h0:0≤p:=by omega
     have h1:p<dn.length:=by omega
     rw[if_pos hc.1]
     refine⟨(without_map dn p h0 h1).symm,?_⟩
     have:=without_len dn p h0 h1 (by omega)
     omega
theorem isMacro_eq(x:List (Int×Int×Int))(h:x.length≤1048576):v_spec_IsMacro x=v_impl_IsMacro x:=by
 rw[ve_spec_IsMacro,ve_impl_IsMacro]
 refine mac_join (fun dn i h0 h1 h2=>?_)
 have hr:=pair_rng (dn.map pi5) ((lGet x (iNat i) (0,0,0)).2.1,(lGet x (iNat i) (0,0,0)).2.2) (by rw[List.length_map];omega)
 rw[List.length_map] at hr
 simp only[find_eq,isAction_eq,ve_spec_l8Action,mac_cond]
 generalize v_impl_pairAt (dn.map pi5,(lGet x (iNat i) (0,0,0)).2.1,(lGet x (iNat i) (0,0,0)).2.2)=p at hr ⊢
 refine⟨trivial,fun hc=>?_⟩
 rw[bAnd_eq,bAnd_eq,iLt_eq,lLen_eq,Bool.and_eq_true,Bool.and_eq_true,decide_eq_true_eq] at hc
 obtain⟨hc1,hc2,hc3⟩:=hc
 obtain⟨s1,s2⟩:=macroStep dn (lGet x (iNat i) (0,0,0)).1 (lGet x (iNat i) (0,0,0)).2.1 (lGet x (iNat i) (0,0,0)).2.2 p i true x.length hr h2 hc1 (by omega) hc3
 rw[iAdd_i64 (a:=i) (b:=1) (by constructor<;>omega)]
 exact⟨hc1,_,rfl,by rw[s1],s2⟩
theorem roomy_nat{k w:Nat}(h:k≤1048577)(hw:w≤1000):roomy (k*w):=by
 unfold roomy;exact Nat.le_trans (Nat.mul_le_mul h hw) (by decide)
theorem ok_without(dn:List (Int×Int×Int×Int×Int))(p:Int)(h0:0≤p)(h1:p<dn.length)(h:dn.length≤1048576):ok_spec_l8Without (dn,p):=by
 rw[oe_spec_l8Without,iAdd_i64 (a:=p) (b:=1) (by constructor<;>omega)]
 simp only[iNat_eq,lN_eq,lApp_eq,lSub_eq,List.drop_zero,Nat.sub_zero,List.length_take,List.length_drop,List.length_append,List.length_nil,List.nil_append]
 refine⟨⟨h0,by omega,by omega,by omega⟩,⟨by omega,by omega,by omega,by omega⟩,roomy_nat (by omega) (by omega),roomy_nat (by omega) (by omega)⟩
theorem ok_specIsMacro(x:List (Int×Int×Int))(h:x.length≤1048576):ok_spec_IsMacro x:=by
 rw[oe_spec_IsMacro]
 refine(loop_inv (fun st:List (Int×Int×Int×Int×Int)×Int=>0≤st.2∧st.2≤(x.length:Int)∧(st.1.length:Int)≤st.2) (fun st=>((x.length:Int)-st.2).toNat) (fun st hI=>?_) ⟨by simp,by simp,by simp⟩).1
 obtain⟨dn,i⟩:=st
 obtain⟨i0,i1,i2⟩:=hI
 simp only at i0 i1 i2
 have hr:=pair_rng (dn.map pi5) ((lGet x (iNat i) (0,0,0)).2.1,(lGet x (iNat i) (0,0,0)).2.2) (by rw[List.length_map];omega)
 rw[List.length_map] at hr
 have hf:=ok_find dn ((lGet x (iNat i) (0,0,0)).1,(lGet x (iNat i) (0,0,0)).2.1,(lGet x (iNat i) (0,0,0)).2.2) (by omega)
 simp only[find_eq,isAction_eq,ve_spec_l8Action,mac_cond,ok_spec_IsAction_t,oe_spec_l8Action,oe_spec_l1In]
 generalize v_impl_pairAt (dn.map pi5,(lGet x (iNat i) (0,0,0)).2.1,(lGet x (iNat i) (0,0,0)).2.2)=p at hr ⊢
 refine⟨⟨fun hlt=>?_,fun _=>trivial⟩,fun hc=>?_⟩
 · rw[iLt_eq,lLen_eq,decide_eq_true_eq] at hlt
   refine⟨⟨i0,hlt⟩,by rw[iNat_eq];omega,hf,⟨trivial,fun _=>trivial,fun _=>⟨trivial,trivial⟩⟩,fun _=>trivial,fun hc=>⟨fun _=>⟨trivial,roomy_nat (by simp only[List.length_cons,List.length_nil];omega) (by omega)⟩,fun k1=>⟨fun k2=>?_,fun _=>trivial⟩⟩⟩
   have hc:=congrArg bNot hc
   rw[mac_cond] at hc
   simp only[bSel_eq,bOr_eq,bAnd_eq,bNot_eq,iEq_eq,iGe_eq,iLt_eq,decide_eq_true_eq] at hc k1 k2
   simp[k2] at hc
   exact ok_without dn p (by omega) (by omega) (by omega)
 · rw[bAnd_eq,bAnd_eq,iLt_eq,lLen_eq,Bool.and_eq_true,Bool.and_eq_true,decide_eq_true_eq] at hc
   obtain⟨hc1,hc2,hc3⟩:=hc
   obtain⟨s1,s2⟩:=macroStep dn (lGet x (iNat i) (0,0,0)).1 (lGet x (iNat i) (0,0,0)).2.1 (lGet x (iNat i) (0,0,0)).2.2 p i true x.length hr i2 hc1 (by omega) hc3
   rw[iAdd_i64 (a:=i) (b:=1) (by constructor<;>omega)]
   exact⟨⟨by show 0≤i+1;omega,by show i+1≤_;omega,s2⟩,by show (_-(i+1)).toNat<_;omega⟩
theorem ok_implIsMacro(x:List (Int×Int×Int))(h:x.length≤1048576):ok_impl_IsMacro x:=by
 rw[oe_impl_IsMacro]
 refine⟨fun _=>trivial,fun _=>?_⟩
 refine(loop_inv (fun st:List (Int×Int)×Int=>0≤st.2∧st.2≤(x.length:Int)∧∃ dn:List (Int×Int×Int×Int×Int),st.1=dn.map pi5∧(dn.length:Int)≤st.2) (fun st=>((x.length:Int)-st.2).toNat) (fun st hI=>?_) ⟨by simp,by simp,[],rfl,by simp⟩).1
 obtain⟨dm,i⟩:=st
 obtain⟨i0,i1,dn,rfl,i2⟩:=hI
 simp only at i0 i1 i2
 have hr:=pair_rng (dn.map pi5) ((lGet x (iNat i) (0,0,0)).2.1,(lGet x (iNat i) (0,0,0)).2.2) (by rw[List.length_map];omega)
 have hf:=ok_pair (dn.map pi5) ((lGet x (iNat i) (0,0,0)).2.1,(lGet x (iNat i) (0,0,0)).2.2) (by rw[List.length_map];omega)
 rw[List.length_map] at hr
 simp only[ok_impl_IsAction_t]
 generalize v_impl_pairAt (dn.map pi5,(lGet x (iNat i) (0,0,0)).2.1,(lGet x (iNat i) (0,0,0)).2.2)=p at hr ⊢
 refine⟨⟨fun hlt=>?_,fun _=>trivial⟩,fun hc=>?_⟩
 · rw[iLt_eq,lLen_eq,decide_eq_true_eq] at hlt
   refine⟨⟨i0,hlt⟩,by rw[iNat_eq];omega,hf,trivial,fun _=>trivial,fun _=>⟨fun _=>⟨fun _=>trivial,fun _=>⟨fun _=>roomy_nat (by simp only[List.length_map,List.length_cons,List.length_nil];omega) (by omega),fun _=>trivial⟩⟩,fun _=>⟨fun _=>⟨fun _=>trivial,fun hp=>?_⟩,fun _=>trivial⟩⟩⟩
   rw[iLt_eq,decide_eq_false_iff_not] at hp
   have h0:0≤p:=by omega
   have h1:p<dn.length:=by omega
   rw[iAdd_i64 (a:=p) (b:=1) (by constructor<;>omega)]
   simp only[iNat_eq,lN_eq,lSub_eq,List.drop_zero,Nat.sub_zero,List.length_take,List.length_drop,List.length_map]
   exact⟨⟨h0,by omega,by omega,by omega⟩,⟨by omega,by omega,by omega,by omega⟩,by omega,by omega,roomy_nat (by omega) (by omega)⟩
 · rw[bAnd_eq,bAnd_eq,iLt_eq,lLen_eq,Bool.and_eq_true,Bool.and_eq_true,decide_eq_true_eq] at hc
   obtain⟨hc1,hc2,hc3⟩:=hc
   obtain⟨s1,s2⟩:=macroStep dn (lGet x (iNat i) (0,0,0)).1 (lGet x (iNat i) (0,0,0)).2.1 (lGet x (iNat i) (0,0,0)).2.2 p i true x.length hr i2 hc1 (by omega) hc3
   rw[iAdd_i64 (a:=i) (b:=1) (by constructor<;>omega)]
   exact⟨⟨by show 0≤i+1;omega,by show i+1≤_;omega,_,s1,s2⟩,by show (_-(i+1)).toNat<_;omega⟩
theorem iAdd_def(a:Int):iAdd .i64 a 1=IntKind.i64.wrap (a+1):=by simp only[iAdd_u]
theorem iConv_def(k:IntKind)(a:Int):iConv k a=k.wrap a:=by simp only[iConv_u]
theorem iRem_def(a b:Int):iRem a b=a.tmod b:=by simp only[iRem_u]
section
variable {α:Type} {f:α→Int→α×Int} {l:List α} {c:Nat} {m:Int}
def UpF(f:α→Int→α×Int)(l:List α)(c:Nat):Prop:=∀ a∈l,∀ m:Int,0≤m→m+c≤2305843009213693952→m≤(f a m).2∧(f a m).2≤m+c
theorem mkPre_up(hf:UpF f l c)(h0:0≤m)(h1:m+(l.length*c:Nat)≤2305843009213693952)(d:α):∀ i,i≤l.length→m≤(mkPre f l m i).2∧(mkPre f l m i).2≤m+(i*c:Nat):=by
 intro i
 induction i with
 |zero=>intro _;rw[mkPre_zero];simp
 | succ i ih=>
   intro hi
   obtain⟨h2,h3⟩:=ih (by omega)
   rw[mkPre_succ f l m (by omega) d]
   have hm:l.getD i d∈l:=getD_mem l i d (by omega)
   have hmul:(i+1)*c≤l.length*c:=Nat.mul_le_mul_right _ (by omega)
   rw[Nat.add_mul,Nat.one_mul] at hmul ⊢
   obtain⟨h4,h5⟩:=hf _ hm (mkPre f l m i).2 (by omega) (by omega)
   exact⟨by omega,by simp only;omega⟩
theorem mkL_up(hf:UpF f l c)(h0:0≤m)(h1:m+(l.length*c:Nat)≤2305843009213693952):m≤(mkL f l m).2∧(mkL f l m).2≤m+(l.length*c:Nat):=by
 cases l with
 |nil=>simp[mkL]
 | cons a r=>
   have:=mkPre_up hf h0 h1 a (a::r).length (Nat.le_refl _)
   rw[mkPre_all] at this
   exact this
theorem mkL_getD(f:α→Int→α×Int)(l:List α)(m:Int){i:Nat}(hi:i<l.length)(d:α):(mkL f l m).1.getD i d=(f (l.getD i d) (mkPre f l m i).2).1:=by
 have h1:=mkPre_succ f l m hi d
 have h2:(mkPre f l m (i+1)).1.getD i d=(f (l.getD i d) (mkPre f l m i).2).1:=by
  rw[h1]
  simp only
  rw[List.getD_eq_getElem?_getD,List.getElem?_set_self (by rw[mkPre_len];exact hi)];rfl
 rw[← h2,← mkPre_all f l m]
 have:∀ k,i<k→k≤l.length→(mkPre f l m k).1.getD i d=(mkPre f l m (i+1)).1.getD i d:=by
  intro k
  induction k with
  |zero=>intro h;omega
  | succ k ih=>
    intro h h'
    by_cases hk:k=i
    · rw[hk]
    · rw[← ih (by omega) (by omega),mkPre_succ f l m (by omega) d]
      simp only[List.getD_eq_getElem?_getD]
      rw[List.getElem?_set_ne hk]
 exact this _ hi (Nat.le_refl _)
theorem held_loop {C:Int×Int→Bool} {F:Int×Int→Int×Int} {p:Int×Int→Prop} (hl:l.length≤1048576) (d:α)
 (hs:∀ i,i<l.length→p ((mkPre f l m i).2,(i:Int))∧C ((mkPre f l m i).2,(i:Int))=true∧F ((mkPre f l m i).2,(i:Int))=((f (l.getD i d) (mkPre f l m i).2).2,iAdd .i64 (i:Int) 1))
 (he:p ((mkL f l m).2,(l.length:Int))∧C ((mkL f l m).2,(l.length:Int))=false):LoopOk C F p (m,0)∧loopV C F (m,0)=((mkL f l m).2,(l.length:Int)):=by
 have:=loop_for (p:=p) (c:=C) (f:=F) l.length (fun i=>((mkPre f l m i).2,(i:Int))) (x0:=(m,0)) rfl (fun k hk=>by
  obtain⟨h1,h2,h3⟩:=hs k hk
  refine⟨h1,h2,?_⟩
  rw[h3,mkPre_succ f l m hk d,iAdd_i64 (by unfold In64;omega)]
  simp) (by rw[mkPre_all];exact he)
 simp only[mkPre_all] at this
 exact this
end
theorem mul_step{i n c:Nat}(h:i<n):i*c+c≤n*c:=by
 have:=Nat.mul_le_mul_right c (show i+1≤n from h)
 rw[Nat.add_mul,Nat.one_mul] at this
 exact this
theorem mul_lim{n m c B:Nat}(h:n≤m)(e:m*c=B):n*c≤B:=e▸Nat.mul_le_mul_right c h
theorem wrapP{m:Int}(h0:0≤m)(h1:m≤2305843009213693960):IntKind.i64.wrap (m+1)=m+1:=wrapI (by omega)
section
set_option maxRecDepth 8000
noncomputable def c_laws_markActionS:ACode:=
 (.seq (.region [⟨0,some 4,.mv (.c (.int .i64 0)),none,[]⟩])
 (.seq (.seq (.region [⟨0,some 5,.mv (.c (.int .i64 0)),none,[]⟩])
 (.block 0 (.loop [0,1,5] (.seq (.seq (.region [⟨0,some 6,.mv (.t 5),none,[]⟩,
 ⟨1,some 7,.mv (.t 0),none,[]⟩,
 ⟨2,some 8,.len (.t 7),none,[]⟩,
 ⟨3,some 9,.bin .lss (.t 6) (.t 8),none,[]⟩])
  (.cond (.t 9) .skip (.exit 0)))
  (.seq (.block 1 (.seq (.region [⟨0,some 12,.mv (.t 0),none,[]⟩,
 ⟨1,some 13,.mv (.t 5),none,[]⟩,
 ⟨2,some 14,.mv (.t 1),none,[]⟩,
 ⟨3,some 15,.indexA 4 (.t 12) (.t 13),none,[]⟩,
 ⟨4,some 16,.fieldA 0 (.t 15),none,[]⟩,
 ⟨5,none,.storeH 1 (.t 16) (.t 14),none,[]⟩])
  (.seq (.region [⟨0,some 17,.mv (.t 1),none,[]⟩,
 ⟨1,some 18,.bin .add (.t 17) (.c (.int .i64 1)),none,[]⟩,
 ⟨2,some 1,.mv (.t 18),none,[]⟩])
  (.seq (.region [⟨0,some 19,.mv (.t 0),none,[]⟩,
 ⟨1,some 20,.mv (.t 5),none,[]⟩,
 ⟨2,some 21,.mv (.t 1),none,[]⟩,
 ⟨3,some 22,.indexA 4 (.t 19) (.t 20),none,[]⟩,
 ⟨4,some 23,.fieldA 1 (.t 22),none,[]⟩,
 ⟨5,none,.storeH 1 (.t 23) (.t 21),none,[]⟩])
  (.seq (.region [⟨0,some 24,.mv (.t 1),none,[]⟩,
 ⟨1,some 25,.bin .add (.t 24) (.c (.int .i64 1)),none,[]⟩,
 ⟨2,some 1,.mv (.t 25),none,[]⟩])
  (.seq (.region [⟨0,some 26,.mv (.t 0),none,[]⟩,
 ⟨1,some 27,.mv (.t 5),none,[]⟩,
 ⟨2,some 28,.mv (.t 1),none,[]⟩,
 ⟨3,some 29,.indexA 4 (.t 26) (.t 27),none,[]⟩,
 ⟨4,some 30,.fieldA 2 (.t 29),none,[]⟩,
 ⟨5,none,.storeH 1 (.t 30) (.t 28),none,[]⟩])
  (.seq (.region [⟨0,some 31,.mv (.t 1),none,[]⟩,
 ⟨1,some 32,.bin .add (.t 31) (.c (.int .i64 1)),none,[]⟩,
 ⟨2,some 1,.mv (.t 32),none,[]⟩])
  (.seq (.region [⟨0,some 33,.mv (.t 0),none,[]⟩,
 ⟨1,some 34,.mv (.t 5),none,[]⟩,
 ⟨2,some 35,.mv (.t 1),none,[]⟩,
 ⟨3,some 36,.indexA 4 (.t 33) (.t 34),none,[]⟩,
 ⟨4,some 37,.fieldA 3 (.t 36),none,[]⟩,
 ⟨5,none,.storeH 1 (.t 37) (.t 35),none,[]⟩])
  (.region [⟨0,some 38,.mv (.t 1),none,[]⟩,
 ⟨1,some 39,.bin .add (.t 38) (.c (.int .i64 1)),none,[]⟩,
 ⟨2,some 1,.mv (.t 39),none,[]⟩])))))))))
  (.region [⟨0,some 10,.mv (.t 5),none,[]⟩,
 ⟨1,some 11,.bin .add (.t 10) (.c (.int .i64 1)),none,[]⟩,
 ⟨2,some 5,.mv (.t 11),none,[]⟩]))))))
  (.seq (.region [⟨0,some 40,.mv (.t 1),none,[]⟩,
 ⟨1,some 4,.mv (.t 40),none,[]⟩])
  .ret)))
noncomputable def f_laws_markActionS:AFun:=⟨2,41,0,false,[.tmp 4],c_laws_markActionS⟩
@[irreducible] noncomputable def s_laws_markActionS:CallSem:=funSem f_laws_markActionS
@[irreducible] noncomputable def mg_laws_markActionS(x:List (Int×Int×Int×Int))(m:Int):(List (Int×Int×Int×Int))×Int:=(shut fun(x:List (Int×Int×Int×Int)) (m:Int)=>mkL (RT.mkI rI4) x m).1 x m
@[irreducible] noncomputable def mok_laws_markActionS(x:List (Int×Int×Int×Int)):Prop:=(shut fun(x:List (Int×Int×Int×Int))=>CT.wl (.sl rI4) x).1 x
theorem mgu_laws_markActionS:mg_laws_markActionS=fun x m=>mkL (RT.mkI rI4) x m:=by unfold mg_laws_markActionS;exact(shut _).2
theorem mou_laws_markActionS:mok_laws_markActionS=fun x=>CT.wl (.sl rI4) x:=by unfold mok_laws_markActionS;exact(shut _).2
theorem sl_laws_markActionS:SlC s_laws_markActionS rI4:=by
 rintro h ω hd p l u m Q hok hinj hM hQ
 have hn:=hM.len
 have hlb:l.length≤9223372036854775807:=hok.1
 unfold s_laws_markActionS
 refine fun_intro rfl ?_
 unfold c_laws_markActionS
 repeat' (first|(simp only[go_sem,reduceIte,reduceCtorEq,Nat.reduceAdd,Nat.reduceBEq,Int.reduceLT,Int.reduceLE,Int.reduceGT,Int.reduceGE,Int.reduceBEq,Int.reduceBNe,Nat.reduceEqDiff,Nat.reduceLeDiff,Nat.reduceLT,hn])|(refine aops_part rfl (fun hb=>?_) (fun hb=>?_)<;>simp only[hb,go_sem,reduceIte,reduceCtorEq,Nat.reduceAdd,Nat.reduceBEq,Int.reduceLT,Int.reduceLE,Int.reduceGT,Int.reduceGE,Int.reduceBEq,Int.reduceBNe,Nat.reduceEqDiff,Nat.reduceLeDiff,Nat.reduceLT,hn])|(refine awp_part rfl (fun hb=>?_) (fun hb=>?_)<;>simp only[hb,go_sem,reduceIte,reduceCtorEq,Nat.reduceAdd,Nat.reduceBEq,Int.reduceLT,Int.reduceLE,Int.reduceGT,Int.reduceGE,Int.reduceBEq,Int.reduceBNe,Nat.reduceEqDiff,Nat.reduceLeDiff,Nat.reduceLT,hn])|(refine wop_pick_part rfl (fun hb=>?_) (fun hb=>?_)<;>simp only[hb,go_sem,reduceIte,reduceCtorEq,Nat.reduceAdd,Nat.reduceBEq,Int.reduceLT,Int.reduceLE,Int.reduceGT,Int.reduceGE,Int.reduceBEq,Int.reduceBNe,Nat.reduceEqDiff,Nat.reduceLeDiff,Nat.reduceLT,hn]))
 refine loop_up l.length (fun i st=>∃ h',st=⟨[u,.int .i64 (mkPre (RT.mkI rI4) l m i).2,.undef,.undef,.undef,.int .i64 (i:Int)]++reps 35,[],h'⟩∧Only (Under ω hd p) h h'∧MS h' ω hd p rI4 (mkPre (RT.mkI rI4) l m i).1 u) ?_ ?_
 · refine⟨h,?_,Only.refl _ _,hM⟩
   simp only[mkPre_zero,keep,Int.natCast_zero]
   rfl
 · rintro i st next hi ⟨h1,rfl,hO,hR⟩ hnx
   by_cases hlt:i<l.length
   · have hc:decide ((i:Int)<(l.length:Int))=true:=decide_eq_true (by omega)
     have hw:IntKind.i64.wrap ((i:Int)+1)=((i+1:Nat):Int):=by rw[wrapI (by omega)];omega
     obtain⟨b,hub⟩:=hR.slice (by rw[mkPre_len];omega)
     rw[mkPre_len] at hub
     subst hub
     cases hL:mkPre (RT.mkI rI4) l m i with
     |mk L k0=>
     rw[hL] at hR
     obtain⟨hLl,hs,hx0⟩:=mkPre_step hlt hL
     have hiL:i<L.length:=by omega
     have hwx:=wl_get hok hlt
     rw[← hx0] at hwx
     have R0:=MS.frame hR hiL
     clear hx0
     generalize hx0:List.getD L i (RT.dflt rI4)=x0 at R0 hs hwx
     clear hx0
     have hx:=idx_own (b:=b) (w:=4) hlt (k:=.i64)
     simp only
     obtain⟨h2,s0,o0,R1⟩:=MS.st R0 hiL (off:=0) (by decide) (v:=(.int .i64 k0)) rfl rfl (y:=((k0,x0.2.1,x0.2.2.1,x0.2.2.2):RT.D rI4)) rfl hinj []
     replace s0:x_storeH [] h1 1 (.ptr b (i*4)) (.int .i64 k0)=some (.undef,[],h2):=s0
     obtain⟨h3,s1,o1,R2⟩:=MS.st R1 hiL (off:=1) (by decide) (v:=(.int .i64 (IntKind.i64.wrap (k0+1)))) rfl rfl (y:=((k0,(IntKind.i64.wrap (k0+1)),x0.2.2.1,x0.2.2.2):RT.D rI4)) rfl hinj []
     replace s1:x_storeH [] h2 1 (.ptr b (i*4+1)) (.int .i64 (IntKind.i64.wrap (k0+1)))=some (.undef,[],h3):=s1
     obtain⟨h4,s2,o2,R3⟩:=MS.st R2 hiL (off:=2) (by decide) (v:=(.int .i64 (IntKind.i64.wrap (IntKind.i64.wrap (k0+1)+1)))) rfl rfl (y:=((k0,(IntKind.i64.wrap (k0+1)),(IntKind.i64.wrap (IntKind.i64.wrap (k0+1)+1)),x0.2.2.2):RT.D rI4)) rfl hinj []
     replace s2:x_storeH [] h3 1 (.ptr b (i*4+2)) (.int .i64 (IntKind.i64.wrap (IntKind.i64.wrap (k0+1)+1)))=some (.undef,[],h4):=s2
     obtain⟨h5,s3,o3,R4⟩:=MS.st R3 hiL (off:=3) (by decide) (v:=(.int .i64 (IntKind.i64.wrap (IntKind.i64.wrap (IntKind.i64.wrap (k0+1)+1)+1)))) rfl rfl (y:=((k0,(IntKind.i64.wrap (k0+1)),(IntKind.i64.wrap (IntKind.i64.wrap (k0+1)+1)),(IntKind.i64.wrap (IntKind.i64.wrap (IntKind.i64.wrap (k0+1)+1)+1))):RT.D rI4)) rfl hinj []
     replace s3:x_storeH [] h4 1 (.ptr b (i*4+3)) (.int .i64 (IntKind.i64.wrap (IntKind.i64.wrap (IntKind.i64.wrap (k0+1)+1)+1)))=some (.undef,[],h5):=s3
     repeat' (first|(simp only[go_sem,reduceIte,reduceCtorEq,Nat.reduceAdd,Nat.reduceBEq,Int.reduceLT,Int.reduceLE,Int.reduceGT,Int.reduceGE,Int.reduceBEq,Int.reduceBNe,Nat.reduceEqDiff,Nat.reduceLeDiff,Nat.reduceLT,hn,hc,hw,hx,s0,s1,s2,s3])|(refine aops_part rfl (fun hb=>?_) (fun hb=>?_)<;>simp only[hb,go_sem,reduceIte,reduceCtorEq,Nat.reduceAdd,Nat.reduceBEq,Int.reduceLT,Int.reduceLE,Int.reduceGT,Int.reduceGE,Int.reduceBEq,Int.reduceBNe,Nat.reduceEqDiff,Nat.reduceLeDiff,Nat.reduceLT,hn,hc,hw,hx,s0,s1,s2,s3])|(refine awp_part rfl (fun hb=>?_) (fun hb=>?_)<;>simp only[hb,go_sem,reduceIte,reduceCtorEq,Nat.reduceAdd,Nat.reduceBEq,Int.reduceLT,Int.reduceLE,Int.reduceGT,Int.reduceGE,Int.reduceBEq,Int.reduceBNe,Nat.reduceEqDiff,Nat.reduceLeDiff,Nat.reduceLT,hn,hc,hw,hx,s0,s1,s2,s3])|(refine wop_pick_part rfl (fun hb=>?_) (fun hb=>?_)<;>simp only[hb,go_sem,reduceIte,reduceCtorEq,Nat.reduceAdd,Nat.reduceBEq,Int.reduceLT,Int.reduceLE,Int.reduceGT,Int.reduceGE,Int.reduceBEq,Int.reduceBNe,Nat.reduceEqDiff,Nat.reduceLeDiff,Nat.reduceLT,hn,hc,hw,hx,s0,s1,s2,s3]))
     exact hnx _ hlt ⟨h5,by rw[hs];rfl,(Only.trans (Only.trans (Only.trans (Only.trans hO o0) o1) o2) o3),by rw[hs];exact R4⟩
   · have hc:decide ((i:Int)<(l.length:Int))=false:=decide_eq_false (by omega)
     have hi':i=l.length:=by omega
     subst hi'
     repeat' (first|(simp only[go_sem,reduceIte,reduceCtorEq,Nat.reduceAdd,Nat.reduceBEq,Int.reduceLT,Int.reduceLE,Int.reduceGT,Int.reduceGE,Int.reduceBEq,Int.reduceBNe,Nat.reduceEqDiff,Nat.reduceLeDiff,Nat.reduceLT,hn,hc])|(refine aops_part rfl (fun hb=>?_) (fun hb=>?_)<;>simp only[hb,go_sem,reduceIte,reduceCtorEq,Nat.reduceAdd,Nat.reduceBEq,Int.reduceLT,Int.reduceLE,Int.reduceGT,Int.reduceGE,Int.reduceBEq,Int.reduceBNe,Nat.reduceEqDiff,Nat.reduceLeDiff,Nat.reduceLT,hn,hc])|(refine awp_part rfl (fun hb=>?_) (fun hb=>?_)<;>simp only[hb,go_sem,reduceIte,reduceCtorEq,Nat.reduceAdd,Nat.reduceBEq,Int.reduceLT,Int.reduceLE,Int.reduceGT,Int.reduceGE,Int.reduceBEq,Int.reduceBNe,Nat.reduceEqDiff,Nat.reduceLeDiff,Nat.reduceLT,hn,hc])|(refine wop_pick_part rfl (fun hb=>?_) (fun hb=>?_)<;>simp only[hb,go_sem,reduceIte,reduceCtorEq,Nat.reduceAdd,Nat.reduceBEq,Int.reduceLT,Int.reduceLE,Int.reduceGT,Int.reduceGE,Int.reduceBEq,Int.reduceBNe,Nat.reduceEqDiff,Nat.reduceLeDiff,Nat.reduceLT,hn,hc]))
     have e:=mkPre_all (RT.mkI rI4) l m
     rw[e] at hR ⊢
     exact hQ h1 hO hR
noncomputable def c_laws_markActionSS:ACode:=
 (.seq (.region [⟨0,some 4,.mv (.c (.int .i64 0)),none,[]⟩])
 (.seq (.seq (.region [⟨0,some 5,.mv (.c (.int .i64 0)),none,[]⟩])
 (.block 0 (.loop [0,1,5] (.seq (.seq (.region [⟨0,some 6,.mv (.t 5),none,[]⟩,
 ⟨1,some 7,.mv (.t 0),none,[]⟩,
 ⟨2,some 8,.len (.t 7),none,[]⟩,
 ⟨3,some 9,.bin .lss (.t 6) (.t 8),none,[]⟩])
  (.cond (.t 9) .skip (.exit 0)))
  (.seq (.block 1 (.region [⟨0,some 12,.mv (.t 0),none,[]⟩,
 ⟨1,some 13,.mv (.t 5),none,[]⟩,
 ⟨2,some 14,.indexA 1 (.t 12) (.t 13),none,[]⟩,
 ⟨3,some 15,.loadH none (.t 14),none,[]⟩,
 ⟨4,some 16,.mv (.t 1),none,[]⟩,
 ⟨5,some 17,.call s_laws_markActionS [(.t 15),(.t 16)],none,[]⟩,
 ⟨6,some 1,.mv (.t 17),none,[]⟩]))
  (.region [⟨0,some 10,.mv (.t 5),none,[]⟩,
 ⟨1,some 11,.bin .add (.t 10) (.c (.int .i64 1)),none,[]⟩,
 ⟨2,some 5,.mv (.t 11),none,[]⟩]))))))
  (.seq (.region [⟨0,some 18,.mv (.t 1),none,[]⟩,
 ⟨1,some 4,.mv (.t 18),none,[]⟩])
  .ret)))
noncomputable def f_laws_markActionSS:AFun:=⟨2,19,0,false,[.tmp 4],c_laws_markActionSS⟩
@[irreducible] noncomputable def s_laws_markActionSS:CallSem:=funSem f_laws_markActionSS
@[irreducible] noncomputable def mg_laws_markActionSS(x:List (List (Int×Int×Int×Int)))(m:Int):(List (List (Int×Int×Int×Int)))×Int:=(shut fun(x:List (List (Int×Int×Int×Int))) (m:Int)=>mkL (RT.mkI (.one (.sl rI4))) x m).1 x m
@[irreducible] noncomputable def mok_laws_markActionSS(x:List (List (Int×Int×Int×Int))):Prop:=(shut fun(x:List (List (Int×Int×Int×Int)))=>CT.wl (.sl (.one (.sl rI4))) x).1 x
theorem mgu_laws_markActionSS:mg_laws_markActionSS=fun x m=>mkL (RT.mkI (.one (.sl rI4))) x m:=by unfold mg_laws_markActionSS;exact(shut _).2
theorem mou_laws_markActionSS:mok_laws_markActionSS=fun x=>CT.wl (.sl (.one (.sl rI4))) x:=by unfold mok_laws_markActionSS;exact(shut _).2
theorem sl_laws_markActionSS:SlC s_laws_markActionSS (.one (.sl rI4)):=by
 rintro h ω hd p l u m Q hok hinj hM hQ
 have hn:=hM.len
 have hlb:l.length≤9223372036854775807:=hok.1
 unfold s_laws_markActionSS
 refine fun_intro rfl ?_
 unfold c_laws_markActionSS
 repeat' (first|(simp only[go_sem,reduceIte,reduceCtorEq,Nat.reduceAdd,Nat.reduceBEq,Int.reduceLT,Int.reduceLE,Int.reduceGT,Int.reduceGE,Int.reduceBEq,Int.reduceBNe,Nat.reduceEqDiff,Nat.reduceLeDiff,Nat.reduceLT,hn])|(refine aops_part rfl (fun hb=>?_) (fun hb=>?_)<;>simp only[hb,go_sem,reduceIte,reduceCtorEq,Nat.reduceAdd,Nat.reduceBEq,Int.reduceLT,Int.reduceLE,Int.reduceGT,Int.reduceGE,Int.reduceBEq,Int.reduceBNe,Nat.reduceEqDiff,Nat.reduceLeDiff,Nat.reduceLT,hn])|(refine awp_part rfl (fun hb=>?_) (fun hb=>?_)<;>simp only[hb,go_sem,reduceIte,reduceCtorEq,Nat.reduceAdd,Nat.reduceBEq,Int.reduceLT,Int.reduceLE,Int.reduceGT,Int.reduceGE,Int.reduceBEq,Int.reduceBNe,Nat.reduceEqDiff,Nat.reduceLeDiff,Nat.reduceLT,hn])|(refine wop_pick_part rfl (fun hb=>?_) (fun hb=>?_)<;>simp only[hb,go_sem,reduceIte,reduceCtorEq,Nat.reduceAdd,Nat.reduceBEq,Int.reduceLT,Int.reduceLE,Int.reduceGT,Int.reduceGE,Int.reduceBEq,Int.reduceBNe,Nat.reduceEqDiff,Nat.reduceLeDiff,Nat.reduceLT,hn]))
 refine loop_up l.length (fun i st=>∃ h',st=⟨[u,.int .i64 (mkPre (RT.mkI (.one (.sl rI4))) l m i).2,.undef,.undef,.undef,.int .i64 (i:Int)]++reps 13,[],h'⟩∧Only (Under ω hd p) h h'∧MS h' ω hd p (.one (.sl rI4)) (mkPre (RT.mkI (.one (.sl rI4))) l m i).1 u) ?_ ?_
 · refine⟨h,?_,Only.refl _ _,hM⟩
   simp only[mkPre_zero,keep,Int.natCast_zero]
   rfl
 · rintro i st next hi ⟨h1,rfl,hO,hR⟩ hnx
   by_cases hlt:i<l.length
   · have hc:decide ((i:Int)<(l.length:Int))=true:=decide_eq_true (by omega)
     have hw:IntKind.i64.wrap ((i:Int)+1)=((i+1:Nat):Int):=by rw[wrapI (by omega)];omega
     obtain⟨b,hub⟩:=hR.slice (by rw[mkPre_len];omega)
     rw[mkPre_len] at hub
     subst hub
     cases hL:mkPre (RT.mkI (.one (.sl rI4))) l m i with
     |mk L k0=>
     rw[hL] at hR
     obtain⟨hLl,hs,hx0⟩:=mkPre_step hlt hL
     have hiL:i<L.length:=by omega
     have hwx:=wl_get hok hlt
     rw[← hx0] at hwx
     have R0:=MS.frame hR hiL
     clear hx0
     generalize hx0:List.getD L i (RT.dflt (.one (.sl rI4)))=x0 at R0 hs hwx
     clear hx0
     have hx:=idx_own (b:=b) (w:=1) hlt (k:=.i64)
     simp only
     obtain⟨u0,s0,M0,f0⟩:=MS.sb R0 hiL (off:=0) (by decide) (r':=rI4) (l':=x0) rfl
     replace s0:v_loadH h1 none (.ptr b (i*1))=some u0:=s0
     have ok0:=(MS.ok1 M0).1
     repeat' (first|(simp only[go_sem,reduceIte,reduceCtorEq,Nat.reduceAdd,Nat.reduceBEq,Int.reduceLT,Int.reduceLE,Int.reduceGT,Int.reduceGE,Int.reduceBEq,Int.reduceBNe,Nat.reduceEqDiff,Nat.reduceLeDiff,Nat.reduceLT,hn,hc,hw,hx,s0,ok0])|(refine aops_part rfl (fun hb=>?_) (fun hb=>?_)<;>simp only[hb,go_sem,reduceIte,reduceCtorEq,Nat.reduceAdd,Nat.reduceBEq,Int.reduceLT,Int.reduceLE,Int.reduceGT,Int.reduceGE,Int.reduceBEq,Int.reduceBNe,Nat.reduceEqDiff,Nat.reduceLeDiff,Nat.reduceLT,hn,hc,hw,hx,s0,ok0])|(refine awp_part rfl (fun hb=>?_) (fun hb=>?_)<;>simp only[hb,go_sem,reduceIte,reduceCtorEq,Nat.reduceAdd,Nat.reduceBEq,Int.reduceLT,Int.reduceLE,Int.reduceGT,Int.reduceGE,Int.reduceBEq,Int.reduceBNe,Nat.reduceEqDiff,Nat.reduceLeDiff,Nat.reduceLT,hn,hc,hw,hx,s0,ok0])|(refine wop_pick_part rfl (fun hb=>?_) (fun hb=>?_)<;>simp only[hb,go_sem,reduceIte,reduceCtorEq,Nat.reduceAdd,Nat.reduceBEq,Int.reduceLT,Int.reduceLE,Int.reduceGT,Int.reduceGE,Int.reduceBEq,Int.reduceBNe,Nat.reduceEqDiff,Nat.reduceLeDiff,Nat.reduceLT,hn,hc,hw,hx,s0,ok0]))
     refine callN (sl_laws_markActionS h1 ω hd _ x0 u0 k0 _ hwx hinj M0 fun h2 O0 N0=>?_)
     obtain⟨o0,R1⟩:=f0 h2 _ ((mkL (RT.mkI rI4) x0 k0).1:RT.D (.one (.sl rI4))) O0 N0 rfl
     repeat' (first|(simp only[go_sem,reduceIte,reduceCtorEq,Nat.reduceAdd,Nat.reduceBEq,Int.reduceLT,Int.reduceLE,Int.reduceGT,Int.reduceGE,Int.reduceBEq,Int.reduceBNe,Nat.reduceEqDiff,Nat.reduceLeDiff,Nat.reduceLT,hn,hc,hw,hx,s0,ok0])|(refine aops_part rfl (fun hb=>?_) (fun hb=>?_)<;>simp only[hb,go_sem,reduceIte,reduceCtorEq,Nat.reduceAdd,Nat.reduceBEq,Int.reduceLT,Int.reduceLE,Int.reduceGT,Int.reduceGE,Int.reduceBEq,Int.reduceBNe,Nat.reduceEqDiff,Nat.reduceLeDiff,Nat.reduceLT,hn,hc,hw,hx,s0,ok0])|(refine awp_part rfl (fun hb=>?_) (fun hb=>?_)<;>simp only[hb,go_sem,reduceIte,reduceCtorEq,Nat.reduceAdd,Nat.reduceBEq,Int.reduceLT,Int.reduceLE,Int.reduceGT,Int.reduceGE,Int.reduceBEq,Int.reduceBNe,Nat.reduceEqDiff,Nat.reduceLeDiff,Nat.reduceLT,hn,hc,hw,hx,s0,ok0])|(refine wop_pick_part rfl (fun hb=>?_) (fun hb=>?_)<;>simp only[hb,go_sem,reduceIte,reduceCtorEq,Nat.reduceAdd,Nat.reduceBEq,Int.reduceLT,Int.reduceLE,Int.reduceGT,Int.reduceGE,Int.reduceBEq,Int.reduceBNe,Nat.reduceEqDiff,Nat.reduceLeDiff,Nat.reduceLT,hn,hc,hw,hx,s0,ok0]))
     exact hnx _ hlt ⟨h2,by rw[hs];rfl,(Only.trans hO o0),by rw[hs];exact R1⟩
   · have hc:decide ((i:Int)<(l.length:Int))=false:=decide_eq_false (by omega)
     have hi':i=l.length:=by omega
     subst hi'
     repeat' (first|(simp only[go_sem,reduceIte,reduceCtorEq,Nat.reduceAdd,Nat.reduceBEq,Int.reduceLT,Int.reduceLE,Int.reduceGT,Int.reduceGE,Int.reduceBEq,Int.reduceBNe,Nat.reduceEqDiff,Nat.reduceLeDiff,Nat.reduceLT,hn,hc])|(refine aops_part rfl (fun hb=>?_) (fun hb=>?_)<;>simp only[hb,go_sem,reduceIte,reduceCtorEq,Nat.reduceAdd,Nat.reduceBEq,Int.reduceLT,Int.reduceLE,Int.reduceGT,Int.reduceGE,Int.reduceBEq,Int.reduceBNe,Nat.reduceEqDiff,Nat.reduceLeDiff,Nat.reduceLT,hn,hc])|(refine awp_part rfl (fun hb=>?_) (fun hb=>?_)<;>simp only[hb,go_sem,reduceIte,reduceCtorEq,Nat.reduceAdd,Nat.reduceBEq,Int.reduceLT,Int.reduceLE,Int.reduceGT,Int.reduceGE,Int.reduceBEq,Int.reduceBNe,Nat.reduceEqDiff,Nat.reduceLeDiff,Nat.reduceLT,hn,hc])|(refine wop_pick_part rfl (fun hb=>?_) (fun hb=>?_)<;>simp only[hb,go_sem,reduceIte,reduceCtorEq,Nat.reduceAdd,Nat.reduceBEq,Int.reduceLT,Int.reduceLE,Int.reduceGT,Int.reduceGE,Int.reduceBEq,Int.reduceBNe,Nat.reduceEqDiff,Nat.reduceLeDiff,Nat.reduceLT,hn,hc]))
     have e:=mkPre_all (RT.mkI (.one (.sl rI4))) l m
     rw[e] at hR ⊢
     exact hQ h1 hO hR
noncomputable def c_laws_markKeymap:ACode:=
 (.seq (.region [⟨0,some 2,.boxB 0 2 (.t 0),none,[]⟩,
 ⟨1,some 4,.mv (.c (.int .i64 0)),none,[]⟩])
  (.seq (.region [⟨0,some 5,.fieldA 1 (.t 2),none,[]⟩,
 ⟨1,some 6,.loadB 0 none (.t 5),none,[]⟩,
 ⟨2,some 7,.mv (.t 1),none,[]⟩,
 ⟨3,some 8,.call s_laws_markActionSS [(.t 6),(.t 7)],none,[]⟩,
 ⟨4,some 1,.mv (.t 8),none,[]⟩])
  (.seq (.region [⟨0,some 9,.mv (.t 1),none,[]⟩,
 ⟨1,some 4,.mv (.t 9),none,[]⟩])
  .ret)))
noncomputable def f_laws_markKeymap:AFun:=⟨2,10,1,false,[.tmp 4],c_laws_markKeymap⟩
@[irreducible] noncomputable def s_laws_markKeymap:CallSem:=funSem f_laws_markKeymap
@[irreducible] noncomputable def mg_laws_markKeymap(x:Int×(List (List (Int×Int×Int×Int))))(m:Int):(Int×(List (List (Int×Int×Int×Int))))×Int:=(shut fun(x:Int×(List (List (Int×Int×Int×Int)))) (m:Int)=>RT.mkT (.cons (.int .i64) (.one (.sl (.one (.sl rI4))))) x m).1 x m
@[irreducible] noncomputable def mok_laws_markKeymap(x:Int×(List (List (Int×Int×Int×Int)))):Prop:=(shut fun(x:Int×(List (List (Int×Int×Int×Int))))=>RT.wl (.cons (.int .i64) (.one (.sl (.one (.sl rI4))))) x).1 x
theorem mgu_laws_markKeymap:mg_laws_markKeymap=fun x m=>RT.mkT (.cons (.int .i64) (.one (.sl (.one (.sl rI4))))) x m:=by unfold mg_laws_markKeymap;exact(shut _).2
theorem mou_laws_markKeymap:mok_laws_markKeymap=fun x=>RT.wl (.cons (.int .i64) (.one (.sl (.one (.sl rI4))))) x:=by unfold mok_laws_markKeymap;exact(shut _).2
theorem mk_laws_markKeymap:SoundM s_laws_markKeymap (agMk (.cons (.int .i64) (.one (.sl (.one (.sl rI4)))))).P:=by
 rintro h ω hd P b olds us u m K Q hinj hu hl hr ⟨x,rfl,hok,hK⟩ hQ
 have hu:u= .agg us:=hu
 subst hu
 obtain⟨u0,u1,rfl⟩:=len_2 hl
 have c0:RC h ω (.inn hd (P++[b+0])) (CT.enc (.int .i64) x.1) u0:=hr 0 (lt_enc (by decide))
 have c1:RC h ω (.inn hd (P++[b+1])) (CT.enc (.sl (.one (.sl rI4))) x.2) u1:=hr 1 (lt_enc (by decide))
 have e0:=c0.cellV rfl
 have e1:=c1.cellV rfl
 have g1:=(RC.own1 c1).1
 have z1:=(RC.own1 c1).2.2
 unfold s_laws_markKeymap
 refine fun_intro rfl ?_
 unfold c_laws_markKeymap
 repeat' (first|(simp only[go_sem,reduceIte,reduceCtorEq,Nat.reduceAdd,Nat.reduceBEq,Int.reduceLT,Int.reduceLE,Int.reduceGT,Int.reduceGE,Int.reduceBEq,Int.reduceBNe,Nat.reduceEqDiff,Nat.reduceLeDiff,Nat.reduceLT,e0,e1,g1])|(refine aops_part rfl (fun hb=>?_) (fun hb=>?_)<;>simp only[hb,go_sem,reduceIte,reduceCtorEq,Nat.reduceAdd,Nat.reduceBEq,Int.reduceLT,Int.reduceLE,Int.reduceGT,Int.reduceGE,Int.reduceBEq,Int.reduceBNe,Nat.reduceEqDiff,Nat.reduceLeDiff,Nat.reduceLT,e0,e1,g1])|(refine awp_part rfl (fun hb=>?_) (fun hb=>?_)<;>simp only[hb,go_sem,reduceIte,reduceCtorEq,Nat.reduceAdd,Nat.reduceBEq,Int.reduceLT,Int.reduceLE,Int.reduceGT,Int.reduceGE,Int.reduceBEq,Int.reduceBNe,Nat.reduceEqDiff,Nat.reduceLeDiff,Nat.reduceLT,e0,e1,g1])|(refine wop_pick_part rfl (fun hb=>?_) (fun hb=>?_)<;>simp only[hb,go_sem,reduceIte,reduceCtorEq,Nat.reduceAdd,Nat.reduceBEq,Int.reduceLT,Int.reduceLE,Int.reduceGT,Int.reduceGE,Int.reduceBEq,Int.reduceBNe,Nat.reduceEqDiff,Nat.reduceLeDiff,Nat.reduceLT,e0,e1,g1]))
 refine callN (sl_laws_markActionSS h ω hd (P++[b+1]) x.2 u1 m _ hok.2 hinj c1 fun h1 O0 N0=>?_)
 replace N0:RC h1 ω (.inn hd (P++[b+1])) (CT.enc (.sl (.one (.sl rI4))) (mkL (RT.mkI (.one (.sl rI4))) x.2 m).1) u1:=N0
 have b0_0:=RC.beside c0 O0 (fun l hs=>by obtain⟨q,e⟩:=hs;exact⟨b+1,q,by omega,by rw[e];simp⟩)
 repeat' (first|(simp only[go_sem,reduceIte,reduceCtorEq,Nat.reduceAdd,Nat.reduceBEq,Int.reduceLT,Int.reduceLE,Int.reduceGT,Int.reduceGE,Int.reduceBEq,Int.reduceBNe,Nat.reduceEqDiff,Nat.reduceLeDiff,Nat.reduceLT,e0,e1,g1])|(refine aops_part rfl (fun hb=>?_) (fun hb=>?_)<;>simp only[hb,go_sem,reduceIte,reduceCtorEq,Nat.reduceAdd,Nat.reduceBEq,Int.reduceLT,Int.reduceLE,Int.reduceGT,Int.reduceGE,Int.reduceBEq,Int.reduceBNe,Nat.reduceEqDiff,Nat.reduceLeDiff,Nat.reduceLT,e0,e1,g1])|(refine awp_part rfl (fun hb=>?_) (fun hb=>?_)<;>simp only[hb,go_sem,reduceIte,reduceCtorEq,Nat.reduceAdd,Nat.reduceBEq,Int.reduceLT,Int.reduceLE,Int.reduceGT,Int.reduceGE,Int.reduceBEq,Int.reduceBNe,Nat.reduceEqDiff,Nat.reduceLeDiff,Nat.reduceLT,e0,e1,g1])|(refine wop_pick_part rfl (fun hb=>?_) (fun hb=>?_)<;>simp only[hb,go_sem,reduceIte,reduceCtorEq,Nat.reduceAdd,Nat.reduceBEq,Int.reduceLT,Int.reduceLE,Int.reduceGT,Int.reduceGE,Int.reduceBEq,Int.reduceBNe,Nat.reduceEqDiff,Nat.reduceLeDiff,Nat.reduceLT,e0,e1,g1]))
 refine hQ _ _ h1 hK rfl ((Only.mono O0 fun l hs=>by obtain⟨q,e⟩:=hs;exact⟨1,_,q,lt_enc (by decide),rfl,by rw[e];simp⟩)) fun c hc=>?_
 have hc:c<2:=hc
 rcases (show c=0∨c=1 by omega) with rfl|rfl
 · exact b0_0
 · exact N0
noncomputable def M_laws_markKeymap:DMk:=⟨(.cons (.int .i64) (.one (.sl (.one (.sl rI4))))),true,mok_laws_markKeymap,mg_laws_markKeymap⟩
theorem smk_laws_markKeymap:SoundM s_laws_markKeymap (DMk.P M_laws_markKeymap):=by unfold M_laws_markKeymap;rw[mou_laws_markKeymap,mgu_laws_markKeymap];exact mk_laws_markKeymap
noncomputable def dc_laws_heldActionS:DCode:=
 (.seq [1,0] (.region [oi 0 4 0])
 (.seq [1] (.seq [5,1,0] (.region [oi 0 5 0])
 (.block 0 (.loop [0,1,5] 1 (.seq [5,1,0] (.seq [9,5,1,0] (.region [om 0 6 5,
 on 1 7 0,
 oa 2 8 (.len (.t 7)),
 oa 3 9 (.bin .lss (.t 6) (.t 8))])
  (.cond (.t 9) .skip (.exit 0)))
  (.seq [5,1,0] (.block 1 (.seq [5,1,0] (.seq [18,5,1,0] (.region [on 0 12 0,
 om 1 13 5,
 oa 2 14 (.indexA 4 (.t 12) (.t 13)),
 oa 3 15 (.fieldA 0 (.t 14)),
 oa 4 16 (.loadH none (.t 15)),
 om 5 17 1,
 oa 6 18 (.bin .neq (.t 16) (.t 17))])
  (.cond (.t 18) (.seq [4] (.region [oi 0 4 (-1)])
  .ret) .skip))
  (.seq [5,1,0] (.region [om 0 19 1,
 oa 1 20 (.bin .add (.t 19) (.c (.int .i64 1))),
 om 2 1 20])
  (.seq [5,1,0] (.seq [27,5,1,0] (.region [on 0 21 0,
 om 1 22 5,
 oa 2 23 (.indexA 4 (.t 21) (.t 22)),
 oa 3 24 (.fieldA 1 (.t 23)),
 oa 4 25 (.loadH none (.t 24)),
 om 5 26 1,
 oa 6 27 (.bin .neq (.t 25) (.t 26))])
  (.cond (.t 27) (.seq [4] (.region [oi 0 4 (-1)])
  .ret) .skip))
  (.seq [5,1,0] (.region [om 0 28 1,
 oa 1 29 (.bin .add (.t 28) (.c (.int .i64 1))),
 om 2 1 29])
  (.seq [5,1,0] (.seq [36,5,1,0] (.region [on 0 30 0,
 om 1 31 5,
 oa 2 32 (.indexA 4 (.t 30) (.t 31)),
 oa 3 33 (.fieldA 2 (.t 32)),
 oa 4 34 (.loadH none (.t 33)),
 om 5 35 1,
 oa 6 36 (.bin .neq (.t 34) (.t 35))])
  (.cond (.t 36) (.seq [4] (.region [oi 0 4 (-1)])
  .ret) .skip))
  (.seq [5,1,0] (.region [om 0 37 1,
 oa 1 38 (.bin .add (.t 37) (.c (.int .i64 1))),
 om 2 1 38])
  (.seq [5,1,0] (.seq [45,5,1,0] (.region [on 0 39 0,
 om 1 40 5,
 oa 2 41 (.indexA 4 (.t 39) (.t 40)),
 oa 3 42 (.fieldA 3 (.t 41)),
 oa 4 43 (.loadH none (.t 42)),
 om 5 44 1,
 oa 6 45 (.bin .neq (.t 43) (.t 44))])
  (.cond (.t 45) (.seq [4] (.region [oi 0 4 (-1)])
  .ret) .skip))
  (.region [om 0 46 1,
 oa 1 47 (.bin .add (.t 46) (.c (.int .i64 1))),
 om 2 1 47])))))))))
  (.region [om 0 10 5,
 oa 1 11 (.bin .add (.t 10) (.c (.int .i64 1))),
 om 2 5 11]))))))
  (.seq [4] (.region [om 0 48 1,
 om 1 4 48])
  .ret)))
noncomputable def df_laws_heldActionS:DFun:=⟨2,49,0,true,[.tmp 4],dc_laws_heldActionS⟩
noncomputable def pf_laws_heldActionS:PFun:=df_laws_heldActionS.er
noncomputable def f_laws_heldActionS:AFun:=pf_laws_heldActionS.er
@[irreducible] noncomputable def s_laws_heldActionS:CallSem:=funSem f_laws_heldActionS
@[irreducible] noncomputable def p_laws_heldActionS:PSem:=pfunSem pf_laws_heldActionS
theorem sp_laws_heldActionS:SoundP s_laws_heldActionS p_laws_heldActionS:=by unfold s_laws_heldActionS p_laws_heldActionS;exact pfun_sound (f:=pf_laws_heldActionS) trivial
def h_laws_heldActionS:List HT:=[.one .frz (.sl rI4),.one .frz (.int .i64)]
def q_laws_heldActionS:QT:=.one (.one .own (.int .i64))
@[irreducible] noncomputable def v_laws_heldActionS(x:(List (Int×Int×Int×Int))×Int):Int:=(shut fun x=>fnV df_laws_heldActionS h_laws_heldActionS q_laws_heldActionS x).1 x
@[irreducible] noncomputable def ok_laws_heldActionS(x:(List (Int×Int×Int×Int))×Int):Prop:=(shut fun x=>fnOk df_laws_heldActionS h_laws_heldActionS q_laws_heldActionS x).1 x
theorem vu_laws_heldActionS (x):v_laws_heldActionS x=fnV df_laws_heldActionS h_laws_heldActionS q_laws_heldActionS x:=by unfold v_laws_heldActionS;exact congrFun (shut _).2 x
theorem ou_laws_heldActionS (x):ok_laws_heldActionS x=fnOk df_laws_heldActionS h_laws_heldActionS q_laws_heldActionS x:=by unfold ok_laws_heldActionS;exact congrFun (shut _).2 x
noncomputable def D_laws_heldActionS:DSem:=DSemOf h_laws_heldActionS q_laws_heldActionS ok_laws_heldActionS v_laws_heldActionS
theorem ck_laws_heldActionS(x:(List (Int×Int×Int×Int))×Int):fnChk df_laws_heldActionS h_laws_heldActionS q_laws_heldActionS x=true:=by kernel_rfl
theorem ob_laws_heldActionS:AllD df_laws_heldActionS.body.obs:=trivial
theorem st_laws_heldActionS:fnSt df_laws_heldActionS h_laws_heldActionS q_laws_heldActionS=true:=by kernel_rfl
theorem sd_laws_heldActionS:SoundD p_laws_heldActionS D_laws_heldActionS:=by unfold p_laws_heldActionS;exact soundD_of (f:=df_laws_heldActionS) (hs:=h_laws_heldActionS) (q:=q_laws_heldActionS) ob_laws_heldActionS st_laws_heldActionS ck_laws_heldActionS (fun x h=>Eq.mp (ou_laws_heldActionS x) h) (fun x=>(vu_laws_heldActionS x).symm)
noncomputable def dc_laws_heldActionSS:DCode:=
 (.seq [1,0] (.region [oi 0 4 0])
 (.seq [1] (.seq [5,1,0] (.region [oi 0 5 0])
 (.block 0 (.loop [0,1,5] 1 (.seq [5,1,0] (.seq [9,5,1,0] (.region [om 0 6 5,
 on 1 7 0,
 oa 2 8 (.len (.t 7)),
 oa 3 9 (.bin .lss (.t 6) (.t 8))])
  (.cond (.t 9) .skip (.exit 0)))
  (.seq [5,1,0] (.block 1 (.seq [5,1,0] (.region [on 0 12 0,
 om 1 13 5,
 oa 2 14 (.indexA 1 (.t 12) (.t 13)),
 oa 3 15 (.loadH none (.t 14)),
 om 4 16 1,
 oc 5 17 s_laws_heldActionS p_laws_heldActionS D_laws_heldActionS [(.t 15),(.t 16)],
 om 6 1 17])
  (.seq [19,5,1,0] (.region [om 0 18 1,
 oa 1 19 (.bin .lss (.t 18) (.c (.int .i64 0)))])
  (.cond (.t 19) (.seq [4] (.region [oi 0 4 (-1)])
  .ret) .skip))))
  (.region [om 0 10 5,
 oa 1 11 (.bin .add (.t 10) (.c (.int .i64 1))),
 om 2 5 11]))))))
  (.seq [4] (.region [om 0 20 1,
 om 1 4 20])
  .ret)))
noncomputable def df_laws_heldActionSS:DFun:=⟨2,21,0,true,[.tmp 4],dc_laws_heldActionSS⟩
noncomputable def pf_laws_heldActionSS:PFun:=df_laws_heldActionSS.er
noncomputable def f_laws_heldActionSS:AFun:=pf_laws_heldActionSS.er
@[irreducible] noncomputable def s_laws_heldActionSS:CallSem:=funSem f_laws_heldActionSS
@[irreducible] noncomputable def p_laws_heldActionSS:PSem:=pfunSem pf_laws_heldActionSS
theorem sp_laws_heldActionSS:SoundP s_laws_heldActionSS p_laws_heldActionSS:=by unfold s_laws_heldActionSS p_laws_heldActionSS;exact pfun_sound (f:=pf_laws_heldActionSS) ⟨sp_laws_heldActionS,trivial⟩
def h_laws_heldActionSS:List HT:=[.one .frz (.sl (.one (.sl rI4))),.one .frz (.int .i64)]
def q_laws_heldActionSS:QT:=.one (.one .own (.int .i64))
@[irreducible] noncomputable def v_laws_heldActionSS(x:(List (List (Int×Int×Int×Int)))×Int):Int:=(shut fun x=>fnV df_laws_heldActionSS h_laws_heldActionSS q_laws_heldActionSS x).1 x
@[irreducible] noncomputable def ok_laws_heldActionSS(x:(List (List (Int×Int×Int×Int)))×Int):Prop:=(shut fun x=>fnOk df_laws_heldActionSS h_laws_heldActionSS q_laws_heldActionSS x).1 x
theorem vu_laws_heldActionSS (x):v_laws_heldActionSS x=fnV df_laws_heldActionSS h_laws_heldActionSS q_laws_heldActionSS x:=by unfold v_laws_heldActionSS;exact congrFun (shut _).2 x
theorem ou_laws_heldActionSS (x):ok_laws_heldActionSS x=fnOk df_laws_heldActionSS h_laws_heldActionSS q_laws_heldActionSS x:=by unfold ok_laws_heldActionSS;exact congrFun (shut _).2 x
noncomputable def D_laws_heldActionSS:DSem:=DSemOf h_laws_heldActionSS q_laws_heldActionSS ok_laws_heldActionSS v_laws_heldActionSS
theorem ck_laws_heldActionSS(x:(List (List (Int×Int×Int×Int)))×Int):fnChk df_laws_heldActionSS h_laws_heldActionSS q_laws_heldActionSS x=true:=by kernel_rfl
theorem ob_laws_heldActionSS:AllD df_laws_heldActionSS.body.obs:=⟨sd_laws_heldActionS,trivial⟩
theorem st_laws_heldActionSS:fnSt df_laws_heldActionSS h_laws_heldActionSS q_laws_heldActionSS=true:=by kernel_rfl
theorem sd_laws_heldActionSS:SoundD p_laws_heldActionSS D_laws_heldActionSS:=by unfold p_laws_heldActionSS;exact soundD_of (f:=df_laws_heldActionSS) (hs:=h_laws_heldActionSS) (q:=q_laws_heldActionSS) ob_laws_heldActionSS st_laws_heldActionSS ck_laws_heldActionSS (fun x h=>Eq.mp (ou_laws_heldActionSS x) h) (fun x=>(vu_laws_heldActionSS x).symm)
noncomputable def dc_laws_heldKeymap:DCode:=
 (.seq [2,1] (.region [oa 0 2 (.boxB 0 2 (.t 0)),
 oi 1 4 0])
  (.seq [1] (.region [oa 0 5 (.fieldA 1 (.t 2)),
 oa 1 6 (.loadB 0 none (.t 5)),
 om 2 7 1,
 oc 3 8 s_laws_heldActionSS p_laws_heldActionSS D_laws_heldActionSS [(.t 6),(.t 7)],
 om 4 1 8])
  (.seq [1] (.seq [10,1] (.region [om 0 9 1,
 oa 1 10 (.bin .lss (.t 9) (.c (.int .i64 0)))])
  (.cond (.t 10) (.seq [4] (.region [oi 0 4 (-1)])
  .ret) .skip))
  (.seq [4] (.region [om 0 11 1,
 om 1 4 11])
  .ret))))
noncomputable def df_laws_heldKeymap:DFun:=⟨2,12,1,true,[.tmp 4],dc_laws_heldKeymap⟩
noncomputable def pf_laws_heldKeymap:PFun:=df_laws_heldKeymap.er
noncomputable def f_laws_heldKeymap:AFun:=pf_laws_heldKeymap.er
@[irreducible] noncomputable def s_laws_heldKeymap:CallSem:=funSem f_laws_heldKeymap
@[irreducible] noncomputable def p_laws_heldKeymap:PSem:=pfunSem pf_laws_heldKeymap
theorem sp_laws_heldKeymap:SoundP s_laws_heldKeymap p_laws_heldKeymap:=by unfold s_laws_heldKeymap p_laws_heldKeymap;exact pfun_sound (f:=pf_laws_heldKeymap) ⟨sp_laws_heldActionSS,trivial⟩
def h_laws_heldKeymap:List HT:=[.agg [(.frz,.int .i64),(.frz,.sl (.one (.sl rI4)))],.one .frz (.int .i64)]
def q_laws_heldKeymap:QT:=.one (.one .own (.int .i64))
@[irreducible] noncomputable def v_laws_heldKeymap(x:(Int×(List (List (Int×Int×Int×Int))))×Int):Int:=(shut fun x=>fnV df_laws_heldKeymap h_laws_heldKeymap q_laws_heldKeymap x).1 x
@[irreducible] noncomputable def ok_laws_heldKeymap(x:(Int×(List (List (Int×Int×Int×Int))))×Int):Prop:=(shut fun x=>fnOk df_laws_heldKeymap h_laws_heldKeymap q_laws_heldKeymap x).1 x
theorem vu_laws_heldKeymap (x):v_laws_heldKeymap x=fnV df_laws_heldKeymap h_laws_heldKeymap q_laws_heldKeymap x:=by unfold v_laws_heldKeymap;exact congrFun (shut _).2 x
theorem ou_laws_heldKeymap (x):ok_laws_heldKeymap x=fnOk df_laws_heldKeymap h_laws_heldKeymap q_laws_heldKeymap x:=by unfold ok_laws_heldKeymap;exact congrFun (shut _).2 x
noncomputable def D_laws_heldKeymap:DSem:=DSemOf h_laws_heldKeymap q_laws_heldKeymap ok_laws_heldKeymap v_laws_heldKeymap
theorem ck_laws_heldKeymap(x:(Int×(List (List (Int×Int×Int×Int))))×Int):fnChk df_laws_heldKeymap h_laws_heldKeymap q_laws_heldKeymap x=true:=by kernel_rfl
theorem ob_laws_heldKeymap:AllD df_laws_heldKeymap.body.obs:=⟨sd_laws_heldActionSS,trivial⟩
theorem st_laws_heldKeymap:fnSt df_laws_heldKeymap h_laws_heldKeymap q_laws_heldKeymap=true:=by kernel_rfl
theorem sd_laws_heldKeymap:SoundD p_laws_heldKeymap D_laws_heldKeymap:=by unfold p_laws_heldKeymap;exact soundD_of (f:=df_laws_heldKeymap) (hs:=h_laws_heldKeymap) (q:=q_laws_heldKeymap) ob_laws_heldKeymap st_laws_heldKeymap ck_laws_heldKeymap (fun x h=>Eq.mp (ou_laws_heldKeymap x) h) (fun x=>(vu_laws_heldKeymap x).symm)
end
section
set_option maxRecDepth 100000
theorem ve_laws_heldActionS (x):v_laws_heldActionS x=(bSel (iLt (loopV (fun(x0:(Int×Int))=>(bAnd (iLt x0.2 (lLen x.1)) (bAnd (bNot (iNe (lGet x.1 (iNat x0.2) (0,0,0,0)).1 x0.1)) (bAnd (bNot (iNe (lGet x.1 (iNat x0.2) (0,0,0,0)).2.1 (iAdd .i64 x0.1 1))) (bAnd (bNot (iNe (lGet x.1 (iNat x0.2) (0,0,0,0)).2.2.1 (iAdd .i64 (iAdd .i64 x0.1 1) 1))) (bNot (iNe (lGet x.1 (iNat x0.2) (0,0,0,0)).2.2.2 (iAdd .i64 (iAdd .i64 (iAdd .i64 x0.1 1) 1) 1)))))))) (fun(x0:(Int×Int))=>((iAdd .i64 (iAdd .i64 (iAdd .i64 (iAdd .i64 x0.1 1) 1) 1) 1),(iAdd .i64 x0.2 1))) (x.2,0)).2 (lLen x.1)) (bSel (iNe (lGet x.1 (iNat (loopV (fun(x0:(Int×Int))=>(bAnd (iLt x0.2 (lLen x.1)) (bAnd (bNot (iNe (lGet x.1 (iNat x0.2) (0,0,0,0)).1 x0.1)) (bAnd (bNot (iNe (lGet x.1 (iNat x0.2) (0,0,0,0)).2.1 (iAdd .i64 x0.1 1))) (bAnd (bNot (iNe (lGet x.1 (iNat x0.2) (0,0,0,0)).2.2.1 (iAdd .i64 (iAdd .i64 x0.1 1) 1))) (bNot (iNe (lGet x.1 (iNat x0.2) (0,0,0,0)).2.2.2 (iAdd .i64 (iAdd .i64 (iAdd .i64 x0.1 1) 1) 1)))))))) (fun(x0:(Int×Int))=>((iAdd .i64 (iAdd .i64 (iAdd .i64 (iAdd .i64 x0.1 1) 1) 1) 1),(iAdd .i64 x0.2 1))) (x.2,0)).2) (0,0,0,0)).1 (loopV (fun(x0:(Int×Int))=>(bAnd (iLt x0.2 (lLen x.1)) (bAnd (bNot (iNe (lGet x.1 (iNat x0.2) (0,0,0,0)).1 x0.1)) (bAnd (bNot (iNe (lGet x.1 (iNat x0.2) (0,0,0,0)).2.1 (iAdd .i64 x0.1 1))) (bAnd (bNot (iNe (lGet x.1 (iNat x0.2) (0,0,0,0)).2.2.1 (iAdd .i64 (iAdd .i64 x0.1 1) 1))) (bNot (iNe (lGet x.1 (iNat x0.2) (0,0,0,0)).2.2.2 (iAdd .i64 (iAdd .i64 (iAdd .i64 x0.1 1) 1) 1)))))))) (fun(x0:(Int×Int))=>((iAdd .i64 (iAdd .i64 (iAdd .i64 (iAdd .i64 x0.1 1) 1) 1) 1),(iAdd .i64 x0.2 1))) (x.2,0)).1) (-1) (bSel (iNe (lGet x.1 (iNat (loopV (fun(x0:(Int×Int))=>(bAnd (iLt x0.2 (lLen x.1)) (bAnd (bNot (iNe (lGet x.1 (iNat x0.2) (0,0,0,0)).1 x0.1)) (bAnd (bNot (iNe (lGet x.1 (iNat x0.2) (0,0,0,0)).2.1 (iAdd .i64 x0.1 1))) (bAnd (bNot (iNe (lGet x.1 (iNat x0.2) (0,0,0,0)).2.2.1 (iAdd .i64 (iAdd .i64 x0.1 1) 1))) (bNot (iNe (lGet x.1 (iNat x0.2) (0,0,0,0)).2.2.2 (iAdd .i64 (iAdd .i64 (iAdd .i64 x0.1 1) 1) 1)))))))) (fun(x0:(Int×Int))=>((iAdd .i64 (iAdd .i64 (iAdd .i64 (iAdd .i64 x0.1 1) 1) 1) 1),(iAdd .i64 x0.2 1))) (x.2,0)).2) (0,0,0,0)).2.1 (iAdd .i64 (loopV (fun(x0:(Int×Int))=>(bAnd (iLt x0.2 (lLen x.1)) (bAnd (bNot (iNe (lGet x.1 (iNat x0.2) (0,0,0,0)).1 x0.1)) (bAnd (bNot (iNe (lGet x.1 (iNat x0.2) (0,0,0,0)).2.1 (iAdd .i64 x0.1 1))) (bAnd (bNot (iNe (lGet x.1 (iNat x0.2) (0,0,0,0)).2.2.1 (iAdd .i64 (iAdd .i64 x0.1 1) 1))) (bNot (iNe (lGet x.1 (iNat x0.2) (0,0,0,0)).2.2.2 (iAdd .i64 (iAdd .i64 (iAdd .i64 x0.1 1) 1) 1)))))))) (fun(x0:(Int×Int))=>((iAdd .i64 (iAdd .i64 (iAdd .i64 (iAdd .i64 x0.1 1) 1) 1) 1),(iAdd .i64 x0.2 1))) (x.2,0)).1 1)) (-1) (bSel (iNe (lGet x.1 (iNat (loopV (fun(x0:(Int×Int))=>(bAnd (iLt x0.2 (lLen x.1)) (bAnd (bNot (iNe (lGet x.1 (iNat x0.2) (0,0,0,0)).1 x0.1)) (bAnd (bNot (iNe (lGet x.1 (iNat x0.2) (0,0,0,0)).2.1 (iAdd .i64 x0.1 1))) (bAnd (bNot (iNe (lGet x.1 (iNat x0.2) (0,0,0,0)).2.2.1 (iAdd .i64 (iAdd .i64 x0.1 1) 1))) (bNot (iNe (lGet x.1 (iNat x0.2) (0,0,0,0)).2.2.2 (iAdd .i64 (iAdd .i64 (iAdd .i64 x0.1 1) 1) 1)))))))) (fun(x0:(Int×Int))=>((iAdd .i64 (iAdd .i64 (iAdd .i64 (iAdd .i64 x0.1 1) 1) 1) 1),(iAdd .i64 x0.2 1))) (x.2,0)).2) (0,0,0,0)).2.2.1 (iAdd .i64 (iAdd .i64 (loopV (fun(x0:(Int×Int))=>(bAnd (iLt x0.2 (lLen x.1)) (bAnd (bNot (iNe (lGet x.1 (iNat x0.2) (0,0,0,0)).1 x0.1)) (bAnd (bNot (iNe (lGet x.1 (iNat x0.2) (0,0,0,0)).2.1 (iAdd .i64 x0.1 1))) (bAnd (bNot (iNe (lGet x.1 (iNat x0.2) (0,0,0,0)).2.2.1 (iAdd .i64 (iAdd .i64 x0.1 1) 1))) (bNot (iNe (lGet x.1 (iNat x0.2) (0,0,0,0)).2.2.2 (iAdd .i64 (iAdd .i64 (iAdd .i64 x0.1 1) 1) 1)))))))) (fun(x0:(Int×Int))=>((iAdd .i64 (iAdd .i64 (iAdd .i64 (iAdd .i64 x0.1 1) 1) 1) 1),(iAdd .i64 x0.2 1))) (x.2,0)).1 1) 1)) (-1) (-1)))) (loopV (fun(x0:(Int×Int))=>(bAnd (iLt x0.2 (lLen x.1)) (bAnd (bNot (iNe (lGet x.1 (iNat x0.2) (0,0,0,0)).1 x0.1)) (bAnd (bNot (iNe (lGet x.1 (iNat x0.2) (0,0,0,0)).2.1 (iAdd .i64 x0.1 1))) (bAnd (bNot (iNe (lGet x.1 (iNat x0.2) (0,0,0,0)).2.2.1 (iAdd .i64 (iAdd .i64 x0.1 1) 1))) (bNot (iNe (lGet x.1 (iNat x0.2) (0,0,0,0)).2.2.2 (iAdd .i64 (iAdd .i64 (iAdd .i64 x0.1 1) 1) 1)))))))) (fun(x0:(Int×Int))=>((iAdd .i64 (iAdd .i64 (iAdd .i64 (iAdd .i64 x0.1 1) 1) 1) 1),(iAdd .i64 x0.2 1))) (x.2,0)).1):=(vu_laws_heldActionS x).trans (by kernel_rfl)
theorem oe_laws_heldActionS (x):ok_laws_heldActionS x=(LoopOk (fun(x0:(Int×Int))=>(bAnd (iLt x0.2 (lLen x.1)) (bAnd (bNot (iNe (lGet x.1 (iNat x0.2) (0,0,0,0)).1 x0.1)) (bAnd (bNot (iNe (lGet x.1 (iNat x0.2) (0,0,0,0)).2.1 (iAdd .i64 x0.1 1))) (bAnd (bNot (iNe (lGet x.1 (iNat x0.2) (0,0,0,0)).2.2.1 (iAdd .i64 (iAdd .i64 x0.1 1) 1))) (bNot (iNe (lGet x.1 (iNat x0.2) (0,0,0,0)).2.2.2 (iAdd .i64 (iAdd .i64 (iAdd .i64 x0.1 1) 1) 1)))))))) (fun(x0:(Int×Int))=>((iAdd .i64 (iAdd .i64 (iAdd .i64 (iAdd .i64 x0.1 1) 1) 1) 1),(iAdd .i64 x0.2 1))) (fun(x0:(Int×Int))=>(((iLt x0.2 (lLen x.1))=true→((((0:Int)≤x0.2)∧(x0.2<(((List.length x.1):Int))))∧(((iNat x0.2)<(List.length x.1))∧(((iNe (lGet x.1 (iNat x0.2) (0,0,0,0)).1 x0.1)=true→True)∧((iNe (lGet x.1 (iNat x0.2) (0,0,0,0)).1 x0.1)=false→((((0:Int)≤x0.2)∧(x0.2<(((List.length x.1):Int))))∧(((iNat x0.2)<(List.length x.1))∧(((iNe (lGet x.1 (iNat x0.2) (0,0,0,0)).2.1 (iAdd .i64 x0.1 1))=true→True)∧((iNe (lGet x.1 (iNat x0.2) (0,0,0,0)).2.1 (iAdd .i64 x0.1 1))=false→((((0:Int)≤x0.2)∧(x0.2<(((List.length x.1):Int))))∧(((iNat x0.2)<(List.length x.1))∧(((iNe (lGet x.1 (iNat x0.2) (0,0,0,0)).2.2.1 (iAdd .i64 (iAdd .i64 x0.1 1) 1))=true→True)∧((iNe (lGet x.1 (iNat x0.2) (0,0,0,0)).2.2.1 (iAdd .i64 (iAdd .i64 x0.1 1) 1))=false→((((0:Int)≤x0.2)∧(x0.2<(((List.length x.1):Int))))∧((iNat x0.2)<(List.length x.1))))))))))))))))∧((iLt x0.2 (lLen x.1))=false→True))) (x.2,0)):=(ou_laws_heldActionS x).trans (by kernel_rfl)
theorem ve_laws_heldActionSS (x):v_laws_heldActionSS x=(bSel (iLt (loopV (fun(x0:(Int×Int))=>(bAnd (iLt x0.2 (lLen x.1)) (bNot (iLt (v_laws_heldActionS ((lGet x.1 (iNat x0.2) []),x0.1)) 0)))) (fun(x0:(Int×Int))=>((v_laws_heldActionS ((lGet x.1 (iNat x0.2) []),x0.1)),(iAdd .i64 x0.2 1))) (x.2,0)).2 (lLen x.1)) (-1) (loopV (fun(x0:(Int×Int))=>(bAnd (iLt x0.2 (lLen x.1)) (bNot (iLt (v_laws_heldActionS ((lGet x.1 (iNat x0.2) []),x0.1)) 0)))) (fun(x0:(Int×Int))=>((v_laws_heldActionS ((lGet x.1 (iNat x0.2) []),x0.1)),(iAdd .i64 x0.2 1))) (x.2,0)).1):=(vu_laws_heldActionSS x).trans (by kernel_rfl)
theorem oe_laws_heldActionSS (x):ok_laws_heldActionSS x=(LoopOk (fun(x0:(Int×Int))=>(bAnd (iLt x0.2 (lLen x.1)) (bNot (iLt (v_laws_heldActionS ((lGet x.1 (iNat x0.2) []),x0.1)) 0)))) (fun(x0:(Int×Int))=>((v_laws_heldActionS ((lGet x.1 (iNat x0.2) []),x0.1)),(iAdd .i64 x0.2 1))) (fun(x0:(Int×Int))=>(((iLt x0.2 (lLen x.1))=true→((((0:Int)≤x0.2)∧(x0.2<(((List.length x.1):Int))))∧(((iNat x0.2)<(List.length x.1))∧(ok_laws_heldActionS ((lGet x.1 (iNat x0.2) []),x0.1)))))∧((iLt x0.2 (lLen x.1))=false→True))) (x.2,0)):=(ou_laws_heldActionSS x).trans (by kernel_rfl)
theorem ve_laws_heldKeymap (x):v_laws_heldKeymap x=(bSel (iLt (v_laws_heldActionSS (x.1.2,x.2)) 0) (-1) (v_laws_heldActionSS (x.1.2,x.2))):=(vu_laws_heldKeymap x).trans (by kernel_rfl)
theorem oe_laws_heldKeymap (x):ok_laws_heldKeymap x=(ok_laws_heldActionSS (x.1.2,x.2)):=(ou_laws_heldKeymap x).trans (by kernel_rfl)
end
section
set_option maxRecDepth 20000
def mi_ActionS(a:Int×Int×Int×Int)(k:Int):(Int×Int×Int×Int)×Int:=((k,(IntKind.i64.wrap (k+1)),(IntKind.i64.wrap ((IntKind.i64.wrap (k+1))+1)),(IntKind.i64.wrap ((IntKind.i64.wrap ((IntKind.i64.wrap (k+1))+1))+1))),(IntKind.i64.wrap ((IntKind.i64.wrap ((IntKind.i64.wrap ((IntKind.i64.wrap (k+1))+1))+1))+1)))
theorem mh_ActionS(x:List (Int×Int×Int×Int))(h:sm_ActionS x)(m:Int)(h0:0≤m)(h1:m+4194304≤2305843009213693952):mok_laws_markActionS x∧(m≤(mg_laws_markActionS x m).2∧(mg_laws_markActionS x m).2≤m+4194304)∧ok_laws_heldActionS ((mg_laws_markActionS x m).1,m)∧v_laws_heldActionS ((mg_laws_markActionS x m).1,m)=(mg_laws_markActionS x m).2:=by
 have hl:x.length≤1048576:=h.1
 have hU:UpF mi_ActionS x 4:=by
  intro a ha k k0 k1
  have e0:IntKind.i64.wrap (k+1)=k+1:=wrapP (by omega) (by omega)
  have e1:IntKind.i64.wrap ((k+1)+1)=(k+1)+1:=wrapP (by omega) (by omega)
  have e2:IntKind.i64.wrap (((k+1)+1)+1)=((k+1)+1)+1:=wrapP (by omega) (by omega)
  have e3:IntKind.i64.wrap ((((k+1)+1)+1)+1)=(((k+1)+1)+1)+1:=wrapP (by omega) (by omega)
  have ee:(mi_ActionS a k).2=((((k+1)+1)+1)+1):=by simp only[mi_ActionS,e0,e1,e2,e3]
  rw[ee]
  omega
 have hB:x.length*4≤4194304:=mul_lim hl (by decide)
 have up:=mkL_up (m:=m) hU h0 (by omega)
 have hmg:mg_laws_markActionS x m=mkL mi_ActionS x m:=by unfold mi_ActionS;rw[mgu_laws_markActionS];rfl
 rw[hmg]
 have hL:=mkL_len mi_ActionS x m
 have hg:∀ i,i<x.length→(mkL mi_ActionS x m).1.getD i (0,0,0,0)=(mi_ActionS (x.getD i (0,0,0,0)) (mkPre mi_ActionS x m i).2).1:=fun i hi=>mkL_getD _ _ _ hi _
 have hok:mok_laws_markActionS x:=by rw[mou_laws_markActionS];exact⟨Nat.le_trans h.1 (by decide),fun a ha=>⟨trivial,trivial,trivial,trivial⟩⟩
 rw[oe_laws_heldActionS,ve_laws_heldActionS]
 dsimp only
 generalize (mkL mi_ActionS x m).1=L at hL hg ⊢
 have key:LoopOk (fun(x0:(Int×Int))=>(bAnd (iLt x0.2 (lLen L)) (bAnd (bNot (iNe (lGet L (iNat x0.2) (0,0,0,0)).1 x0.1)) (bAnd (bNot (iNe (lGet L (iNat x0.2) (0,0,0,0)).2.1 (iAdd .i64 x0.1 1))) (bAnd (bNot (iNe (lGet L (iNat x0.2) (0,0,0,0)).2.2.1 (iAdd .i64 (iAdd .i64 x0.1 1) 1))) (bNot (iNe (lGet L (iNat x0.2) (0,0,0,0)).2.2.2 (iAdd .i64 (iAdd .i64 (iAdd .i64 x0.1 1) 1) 1)))))))) (fun(x0:(Int×Int))=>((iAdd .i64 (iAdd .i64 (iAdd .i64 (iAdd .i64 x0.1 1) 1) 1) 1),(iAdd .i64 x0.2 1))) (fun(x0:(Int×Int))=>(((iLt x0.2 (lLen L))=true→((((0:Int)≤x0.2)∧(x0.2<(((List.length L):Int))))∧(((iNat x0.2)<(List.length L))∧(((iNe (lGet L (iNat x0.2) (0,0,0,0)).1 x0.1)=true→True)∧((iNe (lGet L (iNat x0.2) (0,0,0,0)).1 x0.1)=false→((((0:Int)≤x0.2)∧(x0.2<(((List.length L):Int))))∧(((iNat x0.2)<(List.length L))∧(((iNe (lGet L (iNat x0.2) (0,0,0,0)).2.1 (iAdd .i64 x0.1 1))=true→True)∧((iNe (lGet L (iNat x0.2) (0,0,0,0)).2.1 (iAdd .i64 x0.1 1))=false→((((0:Int)≤x0.2)∧(x0.2<(((List.length L):Int))))∧(((iNat x0.2)<(List.length L))∧(((iNe (lGet L (iNat x0.2) (0,0,0,0)).2.2.1 (iAdd .i64 (iAdd .i64 x0.1 1) 1))=true→True)∧((iNe (lGet L (iNat x0.2) (0,0,0,0)).2.2.1 (iAdd .i64 (iAdd .i64 x0.1 1) 1))=false→((((0:Int)≤x0.2)∧(x0.2<(((List.length L):Int))))∧((iNat x0.2)<(List.length L))))))))))))))))∧((iLt x0.2 (lLen L))=false→True))) (m,0)∧loopV (fun(x0:(Int×Int))=>(bAnd (iLt x0.2 (lLen L)) (bAnd (bNot (iNe (lGet L (iNat x0.2) (0,0,0,0)).1 x0.1)) (bAnd (bNot (iNe (lGet L (iNat x0.2) (0,0,0,0)).2.1 (iAdd .i64 x0.1 1))) (bAnd (bNot (iNe (lGet L (iNat x0.2) (0,0,0,0)).2.2.1 (iAdd .i64 (iAdd .i64 x0.1 1) 1))) (bNot (iNe (lGet L (iNat x0.2) (0,0,0,0)).2.2.2 (iAdd .i64 (iAdd .i64 (iAdd .i64 x0.1 1) 1) 1)))))))) (fun(x0:(Int×Int))=>((iAdd .i64 (iAdd .i64 (iAdd .i64 (iAdd .i64 x0.1 1) 1) 1) 1),(iAdd .i64 x0.2 1))) (m,0)=((mkL mi_ActionS x m).2,(x.length:Int)):=by
  refine held_loop hl (0,0,0,0) (fun i hi=>?_) ?_
  · obtain⟨b1,b2⟩:=mkPre_up (m:=m) hU h0 (by omega) (0,0,0,0) i (by omega)
    have bm:i*4+4≤x.length*4:=mul_step hi
    have g:=hg i hi
    have hlt:(i:Int)<(L.length:Int):=by omega
    have hlN:i<L.length:=by omega
    have ha:=getD_mem x i (0,0,0,0) hi
    generalize (mkPre mi_ActionS x m i).2=k at b1 b2 g ⊢
    generalize x.getD i (0,0,0,0)=a at g ha ⊢
    have e0:IntKind.i64.wrap (k+1)=k+1:=wrapP (by omega) (by omega)
    have e1:IntKind.i64.wrap ((k+1)+1)=(k+1)+1:=wrapP (by omega) (by omega)
    have e2:IntKind.i64.wrap (((k+1)+1)+1)=((k+1)+1)+1:=wrapP (by omega) (by omega)
    have e3:IntKind.i64.wrap ((((k+1)+1)+1)+1)=(((k+1)+1)+1)+1:=wrapP (by omega) (by omega)
    simp only[lGet_eq,iNat_eq,lLen_eq,Int.toNat_natCast,iAdd_def,iConv_def,iNe_eq,iLt_eq,iEq_eq,iRem_def,bAnd_eq,bNot_eq,bIff_eq,g,mi_ActionS,e0,e1,e2,e3]
    simp[hlt,hlN]
  · simp[iLt_eq,lLen_eq,hL,bAnd_eq]
 refine⟨hok,⟨up.1,by omega⟩,key.1,?_⟩
 simp only[key.2]
 simp[bSel_eq,iLt_eq,lLen_eq,hL]
noncomputable def mi_ActionSS(a:List (Int×Int×Int×Int))(k:Int):(List (Int×Int×Int×Int))×Int:=((mg_laws_markActionS a k).1,(mg_laws_markActionS a k).2)
theorem mh_ActionSS(x:List (List (Int×Int×Int×Int)))(h:sm_ActionSS x)(m:Int)(h0:0≤m)(h1:m+4398046511104≤2305843009213693952):mok_laws_markActionSS x∧(m≤(mg_laws_markActionSS x m).2∧(mg_laws_markActionSS x m).2≤m+4398046511104)∧ok_laws_heldActionSS ((mg_laws_markActionSS x m).1,m)∧v_laws_heldActionSS ((mg_laws_markActionSS x m).1,m)=(mg_laws_markActionSS x m).2:=by
 have hl:x.length≤1048576:=h.1
 have hU:UpF mi_ActionSS x 4194304:=by
  intro a ha k k0 k1
  obtain⟨_,⟨p0,q0⟩,y0,z0⟩:=mh_ActionS a (h.2 a ha) k (by omega) (by omega)
  have t0:¬ (mg_laws_markActionS a k).2<0:=by omega
  have ee:(mi_ActionSS a k).2=(mg_laws_markActionS a k).2:=by simp only[mi_ActionSS]
  rw[ee]
  omega
 have hB:x.length*4194304≤4398046511104:=mul_lim hl (by decide)
 have up:=mkL_up (m:=m) hU h0 (by omega)
 have hmg:mg_laws_markActionSS x m=mkL mi_ActionSS x m:=by unfold mi_ActionSS;rw[mgu_laws_markActionSS,mgu_laws_markActionS];rfl
 rw[hmg]
 have hL:=mkL_len mi_ActionSS x m
 have hg:∀ i,i<x.length→(mkL mi_ActionSS x m).1.getD i []=(mi_ActionSS (x.getD i []) (mkPre mi_ActionSS x m i).2).1:=fun i hi=>mkL_getD _ _ _ hi _
 have hok:mok_laws_markActionSS x:=by rw[mou_laws_markActionSS];exact⟨Nat.le_trans h.1 (by decide),fun a ha=>⟨Nat.le_trans (h.2 a ha).1 (by decide),fun a ha=>⟨trivial,trivial,trivial,trivial⟩⟩⟩
 rw[oe_laws_heldActionSS,ve_laws_heldActionSS]
 dsimp only
 generalize (mkL mi_ActionSS x m).1=L at hL hg ⊢
 have key:LoopOk (fun(x0:(Int×Int))=>(bAnd (iLt x0.2 (lLen L)) (bNot (iLt (v_laws_heldActionS ((lGet L (iNat x0.2) []),x0.1)) 0)))) (fun(x0:(Int×Int))=>((v_laws_heldActionS ((lGet L (iNat x0.2) []),x0.1)),(iAdd .i64 x0.2 1))) (fun(x0:(Int×Int))=>(((iLt x0.2 (lLen L))=true→((((0:Int)≤x0.2)∧(x0.2<(((List.length L):Int))))∧(((iNat x0.2)<(List.length L))∧(ok_laws_heldActionS ((lGet L (iNat x0.2) []),x0.1)))))∧((iLt x0.2 (lLen L))=false→True))) (m,0)∧loopV (fun(x0:(Int×Int))=>(bAnd (iLt x0.2 (lLen L)) (bNot (iLt (v_laws_heldActionS ((lGet L (iNat x0.2) []),x0.1)) 0)))) (fun(x0:(Int×Int))=>((v_laws_heldActionS ((lGet L (iNat x0.2) []),x0.1)),(iAdd .i64 x0.2 1))) (m,0)=((mkL mi_ActionSS x m).2,(x.length:Int)):=by
  refine held_loop hl [] (fun i hi=>?_) ?_
  · obtain⟨b1,b2⟩:=mkPre_up (m:=m) hU h0 (by omega) [] i (by omega)
    have bm:i*4194304+4194304≤x.length*4194304:=mul_step hi
    have g:=hg i hi
    have hlt:(i:Int)<(L.length:Int):=by omega
    have hlN:i<L.length:=by omega
    have ha:=getD_mem x i [] hi
    generalize (mkPre mi_ActionSS x m i).2=k at b1 b2 g ⊢
    generalize x.getD i []=a at g ha ⊢
    obtain⟨_,⟨p0,q0⟩,y0,z0⟩:=mh_ActionS a (h.2 a ha) k (by omega) (by omega)
    have t0:¬ (mg_laws_markActionS a k).2<0:=by omega
    simp only[lGet_eq,iNat_eq,lLen_eq,Int.toNat_natCast,iAdd_def,iConv_def,iNe_eq,iLt_eq,iEq_eq,iRem_def,bAnd_eq,bNot_eq,bIff_eq,g,mi_ActionSS,y0,z0,t0]
    simp[hlt,hlN,y0,z0,t0]
  · simp[iLt_eq,lLen_eq,hL,bAnd_eq]
 refine⟨hok,⟨up.1,by omega⟩,key.1,?_⟩
 simp only[key.2]
 simp[bSel_eq,iLt_eq,lLen_eq,hL]
theorem mh_Keymap(x:Int×(List (List (Int×Int×Int×Int))))(h:sm_Keymap x)(m:Int)(h0:0≤m)(h1:m+4398046511104≤2305843009213693952):mok_laws_markKeymap x∧(m≤(mg_laws_markKeymap x m).2∧(mg_laws_markKeymap x m).2≤m+4398046511104)∧ok_laws_heldKeymap ((x.1,(mg_laws_markKeymap x m).1.2),m)∧v_laws_heldKeymap ((x.1,(mg_laws_markKeymap x m).1.2),m)=(mg_laws_markKeymap x m).2:=by
 unfold sm_Keymap at h
 obtain⟨k0,⟨p0,q0⟩,y0,z0⟩:=mh_ActionSS x.2 h.1 m (by omega) (by omega)
 have t0:¬ (mg_laws_markActionSS x.2 m).2<0:=by omega
 have e:mg_laws_markKeymap x m=((x.1,(mg_laws_markActionSS x.2 m).1),(mg_laws_markActionSS x.2 m).2):=by rw[mgu_laws_markKeymap,mgu_laws_markActionSS];rfl
 have hok:mok_laws_markKeymap x:=by rw[mou_laws_markKeymap];exact⟨trivial,⟨Nat.le_trans h.1.1 (by decide),fun a ha=>⟨Nat.le_trans (h.1.2 a ha).1 (by decide),fun a ha=>⟨trivial,trivial,trivial,trivial⟩⟩⟩⟩
 rw[e]
 refine⟨hok,⟨by simp only;omega,by simp only;omega⟩,?_,?_⟩
 · rw[oe_laws_heldKeymap];simp[iLt_eq,bSel_eq,y0,z0,t0]
 · rw[ve_laws_heldKeymap];simp[iLt_eq,bSel_eq,y0,z0,t0]
end
section
set_option maxRecDepth 8000
noncomputable def dc_spec_l6Copy:DCode:=
 (.seq [2,1] (.region [oa 0 1 (.boxB 0 2 (.t 0)),
 oa 1 2 (.allocB 1 [(.int .i64 0),.nils])])
  (.seq [3,2,1] (.region [oa 0 5 (.fieldA 0 (.t 1)),
 ob 1 6 (.loadB 0 none (.t 5)),
 oa 2 7 (.build [(.int .i64 0),.nils] [(0,1,(.t 6))]),
 oa 3 3 (.allocB 2 [(.int .i64 0),.nils]),
 os 4 (.storeB 2 2 (.t 3) (.t 7))])
  (.seq [3,2] (.seq [4,3,2,1] (.region [oi 0 4 0])
  (.block 0 (.loop [1,2,3,4] 1 (.seq [4,3,2,1] (.seq [12,4,3,2,1] (.region [om 0 8 4,
 oa 1 9 (.fieldA 1 (.t 1)),
 oa 2 10 (.loadB 0 none (.t 9)),
 oa 3 11 (.len (.t 10)),
 oa 4 12 (.bin .lss (.t 8) (.t 11))])
  (.cond (.t 12) .skip (.exit 0)))
  (.seq [4,3,2,1] (.block 1 (.region [oa 0 15 (.fieldA 1 (.t 3)),
 xB 1 16 (.loadB 2 none (.t 15)) (rg 1),
 oa 3 18 (.fieldA 1 (.t 1)),
 xA 4 19 (.loadB 0 none (.t 18)) [3],
 om 5 20 4,
 xA 6 21 (.indexA 1 (.t 19) (.t 20)) [3,4,5],
 xA 7 22 (.loadH none (.t 21)) [3,4,5,6],
 ⟨2,some 17,.a false (.litSlice 4 0 [] []) (some rI4),none,[]⟩,
 xA 8 23 (.app 4 (.t 17) (.t 22)) [2,3,4,5,6,7],
 ⟨9,some 24,.a false (.litSlice 1 1 [.nils] [(0,1,(.t 23))]) (some (.one (.sl rI4))),none,[2,3,4,5,6,7,8]⟩,
 xA 10 25 (.app 1 (.t 16) (.t 24)) (rg 10),
 xA 11 26 (.fieldA 1 (.t 3)) (rg 11),
 xS 12 (.storeB 2 1 (.t 26) (.t 25)) (rg 12)]))
  (.region [om 0 13 4,
 oa 1 14 (.bin .add (.t 13) (.c (.int .i64 1))),
 om 2 4 14]))))))
  (.seq [2] (.region [ob 0 27 (.loadB 2 (some 2) (.t 3)),
 os 1 (.storeB 1 2 (.t 2) (.t 27))])
  .ret))))
noncomputable def df_spec_l6Copy:DFun:=⟨1,28,3,false,[.cell 2 (some 2)],dc_spec_l6Copy⟩
noncomputable def pf_spec_l6Copy:PFun:=df_spec_l6Copy.er
noncomputable def f_spec_l6Copy:AFun:=pf_spec_l6Copy.er
@[irreducible] noncomputable def s_spec_l6Copy:CallSem:=funSem f_spec_l6Copy
@[irreducible] noncomputable def p_spec_l6Copy:PSem:=pfunSem pf_spec_l6Copy
theorem sp_spec_l6Copy:SoundP s_spec_l6Copy p_spec_l6Copy:=by unfold s_spec_l6Copy p_spec_l6Copy;exact pfun_sound (f:=pf_spec_l6Copy) trivial
def h_spec_l6Copy:List HT:=[.agg [(.frz,.int .i64),(.frz,.sl (.one (.sl rI4)))]]
def q_spec_l6Copy:QT:=.one (.agg [(.own,.int .i64),(.own,.sl (.one (.sl rI4)))])
@[irreducible] noncomputable def v_spec_l6Copy(x:Int×(List (List (Int×Int×Int×Int)))):Int×(List (List (Int×Int×Int×Int))):=(shut fun x=>fnV df_spec_l6Copy h_spec_l6Copy q_spec_l6Copy x).1 x
@[irreducible] noncomputable def ok_spec_l6Copy(x:Int×(List (List (Int×Int×Int×Int)))):Prop:=(shut fun x=>fnOk df_spec_l6Copy h_spec_l6Copy q_spec_l6Copy x).1 x
theorem vu_spec_l6Copy (x):v_spec_l6Copy x=fnV df_spec_l6Copy h_spec_l6Copy q_spec_l6Copy x:=by unfold v_spec_l6Copy;exact congrFun (shut _).2 x
theorem ou_spec_l6Copy (x):ok_spec_l6Copy x=fnOk df_spec_l6Copy h_spec_l6Copy q_spec_l6Copy x:=by unfold ok_spec_l6Copy;exact congrFun (shut _).2 x
noncomputable def D_spec_l6Copy:DSem:=DSemOf h_spec_l6Copy q_spec_l6Copy ok_spec_l6Copy v_spec_l6Copy
theorem ck_spec_l6Copy(x:Int×(List (List (Int×Int×Int×Int)))):fnChk df_spec_l6Copy h_spec_l6Copy q_spec_l6Copy x=true:=by kernel_rfl
theorem ob_spec_l6Copy:AllD df_spec_l6Copy.body.obs:=trivial
theorem st_spec_l6Copy:fnSt df_spec_l6Copy h_spec_l6Copy q_spec_l6Copy=true:=by kernel_rfl
theorem sd_spec_l6Copy:SoundD p_spec_l6Copy D_spec_l6Copy:=by unfold p_spec_l6Copy;exact soundD_of (f:=df_spec_l6Copy) (hs:=h_spec_l6Copy) (q:=q_spec_l6Copy) ob_spec_l6Copy st_spec_l6Copy ck_spec_l6Copy (fun x h=>Eq.mp (ou_spec_l6Copy x) h) (fun x=>(vu_spec_l6Copy x).symm)
noncomputable def dc_impl_copyKeymap:DCode:=
 (.seq [2,1] (.region [oa 0 1 (.boxB 0 2 (.t 0)),
 oa 1 2 (.allocB 1 [(.int .i64 0),.nils])])
  (.seq [3,2,1] (.region [oa 0 6 (.fieldA 0 (.t 1)),
 ob 1 7 (.loadB 0 none (.t 6)),
 oa 2 8 (.build [(.int .i64 0),.nils] [(0,1,(.t 7))]),
 oa 3 3 (.allocB 2 [(.int .i64 0),.nils]),
 os 4 (.storeB 2 2 (.t 3) (.t 8))])
  (.seq [3,2] (.seq [12,11,10,3,2] (.region [oa 0 9 (.fieldA 1 (.t 1)),
 oa 1 10 (.loadB 0 none (.t 9)),
 oa 2 11 (.len (.t 10)),
 oi 3 12 0])
  (.block 0 (.loop [2,3,10,11,12] 1 (.seq [13,12,11,10,3,2] (.region [oa 0 13 (.bin .lss (.t 12) (.t 11))])
  (.seq [12,11,10,3,2] (.cond (.t 13) .skip (.exit 0))
  (.seq [12,11,10,3,2] (.block 1 (.seq [12,11,10,5,3,2] (.region [oa 0 14 (.indexA 1 (.t 10) (.t 12)),
 oa 1 15 (.loadH none (.t 14)),
 on 2 5 15])
  (.region [oa 0 16 (.fieldA 1 (.t 3)),
 xB 1 17 (.loadB 2 none (.t 16)) (rg 1),
 on 2 18 5,
 xA 3 19 (.app 4 (.c .nils) (.t 18)) [2],
 ⟨4,some 20,.a false (.litSlice 1 1 [.nils] [(0,1,(.t 19))]) (some (.one (.sl rI4))),none,[2,3]⟩,
 xA 5 21 (.app 1 (.t 17) (.t 20)) (rg 5),
 xA 6 22 (.fieldA 1 (.t 3)) (rg 6),
 xS 7 (.storeB 2 1 (.t 22) (.t 21)) (rg 7)])))
  (.region [oa 0 23 (.bin .add (.t 12) (.c (.int .i64 1))),
 om 1 12 23])))))))
  (.seq [2] (.region [ob 0 24 (.loadB 2 (some 2) (.t 3)),
 os 1 (.storeB 1 2 (.t 2) (.t 24))])
  .ret))))
noncomputable def df_impl_copyKeymap:DFun:=⟨1,25,3,false,[.cell 2 (some 2)],dc_impl_copyKeymap⟩
noncomputable def pf_impl_copyKeymap:PFun:=df_impl_copyKeymap.er
noncomputable def f_impl_copyKeymap:AFun:=pf_impl_copyKeymap.er
@[irreducible] noncomputable def s_impl_copyKeymap:CallSem:=funSem f_impl_copyKeymap
@[irreducible] noncomputable def p_impl_copyKeymap:PSem:=pfunSem pf_impl_copyKeymap
theorem sp_impl_copyKeymap:SoundP s_impl_copyKeymap p_impl_copyKeymap:=by unfold s_impl_copyKeymap p_impl_copyKeymap;exact pfun_sound (f:=pf_impl_copyKeymap) trivial
def h_impl_copyKeymap:List HT:=[.agg [(.frz,.int .i64),(.frz,.sl (.one (.sl rI4)))]]
def q_impl_copyKeymap:QT:=.one (.agg [(.own,.int .i64),(.own,.sl (.one (.sl rI4)))])
@[irreducible] noncomputable def v_impl_copyKeymap(x:Int×(List (List (Int×Int×Int×Int)))):Int×(List (List (Int×Int×Int×Int))):=(shut fun x=>fnV df_impl_copyKeymap h_impl_copyKeymap q_impl_copyKeymap x).1 x
@[irreducible] noncomputable def ok_impl_copyKeymap(x:Int×(List (List (Int×Int×Int×Int)))):Prop:=(shut fun x=>fnOk df_impl_copyKeymap h_impl_copyKeymap q_impl_copyKeymap x).1 x
theorem vu_impl_copyKeymap (x):v_impl_copyKeymap x=fnV df_impl_copyKeymap h_impl_copyKeymap q_impl_copyKeymap x:=by unfold v_impl_copyKeymap;exact congrFun (shut _).2 x
theorem ou_impl_copyKeymap (x):ok_impl_copyKeymap x=fnOk df_impl_copyKeymap h_impl_copyKeymap q_impl_copyKeymap x:=by unfold ok_impl_copyKeymap;exact congrFun (shut _).2 x
noncomputable def D_impl_copyKeymap:DSem:=DSemOf h_impl_copyKeymap q_impl_copyKeymap ok_impl_copyKeymap v_impl_copyKeymap
theorem ck_impl_copyKeymap(x:Int×(List (List (Int×Int×Int×Int)))):fnChk df_impl_copyKeymap h_impl_copyKeymap q_impl_copyKeymap x=true:=by kernel_rfl
theorem ob_impl_copyKeymap:AllD df_impl_copyKeymap.body.obs:=trivial
theorem st_impl_copyKeymap:fnSt df_impl_copyKeymap h_impl_copyKeymap q_impl_copyKeymap=true:=by kernel_rfl
theorem sd_impl_copyKeymap:SoundD p_impl_copyKeymap D_impl_copyKeymap:=by unfold p_impl_copyKeymap;exact soundD_of (f:=df_impl_copyKeymap) (hs:=h_impl_copyKeymap) (q:=q_impl_copyKeymap) ob_impl_copyKeymap st_impl_copyKeymap ck_impl_copyKeymap (fun x h=>Eq.mp (ou_impl_copyKeymap x) h) (fun x=>(vu_impl_copyKeymap x).symm)
end
section
set_option maxRecDepth 100000
noncomputable def lc_spec_l6Copy_1(x:Int×(List (List (Int×Int×Int×Int))))(x0:(Int×(List (List (Int×(Int×(Int×Int))))))):Bool:=(iLt x0.1 (lLen x.2))
noncomputable def lf_spec_l6Copy_1(x:Int×(List (List (Int×Int×Int×Int))))(x0:(Int×(List (List (Int×(Int×(Int×Int))))))):(Int×(List (List (Int×(Int×(Int×Int)))))):=((iAdd .i64 x0.1 1),(lApp x0.2 [(lApp [] (lGet x.2 (iNat x0.1) []))]))
noncomputable def lp_spec_l6Copy_1(x:Int×(List (List (Int×Int×Int×Int))))(x0:(Int×(List (List (Int×(Int×(Int×Int))))))):Prop:=(((iLt x0.1 (lLen x.2))=true→((((0:Int)≤x0.1)∧(x0.1<(((List.length x.2):Int))))∧(((iNat x0.1)<(List.length x.2))∧((roomy (((List.length ([]:List (Int×(Int×(Int×Int)))))+(List.length (lGet x.2 (iNat x0.1) [])))*4))∧(roomy (((List.length x0.2)+(List.length [(lApp [] (lGet x.2 (iNat x0.1) []))]))*1))))))∧((iLt x0.1 (lLen x.2))=false→True))
theorem ve_spec_l6Copy (x):v_spec_l6Copy x=(x.1,(loopV (lc_spec_l6Copy_1 x) (lf_spec_l6Copy_1 x) (0,[])).2):=(vu_spec_l6Copy x).trans (by kernel_rfl)
theorem oe_spec_l6Copy (x):ok_spec_l6Copy x=(LoopOk (lc_spec_l6Copy_1 x) (lf_spec_l6Copy_1 x) (lp_spec_l6Copy_1 x) (0,[])):=(ou_spec_l6Copy x).trans (by kernel_rfl)
noncomputable def lc_impl_copyKeymap_1(x:Int×(List (List (Int×Int×Int×Int))))(x0:(Int×(List (List (Int×(Int×(Int×Int))))))):Bool:=(iLt x0.1 (lLen x.2))
noncomputable def lf_impl_copyKeymap_1(x:Int×(List (List (Int×Int×Int×Int))))(x0:(Int×(List (List (Int×(Int×(Int×Int))))))):(Int×(List (List (Int×(Int×(Int×Int)))))):=((iAdd .i64 x0.1 1),(lApp x0.2 [(lGet x.2 (iNat x0.1) [])]))
noncomputable def lp_impl_copyKeymap_1(x:Int×(List (List (Int×Int×Int×Int))))(x0:(Int×(List (List (Int×(Int×(Int×Int))))))):Prop:=(((iLt x0.1 (lLen x.2))=true→((((0:Int)≤x0.1)∧(x0.1<(((List.length x.2):Int))))∧(((iNat x0.1)<(List.length x.2))∧((roomy ((List.length (lGet x.2 (iNat x0.1) []))*4))∧(roomy (((List.length x0.2)+(List.length [(lGet x.2 (iNat x0.1) [])]))*1))))))∧((iLt x0.1 (lLen x.2))=false→True))
theorem ve_impl_copyKeymap (x):v_impl_copyKeymap x=(x.1,(loopV (lc_impl_copyKeymap_1 x) (lf_impl_copyKeymap_1 x) (0,[])).2):=(vu_impl_copyKeymap x).trans (by kernel_rfl)
theorem oe_impl_copyKeymap (x):ok_impl_copyKeymap x=(LoopOk (lc_impl_copyKeymap_1 x) (lf_impl_copyKeymap_1 x) (lp_impl_copyKeymap_1 x) (0,[])):=(ou_impl_copyKeymap x).trans (by kernel_rfl)
end
section
set_option maxRecDepth 8000
noncomputable def dc_spec_IsEngine:DCode:=
 (.seq [1] (.region [oa 0 1 (.boxB 0 7 (.t 0)),
 oa 1 2 (.mv (.c (.bool false)))])
  (.seq [1] (.seq [20,1] (.region [oa 0 5 (.fieldA 0 (.t 1)),
 oa 1 6 (.loadB 0 (some 2) (.t 5)),
 oc 2 7 s_spec_IsKeymap p_spec_IsKeymap D_spec_IsKeymap [(.t 6)],
 oa 3 8 (.un .not (.t 7)),
 om 4 9 8,
 og 5 10 (.fieldA 2 (.t 1)) 9 false,
 og 6 11 (.loadB 0 none (.t 10)) 9 false,
 og 7 12 (.len (.t 11)) 9 false,
 og 8 13 (.bin .gtr (.t 12) (.c (.int .i64 4))) 9 false,
 oa 9 14 (.pick (.t 9) (.c (.bool true)) (.t 13)),
 om 10 15 14,
 og 11 16 (.fieldA 4 (.t 1)) 15 false,
 og 12 17 (.loadB 0 none (.t 16)) 15 false,
 ⟨13,some 18,.call false s_spec_IsHeld p_spec_IsHeld D_spec_IsHeld [(.t 17)],(some (15,false)),[]⟩,
 og 14 19 (.un .not (.t 18)) 15 false,
 oa 15 20 (.pick (.t 15) (.c (.bool true)) (.t 19))])
  (.cond (.t 20) (.seq [2] (.region [oa 0 2 (.mv (.c (.bool false)))])
  .ret) .skip))
  (.seq [1] (.seq [3,1] (.region [oi 0 3 0])
  (.block 0 (.loop [1,3] 1 (.seq [3,1] (.seq [25,3,1] (.region [om 0 21 3,
 oa 1 22 (.fieldA 2 (.t 1)),
 oa 2 23 (.loadB 0 none (.t 22)),
 oa 3 24 (.len (.t 23)),
 oa 4 25 (.bin .lss (.t 21) (.t 24))])
  (.cond (.t 25) .skip (.exit 0)))
  (.seq [3,1] (.block 1 (.seq [34,3,1] (.region [oa 0 28 (.fieldA 2 (.t 1)),
 oa 1 29 (.loadB 0 none (.t 28)),
 om 2 30 3,
 oa 3 31 (.indexA 1 (.t 29) (.t 30)),
 oa 4 32 (.loadH none (.t 31)),
 oc 5 33 s_spec_IsMacro p_spec_IsMacro D_spec_IsMacro [(.t 32)],
 oa 6 34 (.un .not (.t 33))])
  (.cond (.t 34) (.seq [2] (.region [oa 0 2 (.mv (.c (.bool false)))])
  .ret) .skip)))
  (.region [om 0 26 3,
 oa 1 27 (.bin .add (.t 26) (.c (.int .i64 1))),
 om 2 3 27]))))))
  (.seq [1] (.seq [4,1] (.region [oi 0 4 0])
  (.block 2 (.loop [1,4] 1 (.seq [4,1] (.seq [39,4,1] (.region [om 0 35 4,
 oa 1 36 (.fieldA 4 (.t 1)),
 oa 2 37 (.loadB 0 none (.t 36)),
 oa 3 38 (.len (.t 37)),
 oa 4 39 (.bin .lss (.t 35) (.t 38))])
  (.cond (.t 39) .skip (.exit 2)))
  (.seq [4,1] (.block 3 (.seq [75,4,1] (.region [oa 0 42 (.fieldA 4 (.t 1)),
 xA 1 43 (.loadB 0 none (.t 42)) (rg 1),
 om 2 44 4,
 xA 3 45 (.indexA 5 (.t 43) (.t 44)) (rg 3),
 xA 4 46 (.fieldA 0 (.t 45)) (rg 4),
 xA 5 47 (.loadH none (.t 46)) (rg 5),
 oa 6 48 (.fieldA 0 (.t 1)),
 xA 7 49 (.fieldA 0 (.t 48)) [6],
 xA 8 50 (.loadB 0 none (.t 49)) [6,7],
 xA 9 51 (.bin .geq (.t 47) (.t 50)) (rg 9),
 xA 10 52 (.mv (.t 51)) (rg 10),
 ⟨11,some 53,.a false (.fieldA 4 (.t 1)) none,(some (52,false)),[0,1,2,3,4,5,6,7,8,9,10]⟩,
 ⟨12,some 54,.a false (.loadB 0 none (.t 53)) none,(some (52,false)),[0,1,2,3,4,5,6,7,8,9,10,11]⟩,
 ⟨13,some 55,.a false (.mv (.t 4)) none,(some (52,false)),[0,1,2,3,4,5,6,7,8,9,10]⟩,
 ⟨14,some 56,.a false (.indexA 5 (.t 54) (.t 55)) none,(some (52,false)),[0,1,2,3,4,5,6,7,8,9,10,11,12,13]⟩,
 ⟨15,some 57,.a false (.fieldA 1 (.t 56)) none,(some (52,false)),[0,1,2,3,4,5,6,7,8,9,10,11,12,13,14]⟩,
 ⟨16,some 58,.a false (.fieldA 0 (.t 57)) none,(some (52,false)),[0,1,2,3,4,5,6,7,8,9,10,11,12,13,14,15]⟩,
 ⟨17,some 59,.a false (.loadH none (.t 58)) none,(some (52,false)),[0,1,2,3,4,5,6,7,8,9,10,11,12,13,14,15,16]⟩,
 ⟨18,some 60,.a false (.bin .neq (.t 59) (.c (.int .i64 9))) none,(some (52,false)),[0,1,2,3,4,5,6,7,8,9,10,11,12,13,14,15,16,17]⟩,
 ⟨19,some 61,.a false (.mv (.t 60)) none,(some (52,false)),[0,1,2,3,4,5,6,7,8,9,10,11,12,13,14,15,16,17,18]⟩,
 ⟨20,some 62,.a false (.fieldA 4 (.t 1)) none,(some (61,true)),[0,1,2,3,4,5,6,7,8,9,10,11,12,13,14,15,16,17,18,19]⟩,
 ⟨21,some 63,.a false (.loadB 0 none (.t 62)) none,(some (61,true)),[0,1,2,3,4,5,6,7,8,9,10,11,12,13,14,15,16,17,18,19,20]⟩,
 ⟨22,some 64,.a false (.mv (.t 4)) none,(some (61,true)),[0,1,2,3,4,5,6,7,8,9,10,11,12,13,14,15,16,17,18,19]⟩,
 ⟨23,some 65,.a false (.indexA 5 (.t 63) (.t 64)) none,(some (61,true)),[0,1,2,3,4,5,6,7,8,9,10,11,12,13,14,15,16,17,18,19,20,21,22]⟩,
 ⟨24,some 66,.a false (.fieldA 1 (.t 65)) none,(some (61,true)),[0,1,2,3,4,5,6,7,8,9,10,11,12,13,14,15,16,17,18,19,20,21,22,23]⟩,
 ⟨25,some 67,.a false (.fieldA 3 (.t 66)) none,(some (61,true)),[0,1,2,3,4,5,6,7,8,9,10,11,12,13,14,15,16,17,18,19,20,21,22,23,24]⟩,
 ⟨26,some 68,.a false (.loadH none (.t 67)) none,(some (61,true)),[0,1,2,3,4,5,6,7,8,9,10,11,12,13,14,15,16,17,18,19,20,21,22,23,24,25]⟩,
 ⟨27,some 69,.a false (.fieldA 0 (.t 1)) none,(some (61,true)),[0,1,2,3,4,5,6,7,8,9,10,11,12,13,14,15,16,17,18,19]⟩,
 ⟨28,some 70,.a false (.fieldA 1 (.t 69)) none,(some (61,true)),[0,1,2,3,4,5,6,7,8,9,10,11,12,13,14,15,16,17,18,19,27]⟩,
 ⟨29,some 71,.a false (.loadB 0 none (.t 70)) none,(some (61,true)),[0,1,2,3,4,5,6,7,8,9,10,11,12,13,14,15,16,17,18,19,27,28]⟩,
 ⟨30,some 72,.a false (.len (.t 71)) none,(some (61,true)),[0,1,2,3,4,5,6,7,8,9,10,11,12,13,14,15,16,17,18,19,27,28,29]⟩,
 ⟨31,some 73,.a false (.bin .geq (.t 68) (.t 72)) none,(some (61,true)),[0,1,2,3,4,5,6,7,8,9,10,11,12,13,14,15,16,17,18,19,20,21,22,23,24,25,26,27,28,29,30]⟩,
 ⟨32,some 74,.a false (.pick (.t 61) (.t 73) (.c (.bool false))) none,(some (52,false)),[0,1,2,3,4,5,6,7,8,9,10,11,12,13,14,15,16,17,18,19,20,21,22,23,24,25,26,27,28,29,30,31]⟩,
 xA 33 75 (.pick (.t 52) (.c (.bool true)) (.t 74)) (rg 33)])
  (.cond (.t 75) (.seq [2] (.region [oa 0 2 (.mv (.c (.bool false)))])
  .ret) .skip)))
  (.region [om 0 40 4,
 oa 1 41 (.bin .add (.t 40) (.c (.int .i64 1))),
 om 2 4 41]))))))
  (.seq [2] (.region [oa 0 76 (.fieldA 3 (.t 1)),
 xA 1 77 (.loadB 0 none (.t 76)) (rg 1),
 oa 2 78 (.fieldA 0 (.t 1)),
 xA 3 79 (.fieldA 1 (.t 78)) [2],
 xA 4 80 (.loadB 0 none (.t 79)) [2,3],
 xA 5 81 (.len (.t 80)) [2,3,4],
 xA 6 82 (.bin .shl (.c (.int .i64 1)) (.t 81)) [2,3,4,5],
 xA 7 83 (.bin .sub (.t 82) (.c (.int .i64 1))) [2,3,4,5,6],
 xC 8 84 s_spec_l1In p_spec_l1In D_spec_l1In [(.t 77),(.c (.int .i64 0)),(.t 83)] (rg 8),
 xA 9 85 (.mv (.t 84)) (rg 9),
 ⟨10,some 86,.a false (.fieldA 3 (.t 1)) none,(some (85,true)),[0,1,2,3,4,5,6,7,8,9]⟩,
 ⟨11,some 87,.a false (.loadB 0 none (.t 86)) none,(some (85,true)),[0,1,2,3,4,5,6,7,8,9,10]⟩,
 ⟨12,some 88,.a false (.bin .rem (.t 87) (.c (.int .i64 2))) none,(some (85,true)),[0,1,2,3,4,5,6,7,8,9,10,11]⟩,
 ⟨13,some 89,.a false (.bin .eql (.t 88) (.c (.int .i64 0))) none,(some (85,true)),[0,1,2,3,4,5,6,7,8,9,10,11,12]⟩,
 xA 14 90 (.pick (.t 85) (.t 89) (.c (.bool false))) (rg 14),
 xA 15 91 (.mv (.t 90)) (rg 15),
 ⟨16,some 92,.a false (.fieldA 5 (.t 1)) none,(some (91,true)),[0,1,2,3,4,5,6,7,8,9,10,11,12,13,14,15]⟩,
 ⟨17,some 93,.a false (.loadB 0 none (.t 92)) none,(some (91,true)),[0,1,2,3,4,5,6,7,8,9,10,11,12,13,14,15,16]⟩,
 ⟨18,some 94,.call false s_spec_l1In p_spec_l1In D_spec_l1In [(.t 93),(.c (.int .i64 0)),(.c (.int .i64 15))],(some (91,true)),[0,1,2,3,4,5,6,7,8,9,10,11,12,13,14,15,16,17]⟩,
 xA 19 95 (.pick (.t 91) (.t 94) (.c (.bool false))) (rg 19),
 xA 20 2 (.mv (.t 95)) (rg 20)])
  .ret)))))
noncomputable def df_spec_IsEngine:DFun:=⟨1,96,1,true,[.tmp 2],dc_spec_IsEngine⟩
noncomputable def pf_spec_IsEngine:PFun:=df_spec_IsEngine.er
noncomputable def f_spec_IsEngine:AFun:=pf_spec_IsEngine.er
@[irreducible] noncomputable def s_spec_IsEngine:CallSem:=funSem f_spec_IsEngine
@[irreducible] noncomputable def p_spec_IsEngine:PSem:=pfunSem pf_spec_IsEngine
theorem sp_spec_IsEngine:SoundP s_spec_IsEngine p_spec_IsEngine:=by unfold s_spec_IsEngine p_spec_IsEngine;exact pfun_sound (f:=pf_spec_IsEngine) ⟨sp_spec_IsKeymap,sp_spec_IsHeld,sp_spec_IsMacro,sp_spec_l1In,sp_spec_l1In,trivial⟩
def h_spec_IsEngine:List HT:=[.agg [(.frz,.int .i64),(.frz,.sl (.one (.sl rI4))),(.frz,.sl (.one (.sl rI3))),(.frz,.int .i64),(.frz,.sl rI5),(.frz,.int .i64),(.frz,.bool)]]
def q_spec_IsEngine:QT:=.one (.one .own (.bool))
@[irreducible] noncomputable def v_spec_IsEngine(x:Int×(List (List (Int×Int×Int×Int)))×(List (List (Int×Int×Int)))×Int×(List (Int×Int×Int×Int×Int))×Int×Bool):Bool:=(shut fun x=>fnV df_spec_IsEngine h_spec_IsEngine q_spec_IsEngine x).1 x
@[irreducible] noncomputable def ok_spec_IsEngine(x:Int×(List (List (Int×Int×Int×Int)))×(List (List (Int×Int×Int)))×Int×(List (Int×Int×Int×Int×Int))×Int×Bool):Prop:=(shut fun x=>fnOk df_spec_IsEngine h_spec_IsEngine q_spec_IsEngine x).1 x
theorem vu_spec_IsEngine (x):v_spec_IsEngine x=fnV df_spec_IsEngine h_spec_IsEngine q_spec_IsEngine x:=by unfold v_spec_IsEngine;exact congrFun (shut _).2 x
theorem ou_spec_IsEngine (x):ok_spec_IsEngine x=fnOk df_spec_IsEngine h_spec_IsEngine q_spec_IsEngine x:=by unfold ok_spec_IsEngine;exact congrFun (shut _).2 x
noncomputable def D_spec_IsEngine:DSem:=DSemOf h_spec_IsEngine q_spec_IsEngine ok_spec_IsEngine v_spec_IsEngine
theorem ck_spec_IsEngine(x:Int×(List (List (Int×Int×Int×Int)))×(List (List (Int×Int×Int)))×Int×(List (Int×Int×Int×Int×Int))×Int×Bool):fnChk df_spec_IsEngine h_spec_IsEngine q_spec_IsEngine x=true:=by kernel_rfl
theorem ob_spec_IsEngine:AllD df_spec_IsEngine.body.obs:=⟨sd_spec_IsKeymap,sd_spec_IsHeld,sd_spec_IsMacro,sd_spec_l1In,sd_spec_l1In,trivial⟩
theorem st_spec_IsEngine:fnSt df_spec_IsEngine h_spec_IsEngine q_spec_IsEngine=true:=by kernel_rfl
theorem sd_spec_IsEngine:SoundD p_spec_IsEngine D_spec_IsEngine:=by unfold p_spec_IsEngine;exact soundD_of (f:=df_spec_IsEngine) (hs:=h_spec_IsEngine) (q:=q_spec_IsEngine) ob_spec_IsEngine st_spec_IsEngine ck_spec_IsEngine (fun x h=>Eq.mp (ou_spec_IsEngine x) h) (fun x=>(vu_spec_IsEngine x).symm)
noncomputable def dc_impl_IsEngine:DCode:=
 (.seq [1] (.region [oa 0 1 (.boxB 0 7 (.t 0)),
 oa 1 2 (.mv (.c (.bool false)))])
  (.seq [1] (.seq [33,1] (.region [oa 0 8 (.fieldA 0 (.t 1)),
 oa 1 9 (.loadB 0 (some 2) (.t 8)),
 oc 2 10 s_impl_IsKeymap p_impl_IsKeymap D_impl_IsKeymap [(.t 9)],
 oa 3 11 (.un .not (.t 10)),
 om 4 12 11,
 og 5 13 (.fieldA 2 (.t 1)) 12 false,
 og 6 14 (.loadB 0 none (.t 13)) 12 false,
 og 7 15 (.len (.t 14)) 12 false,
 og 8 16 (.bin .gtr (.t 15) (.c (.int .i64 4))) 12 false,
 oa 9 17 (.pick (.t 12) (.c (.bool true)) (.t 16)),
 om 10 18 17,
 og 11 19 (.fieldA 4 (.t 1)) 18 false,
 og 12 20 (.loadB 0 none (.t 19)) 18 false,
 ⟨13,some 21,.call false s_impl_IsHeld p_impl_IsHeld D_impl_IsHeld [(.t 20)],(some (18,false)),[]⟩,
 og 14 22 (.un .not (.t 21)) 18 false,
 oa 15 23 (.pick (.t 18) (.c (.bool true)) (.t 22)),
 om 16 24 23,
 og 17 25 (.fieldA 5 (.t 1)) 24 false,
 og 18 26 (.loadB 0 none (.t 25)) 24 false,
 og 19 27 (.bin .lss (.t 26) (.c (.int .i64 0))) 24 false,
 oa 20 28 (.pick (.t 24) (.c (.bool true)) (.t 27)),
 om 21 29 28,
 og 22 30 (.fieldA 5 (.t 1)) 29 false,
 og 23 31 (.loadB 0 none (.t 30)) 29 false,
 og 24 32 (.bin .gtr (.t 31) (.c (.int .i64 15))) 29 false,
 oa 25 33 (.pick (.t 29) (.c (.bool true)) (.t 32))])
  (.cond (.t 33) (.seq [2] (.region [oa 0 2 (.mv (.c (.bool false)))])
  .ret) .skip))
  (.seq [1] (.seq [37,36,35,1] (.region [oa 0 34 (.fieldA 2 (.t 1)),
 oa 1 35 (.loadB 0 none (.t 34)),
 oa 2 36 (.len (.t 35)),
 oi 3 37 0])
  (.block 0 (.loop [1,35,36,37] 1 (.seq [38,37,36,35,1] (.region [oa 0 38 (.bin .lss (.t 37) (.t 36))])
  (.seq [37,36,35,1] (.cond (.t 38) .skip (.exit 0))
  (.seq [37,36,35,1] (.block 1 (.seq [37,36,35,4,1] (.region [oa 0 39 (.indexA 1 (.t 35) (.t 37)),
 oa 1 40 (.loadH none (.t 39)),
 on 2 4 40])
  (.seq [43,37,36,35,1] (.region [on 0 41 4,
 oc 1 42 s_impl_IsMacro p_impl_IsMacro D_impl_IsMacro [(.t 41)],
 oa 2 43 (.un .not (.t 42))])
  (.cond (.t 43) (.seq [2] (.region [oa 0 2 (.mv (.c (.bool false)))])
  .ret) .skip))))
  (.region [oa 0 44 (.bin .add (.t 37) (.c (.int .i64 1))),
 om 1 37 44])))))))
  (.seq [5,1] (.region [oa 0 45 (.fieldA 0 (.t 1)),
 oa 1 46 (.fieldA 1 (.t 45)),
 oa 2 47 (.loadB 0 none (.t 46)),
 oa 3 48 (.len (.t 47)),
 om 4 5 48])
  (.seq [5,1] (.seq [52,51,50,5,1] (.region [oa 0 49 (.fieldA 4 (.t 1)),
 oa 1 50 (.loadB 0 none (.t 49)),
 oa 2 51 (.len (.t 50)),
 oi 3 52 0])
  (.block 2 (.loop [1,5,50,51,52] 1 (.seq [53,52,51,50,5,1] (.region [oa 0 53 (.bin .lss (.t 52) (.t 51))])
  (.seq [52,51,50,5,1] (.cond (.t 53) .skip (.exit 2))
  (.seq [52,51,50,5,1] (.block 3 (.seq [52,51,50,7,5,1] (.region [oa 0 54 (.indexA 5 (.t 50) (.t 52)),
 ob 1 55 (.loadH (some 5) (.t 54)),
 oa 2 7 (.allocB 1 [(.int .i64 0),(.int .i64 0),(.int .i64 0),(.int .i64 0),(.int .i64 0)]),
 os 3 (.storeB 1 5 (.t 7) (.t 55))])
  (.seq [74,52,51,50,5,1] (.region [oa 0 56 (.fieldA 0 (.t 7)),
 oa 1 57 (.loadB 1 none (.t 56)),
 oa 2 58 (.fieldA 0 (.t 1)),
 oa 3 59 (.fieldA 0 (.t 58)),
 oa 4 60 (.loadB 0 none (.t 59)),
 oa 5 61 (.bin .geq (.t 57) (.t 60)),
 om 6 62 61,
 og 7 63 (.fieldA 1 (.t 7)) 62 false,
 og 8 64 (.fieldA 0 (.t 63)) 62 false,
 og 9 65 (.loadB 1 none (.t 64)) 62 false,
 og 10 66 (.bin .neq (.t 65) (.c (.int .i64 9))) 62 false,
 og 11 67 (.mv (.t 66)) 62 false,
 og 12 68 (.fieldA 1 (.t 7)) 67 true,
 og 13 69 (.fieldA 3 (.t 68)) 67 true,
 og 14 70 (.loadB 1 none (.t 69)) 67 true,
 og 15 71 (.mv (.t 5)) 67 true,
 og 16 72 (.bin .geq (.t 70) (.t 71)) 67 true,
 og 17 73 (.pick (.t 67) (.t 72) (.c (.bool false))) 62 false,
 oa 18 74 (.pick (.t 62) (.c (.bool true)) (.t 73))])
  (.cond (.t 74) (.seq [2] (.region [oa 0 2 (.mv (.c (.bool false)))])
  .ret) .skip))))
  (.region [oa 0 75 (.bin .add (.t 52) (.c (.int .i64 1))),
 om 1 52 75])))))))
  (.seq [2] (.region [oa 0 76 (.fieldA 3 (.t 1)),
 xA 1 77 (.loadB 0 none (.t 76)) (rg 1),
 xA 2 78 (.bin .geq (.t 77) (.c (.int .i64 0))) (rg 2),
 xA 3 79 (.mv (.t 78)) (rg 3),
 ⟨4,some 80,.a false (.fieldA 3 (.t 1)) none,(some (79,true)),[0,1,2,3]⟩,
 ⟨5,some 81,.a false (.loadB 0 none (.t 80)) none,(some (79,true)),[0,1,2,3,4]⟩,
 ⟨6,some 82,.a false (.bin .rem (.t 81) (.c (.int .i64 2))) none,(some (79,true)),[0,1,2,3,4,5]⟩,
 ⟨7,some 83,.a false (.bin .eql (.t 82) (.c (.int .i64 0))) none,(some (79,true)),[0,1,2,3,4,5,6]⟩,
 xA 8 84 (.pick (.t 79) (.t 83) (.c (.bool false))) (rg 8),
 xA 9 85 (.mv (.t 84)) (rg 9),
 ⟨10,some 86,.a false (.fieldA 3 (.t 1)) none,(some (85,true)),[0,1,2,3,4,5,6,7,8,9]⟩,
 ⟨11,some 87,.a false (.loadB 0 none (.t 86)) none,(some (85,true)),[0,1,2,3,4,5,6,7,8,9,10]⟩,
 ⟨12,some 88,.a false (.mv (.t 5)) none,(some (85,true)),[0,1,2,3,4,5,6,7,8,9]⟩,
 ⟨13,some 89,.a false (.bin .shl (.c (.int .i64 1)) (.t 88)) none,(some (85,true)),[0,1,2,3,4,5,6,7,8,9,12]⟩,
 ⟨14,some 90,.a false (.bin .lss (.t 87) (.t 89)) none,(some (85,true)),[0,1,2,3,4,5,6,7,8,9,10,11,12,13]⟩,
 xA 15 91 (.pick (.t 85) (.t 90) (.c (.bool false))) (rg 15),
 xA 16 2 (.mv (.t 91)) (rg 16)])
  .ret))))))
noncomputable def df_impl_IsEngine:DFun:=⟨1,92,2,true,[.tmp 2],dc_impl_IsEngine⟩
noncomputable def pf_impl_IsEngine:PFun:=df_impl_IsEngine.er
noncomputable def f_impl_IsEngine:AFun:=pf_impl_IsEngine.er
@[irreducible] noncomputable def s_impl_IsEngine:CallSem:=funSem f_impl_IsEngine
@[irreducible] noncomputable def p_impl_IsEngine:PSem:=pfunSem pf_impl_IsEngine
theorem sp_impl_IsEngine:SoundP s_impl_IsEngine p_impl_IsEngine:=by unfold s_impl_IsEngine p_impl_IsEngine;exact pfun_sound (f:=pf_impl_IsEngine) ⟨sp_impl_IsKeymap,sp_impl_IsHeld,sp_impl_IsMacro,trivial⟩
def h_impl_IsEngine:List HT:=[.agg [(.frz,.int .i64),(.frz,.sl (.one (.sl rI4))),(.frz,.sl (.one (.sl rI3))),(.frz,.int .i64),(.frz,.sl rI5),(.frz,.int .i64),(.frz,.bool)]]
def q_impl_IsEngine:QT:=.one (.one .own (.bool))
@[irreducible] noncomputable def v_impl_IsEngine(x:Int×(List (List (Int×Int×Int×Int)))×(List (List (Int×Int×Int)))×Int×(List (Int×Int×Int×Int×Int))×Int×Bool):Bool:=(shut fun x=>fnV df_impl_IsEngine h_impl_IsEngine q_impl_IsEngine x).1 x
@[irreducible] noncomputable def ok_impl_IsEngine(x:Int×(List (List (Int×Int×Int×Int)))×(List (List (Int×Int×Int)))×Int×(List (Int×Int×Int×Int×Int))×Int×Bool):Prop:=(shut fun x=>fnOk df_impl_IsEngine h_impl_IsEngine q_impl_IsEngine x).1 x
theorem vu_impl_IsEngine (x):v_impl_IsEngine x=fnV df_impl_IsEngine h_impl_IsEngine q_impl_IsEngine x:=by unfold v_impl_IsEngine;exact congrFun (shut _).2 x
theorem ou_impl_IsEngine (x):ok_impl_IsEngine x=fnOk df_impl_IsEngine h_impl_IsEngine q_impl_IsEngine x:=by unfold ok_impl_IsEngine;exact congrFun (shut _).2 x
noncomputable def D_impl_IsEngine:DSem:=DSemOf h_impl_IsEngine q_impl_IsEngine ok_impl_IsEngine v_impl_IsEngine
theorem ck_impl_IsEngine(x:Int×(List (List (Int×Int×Int×Int)))×(List (List (Int×Int×Int)))×Int×(List (Int×Int×Int×Int×Int))×Int×Bool):fnChk df_impl_IsEngine h_impl_IsEngine q_impl_IsEngine x=true:=by kernel_rfl
theorem ob_impl_IsEngine:AllD df_impl_IsEngine.body.obs:=⟨sd_impl_IsKeymap,sd_impl_IsHeld,sd_impl_IsMacro,trivial⟩
theorem st_impl_IsEngine:fnSt df_impl_IsEngine h_impl_IsEngine q_impl_IsEngine=true:=by kernel_rfl
theorem sd_impl_IsEngine:SoundD p_impl_IsEngine D_impl_IsEngine:=by unfold p_impl_IsEngine;exact soundD_of (f:=df_impl_IsEngine) (hs:=h_impl_IsEngine) (q:=q_impl_IsEngine) ob_impl_IsEngine st_impl_IsEngine ck_impl_IsEngine (fun x h=>Eq.mp (ou_impl_IsEngine x) h) (fun x=>(vu_impl_IsEngine x).symm)
noncomputable def dc_spec_l9Copy:DCode:=
 (.seq [2,1] (.region [oa 0 1 (.boxB 0 7 (.t 0)),
 oa 1 2 (.allocB 1 [(.int .i64 0),.nils,.nils,(.int .i64 0),.nils,(.int .i64 0),(.bool false)])])
  (.seq [3,2,1] (.region [ob 0 5 (.loadB 0 (some 7) (.t 1)),
 oa 1 3 (.allocB 2 [(.int .i64 0),.nils,.nils,(.int .i64 0),.nils,(.int .i64 0),(.bool false)]),
 os 2 (.storeB 2 7 (.t 3) (.t 5))])
  (.seq [3,2,1] (.region [oa 0 6 (.fieldA 0 (.t 1)),
 oa 1 7 (.loadB 0 (some 2) (.t 6)),
 oc 2 8 s_spec_l6Copy p_spec_l6Copy D_spec_l6Copy [(.t 7)],
 oa 3 9 (.fieldA 0 (.t 3)),
 os 4 (.storeB 2 2 (.t 9) (.t 8))])
  (.seq [3,2,1] (.region [⟨0,some 10,.a false (.litSlice 1 0 [] []) (some (.one (.sl rI3))),none,[]⟩,
 oa 1 11 (.fieldA 2 (.t 3)),
 os 2 (.storeB 2 1 (.t 11) (.t 10))])
  (.seq [3,2,1] (.seq [4,3,2,1] (.region [oi 0 4 0])
  (.block 0 (.loop [1,2,3,4] 1 (.seq [4,3,2,1] (.seq [16,4,3,2,1] (.region [om 0 12 4,
 oa 1 13 (.fieldA 2 (.t 1)),
 oa 2 14 (.loadB 0 none (.t 13)),
 oa 3 15 (.len (.t 14)),
 oa 4 16 (.bin .lss (.t 12) (.t 15))])
  (.cond (.t 16) .skip (.exit 0)))
  (.seq [4,3,2,1] (.block 1 (.region [oa 0 19 (.fieldA 2 (.t 3)),
 xB 1 20 (.loadB 2 none (.t 19)) (rg 1),
 oa 3 22 (.fieldA 2 (.t 1)),
 xA 4 23 (.loadB 0 none (.t 22)) [3],
 om 5 24 4,
 xA 6 25 (.indexA 1 (.t 23) (.t 24)) [3,4,5],
 xA 7 26 (.loadH none (.t 25)) [3,4,5,6],
 ⟨2,some 21,.a false (.litSlice 3 0 [] []) (some rI3),none,[]⟩,
 xA 8 27 (.app 3 (.t 21) (.t 26)) [2,3,4,5,6,7],
 ⟨9,some 28,.a false (.litSlice 1 1 [.nils] [(0,1,(.t 27))]) (some (.one (.sl rI3))),none,[2,3,4,5,6,7,8]⟩,
 xA 10 29 (.app 1 (.t 20) (.t 28)) (rg 10),
 xA 11 30 (.fieldA 2 (.t 3)) (rg 11),
 xS 12 (.storeB 2 1 (.t 30) (.t 29)) (rg 12)]))
  (.region [om 0 17 4,
 oa 1 18 (.bin .add (.t 17) (.c (.int .i64 1))),
 om 2 4 18]))))))
  (.seq [3,2] (.region [⟨0,some 31,.a false (.litSlice 5 0 [] []) (some rI5),none,[]⟩,
 oa 1 32 (.fieldA 4 (.t 1)),
 oa 2 33 (.loadB 0 none (.t 32)),
 oa 3 34 (.app 5 (.t 31) (.t 33)),
 oa 4 35 (.fieldA 4 (.t 3)),
 os 5 (.storeB 2 1 (.t 35) (.t 34))])
  (.seq [2] (.region [ob 0 36 (.loadB 2 (some 7) (.t 3)),
 os 1 (.storeB 1 7 (.t 2) (.t 36))])
  .ret)))))))
noncomputable def df_spec_l9Copy:DFun:=⟨1,37,3,false,[.cell 2 (some 7)],dc_spec_l9Copy⟩
noncomputable def pf_spec_l9Copy:PFun:=df_spec_l9Copy.er
noncomputable def f_spec_l9Copy:AFun:=pf_spec_l9Copy.er
@[irreducible] noncomputable def s_spec_l9Copy:CallSem:=funSem f_spec_l9Copy
@[irreducible] noncomputable def p_spec_l9Copy:PSem:=pfunSem pf_spec_l9Copy
theorem sp_spec_l9Copy:SoundP s_spec_l9Copy p_spec_l9Copy:=by unfold s_spec_l9Copy p_spec_l9Copy;exact pfun_sound (f:=pf_spec_l9Copy) ⟨sp_spec_l6Copy,trivial⟩
def h_spec_l9Copy:List HT:=[.agg [(.frz,.int .i64),(.frz,.sl (.one (.sl rI4))),(.frz,.sl (.one (.sl rI3))),(.frz,.int .i64),(.frz,.sl rI5),(.frz,.int .i64),(.frz,.bool)]]
def q_spec_l9Copy:QT:=.one (.agg [(.own,.int .i64),(.own,.sl (.one (.sl rI4))),(.own,.sl (.one (.sl rI3))),(.own,.int .i64),(.own,.sl rI5),(.own,.int .i64),(.own,.bool)])
@[irreducible] noncomputable def v_spec_l9Copy(x:Int×(List (List (Int×Int×Int×Int)))×(List (List (Int×Int×Int)))×Int×(List (Int×Int×Int×Int×Int))×Int×Bool):Int×(List (List (Int×Int×Int×Int)))×(List (List (Int×Int×Int)))×Int×(List (Int×Int×Int×Int×Int))×Int×Bool:=(shut fun x=>fnV df_spec_l9Copy h_spec_l9Copy q_spec_l9Copy x).1 x
@[irreducible] noncomputable def ok_spec_l9Copy(x:Int×(List (List (Int×Int×Int×Int)))×(List (List (Int×Int×Int)))×Int×(List (Int×Int×Int×Int×Int))×Int×Bool):Prop:=(shut fun x=>fnOk df_spec_l9Copy h_spec_l9Copy q_spec_l9Copy x).1 x
theorem vu_spec_l9Copy (x):v_spec_l9Copy x=fnV df_spec_l9Copy h_spec_l9Copy q_spec_l9Copy x:=by unfold v_spec_l9Copy;exact congrFun (shut _).2 x
theorem ou_spec_l9Copy (x):ok_spec_l9Copy x=fnOk df_spec_l9Copy h_spec_l9Copy q_spec_l9Copy x:=by unfold ok_spec_l9Copy;exact congrFun (shut _).2 x
noncomputable def D_spec_l9Copy:DSem:=DSemOf h_spec_l9Copy q_spec_l9Copy ok_spec_l9Copy v_spec_l9Copy
theorem ck_spec_l9Copy(x:Int×(List (List (Int×Int×Int×Int)))×(List (List (Int×Int×Int)))×Int×(List (Int×Int×Int×Int×Int))×Int×Bool):fnChk df_spec_l9Copy h_spec_l9Copy q_spec_l9Copy x=true:=by kernel_rfl
theorem ob_spec_l9Copy:AllD df_spec_l9Copy.body.obs:=⟨sd_spec_l6Copy,trivial⟩
theorem st_spec_l9Copy:fnSt df_spec_l9Copy h_spec_l9Copy q_spec_l9Copy=true:=by kernel_rfl
theorem sd_spec_l9Copy:SoundD p_spec_l9Copy D_spec_l9Copy:=by unfold p_spec_l9Copy;exact soundD_of (f:=df_spec_l9Copy) (hs:=h_spec_l9Copy) (q:=q_spec_l9Copy) ob_spec_l9Copy st_spec_l9Copy ck_spec_l9Copy (fun x h=>Eq.mp (ou_spec_l9Copy x) h) (fun x=>(vu_spec_l9Copy x).symm)
noncomputable def dc_spec_NewEngine:DCode:=
 (.seq [4,2,1] (.region [oa 0 2 (.boxB 0 2 (.t 0)),
 oa 1 4 (.allocB 1 [(.int .i64 0),.nils,.nils,(.int .i64 0),.nils,(.int .i64 0),(.bool false)]),
 oa 2 5 (.mv (.c (.bool false)))])
  (.seq [6,4] (.region [ob 0 7 (.loadB 0 (some 2) (.t 2)),
 om 1 8 1,
 oa 2 9 (.build [(.int .i64 0),.nils,.nils,(.int .i64 0),.nils,(.int .i64 0),(.bool false)] [(0,2,(.t 7)),(2,1,(.t 8))]),
 oa 3 6 (.allocB 2 [(.int .i64 0),.nils,.nils,(.int .i64 0),.nils,(.int .i64 0),(.bool false)]),
 os 4 (.storeB 2 7 (.t 6) (.t 9))])
  (.seq [6,4] (.seq [12,6,4] (.region [oa 0 10 (.loadB 2 (some 7) (.t 6)),
 oc 1 11 s_spec_IsEngine p_spec_IsEngine D_spec_IsEngine [(.t 10)],
 oa 2 12 (.un .not (.t 11))])
  (.cond (.t 12) (.seq [5,4] (.region [oa 0 13 (.build [(.int .i64 0),.nils,.nils,(.int .i64 0),.nils,(.int .i64 0),(.bool false)] []),
 os 1 (.storeB 1 7 (.t 4) (.t 13)),
 oa 2 5 (.mv (.c (.bool false)))])
  .ret) .skip))
  (.seq [5,4] (.region [oa 0 14 (.loadB 2 (some 7) (.t 6)),
 oc 1 15 s_spec_l9Copy p_spec_l9Copy D_spec_l9Copy [(.t 14)],
 os 2 (.storeB 1 7 (.t 4) (.t 15)),
 oa 3 5 (.mv (.c (.bool true)))])
  .ret))))
noncomputable def df_spec_NewEngine:DFun:=⟨2,16,3,false,[.cell 4 (some 7),.tmp 5],dc_spec_NewEngine⟩
noncomputable def pf_spec_NewEngine:PFun:=df_spec_NewEngine.er
noncomputable def f_spec_NewEngine:AFun:=pf_spec_NewEngine.er
@[irreducible] noncomputable def s_spec_NewEngine:CallSem:=funSem f_spec_NewEngine
@[irreducible] noncomputable def p_spec_NewEngine:PSem:=pfunSem pf_spec_NewEngine
theorem sp_spec_NewEngine:SoundP s_spec_NewEngine p_spec_NewEngine:=by unfold s_spec_NewEngine p_spec_NewEngine;exact pfun_sound (f:=pf_spec_NewEngine) ⟨sp_spec_IsEngine,sp_spec_l9Copy,trivial⟩
def h_spec_NewEngine:List HT:=[.agg [(.frz,.int .i64),(.frz,.sl (.one (.sl rI4)))],.one .frz (.sl (.one (.sl rI3)))]
def q_spec_NewEngine:QT:=.tup [.agg [(.own,.int .i64),(.own,.sl (.one (.sl rI4))),(.own,.sl (.one (.sl rI3))),(.own,.int .i64),(.own,.sl rI5),(.own,.int .i64),(.own,.bool)],.one .own (.bool)]
@[irreducible] noncomputable def v_spec_NewEngine(x:(Int×(List (List (Int×Int×Int×Int))))×(List (List (Int×Int×Int)))):(Int×(List (List (Int×Int×Int×Int)))×(List (List (Int×Int×Int)))×Int×(List (Int×Int×Int×Int×Int))×Int×Bool)×Bool:=(shut fun x=>fnV df_spec_NewEngine h_spec_NewEngine q_spec_NewEngine x).1 x
@[irreducible] noncomputable def ok_spec_NewEngine(x:(Int×(List (List (Int×Int×Int×Int))))×(List (List (Int×Int×Int)))):Prop:=(shut fun x=>fnOk df_spec_NewEngine h_spec_NewEngine q_spec_NewEngine x).1 x
theorem vu_spec_NewEngine (x):v_spec_NewEngine x=fnV df_spec_NewEngine h_spec_NewEngine q_spec_NewEngine x:=by unfold v_spec_NewEngine;exact congrFun (shut _).2 x
theorem ou_spec_NewEngine (x):ok_spec_NewEngine x=fnOk df_spec_NewEngine h_spec_NewEngine q_spec_NewEngine x:=by unfold ok_spec_NewEngine;exact congrFun (shut _).2 x
noncomputable def D_spec_NewEngine:DSem:=DSemOf h_spec_NewEngine q_spec_NewEngine ok_spec_NewEngine v_spec_NewEngine
theorem ck_spec_NewEngine(x:(Int×(List (List (Int×Int×Int×Int))))×(List (List (Int×Int×Int)))):fnChk df_spec_NewEngine h_spec_NewEngine q_spec_NewEngine x=true:=by kernel_rfl
theorem ob_spec_NewEngine:AllD df_spec_NewEngine.body.obs:=⟨sd_spec_IsEngine,sd_spec_l9Copy,trivial⟩
theorem st_spec_NewEngine:fnSt df_spec_NewEngine h_spec_NewEngine q_spec_NewEngine=true:=by kernel_rfl
theorem sd_spec_NewEngine:SoundD p_spec_NewEngine D_spec_NewEngine:=by unfold p_spec_NewEngine;exact soundD_of (f:=df_spec_NewEngine) (hs:=h_spec_NewEngine) (q:=q_spec_NewEngine) ob_spec_NewEngine st_spec_NewEngine ck_spec_NewEngine (fun x h=>Eq.mp (ou_spec_NewEngine x) h) (fun x=>(vu_spec_NewEngine x).symm)
noncomputable def dc_impl_copyMacros:DCode:=
 (.seq [0] (.region [oa 0 2 (.mv (.c .nils))])
 (.seq [3,0] (.region [oa 0 3 (.mv (.c .nils))])
 (.seq [3] (.seq [8,7,6,3] (.region [on 0 6 0,
 oa 1 7 (.len (.t 6)),
 oi 2 8 0])
  (.block 0 (.loop [3,6,7,8] 1 (.seq [9,8,7,6,3] (.region [oa 0 9 (.bin .lss (.t 8) (.t 7))])
  (.seq [8,7,6,3] (.cond (.t 9) .skip (.exit 0))
  (.seq [8,7,6,3] (.block 1 (.seq [8,7,6,5,3] (.region [oa 0 10 (.indexA 1 (.t 6) (.t 8)),
 oa 1 11 (.loadH none (.t 10)),
 on 2 5 11])
  (.region [om 0 12 3,
 on 1 13 5,
 oa 2 14 (.app 3 (.c .nils) (.t 13)),
 ⟨3,some 15,.a false (.litSlice 1 1 [.nils] [(0,1,(.t 14))]) (some (.one (.sl rI3))),none,[]⟩,
 oa 4 16 (.app 1 (.t 12) (.t 15)),
 om 5 3 16])))
  (.region [oa 0 17 (.bin .add (.t 8) (.c (.int .i64 1))),
 om 1 8 17])))))))
  (.seq [2] (.region [om 0 18 3,
 om 1 2 18])
  .ret))))
noncomputable def df_impl_copyMacros:DFun:=⟨1,19,0,false,[.tmp 2],dc_impl_copyMacros⟩
noncomputable def pf_impl_copyMacros:PFun:=df_impl_copyMacros.er
noncomputable def f_impl_copyMacros:AFun:=pf_impl_copyMacros.er
@[irreducible] noncomputable def s_impl_copyMacros:CallSem:=funSem f_impl_copyMacros
@[irreducible] noncomputable def p_impl_copyMacros:PSem:=pfunSem pf_impl_copyMacros
theorem sp_impl_copyMacros:SoundP s_impl_copyMacros p_impl_copyMacros:=by unfold s_impl_copyMacros p_impl_copyMacros;exact pfun_sound (f:=pf_impl_copyMacros) trivial
def h_impl_copyMacros:List HT:=[.one .frz (.sl (.one (.sl rI3)))]
def q_impl_copyMacros:QT:=.one (.one .own (.sl (.one (.sl rI3))))
@[irreducible] noncomputable def v_impl_copyMacros(x:List (List (Int×Int×Int))):List (List (Int×Int×Int)):=(shut fun x=>fnV df_impl_copyMacros h_impl_copyMacros q_impl_copyMacros x).1 x
@[irreducible] noncomputable def ok_impl_copyMacros(x:List (List (Int×Int×Int))):Prop:=(shut fun x=>fnOk df_impl_copyMacros h_impl_copyMacros q_impl_copyMacros x).1 x
theorem vu_impl_copyMacros (x):v_impl_copyMacros x=fnV df_impl_copyMacros h_impl_copyMacros q_impl_copyMacros x:=by unfold v_impl_copyMacros;exact congrFun (shut _).2 x
theorem ou_impl_copyMacros (x):ok_impl_copyMacros x=fnOk df_impl_copyMacros h_impl_copyMacros q_impl_copyMacros x:=by unfold ok_impl_copyMacros;exact congrFun (shut _).2 x
noncomputable def D_impl_copyMacros:DSem:=DSemOf h_impl_copyMacros q_impl_copyMacros ok_impl_copyMacros v_impl_copyMacros
theorem ck_impl_copyMacros(x:List (List (Int×Int×Int))):fnChk df_impl_copyMacros h_impl_copyMacros q_impl_copyMacros x=true:=by kernel_rfl
theorem ob_impl_copyMacros:AllD df_impl_copyMacros.body.obs:=trivial
theorem st_impl_copyMacros:fnSt df_impl_copyMacros h_impl_copyMacros q_impl_copyMacros=true:=by kernel_rfl
theorem sd_impl_copyMacros:SoundD p_impl_copyMacros D_impl_copyMacros:=by unfold p_impl_copyMacros;exact soundD_of (f:=df_impl_copyMacros) (hs:=h_impl_copyMacros) (q:=q_impl_copyMacros) ob_impl_copyMacros st_impl_copyMacros ck_impl_copyMacros (fun x h=>Eq.mp (ou_impl_copyMacros x) h) (fun x=>(vu_impl_copyMacros x).symm)
noncomputable def dc_impl_NewEngine:DCode:=
 (.seq [4,2,1] (.region [oa 0 2 (.boxB 0 2 (.t 0)),
 oa 1 4 (.allocB 1 [(.int .i64 0),.nils,.nils,(.int .i64 0),.nils,(.int .i64 0),(.bool false)]),
 oa 2 5 (.mv (.c (.bool false)))])
  (.seq [6,4] (.region [oa 0 7 (.loadB 0 (some 2) (.t 2)),
 oc 1 8 s_impl_copyKeymap p_impl_copyKeymap D_impl_copyKeymap [(.t 7)],
 on 2 9 1,
 oc 3 10 s_impl_copyMacros p_impl_copyMacros D_impl_copyMacros [(.t 9)],
 oa 4 11 (.build [(.int .i64 0),.nils,.nils,(.int .i64 0),.nils,(.int .i64 0),(.bool false)] [(0,2,(.t 8)),(2,1,(.t 10))]),
 oa 5 6 (.allocB 2 [(.int .i64 0),.nils,.nils,(.int .i64 0),.nils,(.int .i64 0),(.bool false)]),
 os 6 (.storeB 2 7 (.t 6) (.t 11))])
  (.seq [6,4] (.seq [14,6,4] (.region [oa 0 12 (.loadB 2 (some 7) (.t 6)),
 oc 1 13 s_impl_IsEngine p_impl_IsEngine D_impl_IsEngine [(.t 12)],
 oa 2 14 (.un .not (.t 13))])
  (.cond (.t 14) (.seq [5,4] (.region [oa 0 15 (.build [(.int .i64 0),.nils,.nils,(.int .i64 0),.nils,(.int .i64 0),(.bool false)] []),
 os 1 (.storeB 1 7 (.t 4) (.t 15)),
 oa 2 5 (.mv (.c (.bool false)))])
  .ret) .skip))
  (.seq [5,4] (.region [ob 0 16 (.loadB 2 (some 7) (.t 6)),
 os 1 (.storeB 1 7 (.t 4) (.t 16)),
 oa 2 5 (.mv (.c (.bool true)))])
  .ret))))
noncomputable def df_impl_NewEngine:DFun:=⟨2,17,3,false,[.cell 4 (some 7),.tmp 5],dc_impl_NewEngine⟩
noncomputable def pf_impl_NewEngine:PFun:=df_impl_NewEngine.er
noncomputable def f_impl_NewEngine:AFun:=pf_impl_NewEngine.er
@[irreducible] noncomputable def s_impl_NewEngine:CallSem:=funSem f_impl_NewEngine
@[irreducible] noncomputable def p_impl_NewEngine:PSem:=pfunSem pf_impl_NewEngine
theorem sp_impl_NewEngine:SoundP s_impl_NewEngine p_impl_NewEngine:=by unfold s_impl_NewEngine p_impl_NewEngine;exact pfun_sound (f:=pf_impl_NewEngine) ⟨sp_impl_copyKeymap,sp_impl_copyMacros,sp_impl_IsEngine,trivial⟩
def h_impl_NewEngine:List HT:=[.agg [(.frz,.int .i64),(.frz,.sl (.one (.sl rI4)))],.one .frz (.sl (.one (.sl rI3)))]
def q_impl_NewEngine:QT:=.tup [.agg [(.own,.int .i64),(.own,.sl (.one (.sl rI4))),(.own,.sl (.one (.sl rI3))),(.own,.int .i64),(.own,.sl rI5),(.own,.int .i64),(.own,.bool)],.one .own (.bool)]
@[irreducible] noncomputable def v_impl_NewEngine(x:(Int×(List (List (Int×Int×Int×Int))))×(List (List (Int×Int×Int)))):(Int×(List (List (Int×Int×Int×Int)))×(List (List (Int×Int×Int)))×Int×(List (Int×Int×Int×Int×Int))×Int×Bool)×Bool:=(shut fun x=>fnV df_impl_NewEngine h_impl_NewEngine q_impl_NewEngine x).1 x
@[irreducible] noncomputable def ok_impl_NewEngine(x:(Int×(List (List (Int×Int×Int×Int))))×(List (List (Int×Int×Int)))):Prop:=(shut fun x=>fnOk df_impl_NewEngine h_impl_NewEngine q_impl_NewEngine x).1 x
theorem vu_impl_NewEngine (x):v_impl_NewEngine x=fnV df_impl_NewEngine h_impl_NewEngine q_impl_NewEngine x:=by unfold v_impl_NewEngine;exact congrFun (shut _).2 x
theorem ou_impl_NewEngine (x):ok_impl_NewEngine x=fnOk df_impl_NewEngine h_impl_NewEngine q_impl_NewEngine x:=by unfold ok_impl_NewEngine;exact congrFun (shut _).2 x
noncomputable def D_impl_NewEngine:DSem:=DSemOf h_impl_NewEngine q_impl_NewEngine ok_impl_NewEngine v_impl_NewEngine
theorem ck_impl_NewEngine(x:(Int×(List (List (Int×Int×Int×Int))))×(List (List (Int×Int×Int)))):fnChk df_impl_NewEngine h_impl_NewEngine q_impl_NewEngine x=true:=by kernel_rfl
theorem ob_impl_NewEngine:AllD df_impl_NewEngine.body.obs:=⟨sd_impl_copyKeymap,sd_impl_copyMacros,sd_impl_IsEngine,trivial⟩
theorem st_impl_NewEngine:fnSt df_impl_NewEngine h_impl_NewEngine q_impl_NewEngine=true:=by kernel_rfl
theorem sd_impl_NewEngine:SoundD p_impl_NewEngine D_impl_NewEngine:=by unfold p_impl_NewEngine;exact soundD_of (f:=df_impl_NewEngine) (hs:=h_impl_NewEngine) (q:=q_impl_NewEngine) ob_impl_NewEngine st_impl_NewEngine ck_impl_NewEngine (fun x h=>Eq.mp (ou_impl_NewEngine x) h) (fun x=>(vu_impl_NewEngine x).symm)
noncomputable def c_laws_markStepS:ACode:=
 (.seq (.region [⟨0,some 4,.mv (.c (.int .i64 0)),none,[]⟩])
 (.seq (.seq (.region [⟨0,some 5,.mv (.c (.int .i64 0)),none,[]⟩])
 (.block 0 (.loop [0,1,5] (.seq (.seq (.region [⟨0,some 6,.mv (.t 5),none,[]⟩,
 ⟨1,some 7,.mv (.t 0),none,[]⟩,
 ⟨2,some 8,.len (.t 7),none,[]⟩,
 ⟨3,some 9,.bin .lss (.t 6) (.t 8),none,[]⟩])
  (.cond (.t 9) .skip (.exit 0)))
  (.seq (.block 1 (.seq (.region [⟨0,some 12,.mv (.t 0),none,[]⟩,
 ⟨1,some 13,.mv (.t 5),none,[]⟩,
 ⟨2,some 14,.mv (.t 1),none,[]⟩,
 ⟨3,some 15,.indexA 3 (.t 12) (.t 13),none,[]⟩,
 ⟨4,some 16,.fieldA 0 (.t 15),none,[]⟩,
 ⟨5,none,.storeH 1 (.t 16) (.t 14),none,[]⟩])
  (.seq (.region [⟨0,some 17,.mv (.t 1),none,[]⟩,
 ⟨1,some 18,.bin .add (.t 17) (.c (.int .i64 1)),none,[]⟩,
 ⟨2,some 1,.mv (.t 18),none,[]⟩])
  (.seq (.region [⟨0,some 19,.mv (.t 0),none,[]⟩,
 ⟨1,some 20,.mv (.t 5),none,[]⟩,
 ⟨2,some 21,.mv (.t 1),none,[]⟩,
 ⟨3,some 22,.indexA 3 (.t 19) (.t 20),none,[]⟩,
 ⟨4,some 23,.fieldA 1 (.t 22),none,[]⟩,
 ⟨5,none,.storeH 1 (.t 23) (.t 21),none,[]⟩])
  (.seq (.region [⟨0,some 24,.mv (.t 1),none,[]⟩,
 ⟨1,some 25,.bin .add (.t 24) (.c (.int .i64 1)),none,[]⟩,
 ⟨2,some 1,.mv (.t 25),none,[]⟩])
  (.seq (.region [⟨0,some 26,.mv (.t 0),none,[]⟩,
 ⟨1,some 27,.mv (.t 5),none,[]⟩,
 ⟨2,some 28,.mv (.t 1),none,[]⟩,
 ⟨3,some 29,.indexA 3 (.t 26) (.t 27),none,[]⟩,
 ⟨4,some 30,.fieldA 2 (.t 29),none,[]⟩,
 ⟨5,none,.storeH 1 (.t 30) (.t 28),none,[]⟩])
  (.region [⟨0,some 31,.mv (.t 1),none,[]⟩,
 ⟨1,some 32,.bin .add (.t 31) (.c (.int .i64 1)),none,[]⟩,
 ⟨2,some 1,.mv (.t 32),none,[]⟩])))))))
  (.region [⟨0,some 10,.mv (.t 5),none,[]⟩,
 ⟨1,some 11,.bin .add (.t 10) (.c (.int .i64 1)),none,[]⟩,
 ⟨2,some 5,.mv (.t 11),none,[]⟩]))))))
  (.seq (.region [⟨0,some 33,.mv (.t 1),none,[]⟩,
 ⟨1,some 4,.mv (.t 33),none,[]⟩])
  .ret)))
noncomputable def f_laws_markStepS:AFun:=⟨2,34,0,false,[.tmp 4],c_laws_markStepS⟩
@[irreducible] noncomputable def s_laws_markStepS:CallSem:=funSem f_laws_markStepS
@[irreducible] noncomputable def mg_laws_markStepS(x:List (Int×Int×Int))(m:Int):(List (Int×Int×Int))×Int:=(shut fun(x:List (Int×Int×Int)) (m:Int)=>mkL (RT.mkI rI3) x m).1 x m
@[irreducible] noncomputable def mok_laws_markStepS(x:List (Int×Int×Int)):Prop:=(shut fun(x:List (Int×Int×Int))=>CT.wl (.sl rI3) x).1 x
theorem mgu_laws_markStepS:mg_laws_markStepS=fun x m=>mkL (RT.mkI rI3) x m:=by unfold mg_laws_markStepS;exact(shut _).2
theorem mou_laws_markStepS:mok_laws_markStepS=fun x=>CT.wl (.sl rI3) x:=by unfold mok_laws_markStepS;exact(shut _).2
theorem sl_laws_markStepS:SlC s_laws_markStepS rI3:=by
 rintro h ω hd p l u m Q hok hinj hM hQ
 have hn:=hM.len
 have hlb:l.length≤9223372036854775807:=hok.1
 unfold s_laws_markStepS
 refine fun_intro rfl ?_
 unfold c_laws_markStepS
 repeat' (first|(simp only[go_sem,reduceIte,reduceCtorEq,Nat.reduceAdd,Nat.reduceBEq,Int.reduceLT,Int.reduceLE,Int.reduceGT,Int.reduceGE,Int.reduceBEq,Int.reduceBNe,Nat.reduceEqDiff,Nat.reduceLeDiff,Nat.reduceLT,hn])|(refine aops_part rfl (fun hb=>?_) (fun hb=>?_)<;>simp only[hb,go_sem,reduceIte,reduceCtorEq,Nat.reduceAdd,Nat.reduceBEq,Int.reduceLT,Int.reduceLE,Int.reduceGT,Int.reduceGE,Int.reduceBEq,Int.reduceBNe,Nat.reduceEqDiff,Nat.reduceLeDiff,Nat.reduceLT,hn])|(refine awp_part rfl (fun hb=>?_) (fun hb=>?_)<;>simp only[hb,go_sem,reduceIte,reduceCtorEq,Nat.reduceAdd,Nat.reduceBEq,Int.reduceLT,Int.reduceLE,Int.reduceGT,Int.reduceGE,Int.reduceBEq,Int.reduceBNe,Nat.reduceEqDiff,Nat.reduceLeDiff,Nat.reduceLT,hn])|(refine wop_pick_part rfl (fun hb=>?_) (fun hb=>?_)<;>simp only[hb,go_sem,reduceIte,reduceCtorEq,Nat.reduceAdd,Nat.reduceBEq,Int.reduceLT,Int.reduceLE,Int.reduceGT,Int.reduceGE,Int.reduceBEq,Int.reduceBNe,Nat.reduceEqDiff,Nat.reduceLeDiff,Nat.reduceLT,hn]))
 refine loop_up l.length (fun i st=>∃ h',st=⟨[u,.int .i64 (mkPre (RT.mkI rI3) l m i).2,.undef,.undef,.undef,.int .i64 (i:Int)]++reps 28,[],h'⟩∧Only (Under ω hd p) h h'∧MS h' ω hd p rI3 (mkPre (RT.mkI rI3) l m i).1 u) ?_ ?_
 · refine⟨h,?_,Only.refl _ _,hM⟩
   simp only[mkPre_zero,keep,Int.natCast_zero]
   rfl
 · rintro i st next hi ⟨h1,rfl,hO,hR⟩ hnx
   by_cases hlt:i<l.length
   · have hc:decide ((i:Int)<(l.length:Int))=true:=decide_eq_true (by omega)
     have hw:IntKind.i64.wrap ((i:Int)+1)=((i+1:Nat):Int):=by rw[wrapI (by omega)];omega
     obtain⟨b,hub⟩:=hR.slice (by rw[mkPre_len];omega)
     rw[mkPre_len] at hub
     subst hub
     cases hL:mkPre (RT.mkI rI3) l m i with
     |mk L k0=>
     rw[hL] at hR
     obtain⟨hLl,hs,hx0⟩:=mkPre_step hlt hL
     have hiL:i<L.length:=by omega
     have hwx:=wl_get hok hlt
     rw[← hx0] at hwx
     have R0:=MS.frame hR hiL
     clear hx0
     generalize hx0:List.getD L i (RT.dflt rI3)=x0 at R0 hs hwx
     clear hx0
     have hx:=idx_own (b:=b) (w:=3) hlt (k:=.i64)
     simp only
     obtain⟨h2,s0,o0,R1⟩:=MS.st R0 hiL (off:=0) (by decide) (v:=(.int .i64 k0)) rfl rfl (y:=((k0,x0.2.1,x0.2.2):RT.D rI3)) rfl hinj []
     replace s0:x_storeH [] h1 1 (.ptr b (i*3)) (.int .i64 k0)=some (.undef,[],h2):=s0
     obtain⟨h3,s1,o1,R2⟩:=MS.st R1 hiL (off:=1) (by decide) (v:=(.int .i64 (IntKind.i64.wrap (k0+1)))) rfl rfl (y:=((k0,(IntKind.i64.wrap (k0+1)),x0.2.2):RT.D rI3)) rfl hinj []
     replace s1:x_storeH [] h2 1 (.ptr b (i*3+1)) (.int .i64 (IntKind.i64.wrap (k0+1)))=some (.undef,[],h3):=s1
     obtain⟨h4,s2,o2,R3⟩:=MS.st R2 hiL (off:=2) (by decide) (v:=(.int .i64 (IntKind.i64.wrap (IntKind.i64.wrap (k0+1)+1)))) rfl rfl (y:=((k0,(IntKind.i64.wrap (k0+1)),(IntKind.i64.wrap (IntKind.i64.wrap (k0+1)+1))):RT.D rI3)) rfl hinj []
     replace s2:x_storeH [] h3 1 (.ptr b (i*3+2)) (.int .i64 (IntKind.i64.wrap (IntKind.i64.wrap (k0+1)+1)))=some (.undef,[],h4):=s2
     repeat' (first|(simp only[go_sem,reduceIte,reduceCtorEq,Nat.reduceAdd,Nat.reduceBEq,Int.reduceLT,Int.reduceLE,Int.reduceGT,Int.reduceGE,Int.reduceBEq,Int.reduceBNe,Nat.reduceEqDiff,Nat.reduceLeDiff,Nat.reduceLT,hn,hc,hw,hx,s0,s1,s2])|(refine aops_part rfl (fun hb=>?_) (fun hb=>?_)<;>simp only[hb,go_sem,reduceIte,reduceCtorEq,Nat.reduceAdd,Nat.reduceBEq,Int.reduceLT,Int.reduceLE,Int.reduceGT,Int.reduceGE,Int.reduceBEq,Int.reduceBNe,Nat.reduceEqDiff,Nat.reduceLeDiff,Nat.reduceLT,hn,hc,hw,hx,s0,s1,s2])|(refine awp_part rfl (fun hb=>?_) (fun hb=>?_)<;>simp only[hb,go_sem,reduceIte,reduceCtorEq,Nat.reduceAdd,Nat.reduceBEq,Int.reduceLT,Int.reduceLE,Int.reduceGT,Int.reduceGE,Int.reduceBEq,Int.reduceBNe,Nat.reduceEqDiff,Nat.reduceLeDiff,Nat.reduceLT,hn,hc,hw,hx,s0,s1,s2])|(refine wop_pick_part rfl (fun hb=>?_) (fun hb=>?_)<;>simp only[hb,go_sem,reduceIte,reduceCtorEq,Nat.reduceAdd,Nat.reduceBEq,Int.reduceLT,Int.reduceLE,Int.reduceGT,Int.reduceGE,Int.reduceBEq,Int.reduceBNe,Nat.reduceEqDiff,Nat.reduceLeDiff,Nat.reduceLT,hn,hc,hw,hx,s0,s1,s2]))
     exact hnx _ hlt ⟨h4,by rw[hs];rfl,(Only.trans (Only.trans (Only.trans hO o0) o1) o2),by rw[hs];exact R3⟩
   · have hc:decide ((i:Int)<(l.length:Int))=false:=decide_eq_false (by omega)
     have hi':i=l.length:=by omega
     subst hi'
     repeat' (first|(simp only[go_sem,reduceIte,reduceCtorEq,Nat.reduceAdd,Nat.reduceBEq,Int.reduceLT,Int.reduceLE,Int.reduceGT,Int.reduceGE,Int.reduceBEq,Int.reduceBNe,Nat.reduceEqDiff,Nat.reduceLeDiff,Nat.reduceLT,hn,hc])|(refine aops_part rfl (fun hb=>?_) (fun hb=>?_)<;>simp only[hb,go_sem,reduceIte,reduceCtorEq,Nat.reduceAdd,Nat.reduceBEq,Int.reduceLT,Int.reduceLE,Int.reduceGT,Int.reduceGE,Int.reduceBEq,Int.reduceBNe,Nat.reduceEqDiff,Nat.reduceLeDiff,Nat.reduceLT,hn,hc])|(refine awp_part rfl (fun hb=>?_) (fun hb=>?_)<;>simp only[hb,go_sem,reduceIte,reduceCtorEq,Nat.reduceAdd,Nat.reduceBEq,Int.reduceLT,Int.reduceLE,Int.reduceGT,Int.reduceGE,Int.reduceBEq,Int.reduceBNe,Nat.reduceEqDiff,Nat.reduceLeDiff,Nat.reduceLT,hn,hc])|(refine wop_pick_part rfl (fun hb=>?_) (fun hb=>?_)<;>simp only[hb,go_sem,reduceIte,reduceCtorEq,Nat.reduceAdd,Nat.reduceBEq,Int.reduceLT,Int.reduceLE,Int.reduceGT,Int.reduceGE,Int.reduceBEq,Int.reduceBNe,Nat.reduceEqDiff,Nat.reduceLeDiff,Nat.reduceLT,hn,hc]))
     have e:=mkPre_all (RT.mkI rI3) l m
     rw[e] at hR ⊢
     exact hQ h1 hO hR
noncomputable def c_laws_markStepSS:ACode:=
 (.seq (.region [⟨0,some 4,.mv (.c (.int .i64 0)),none,[]⟩])
 (.seq (.seq (.region [⟨0,some 5,.mv (.c (.int .i64 0)),none,[]⟩])
 (.block 0 (.loop [0,1,5] (.seq (.seq (.region [⟨0,some 6,.mv (.t 5),none,[]⟩,
 ⟨1,some 7,.mv (.t 0),none,[]⟩,
 ⟨2,some 8,.len (.t 7),none,[]⟩,
 ⟨3,some 9,.bin .lss (.t 6) (.t 8),none,[]⟩])
  (.cond (.t 9) .skip (.exit 0)))
  (.seq (.block 1 (.region [⟨0,some 12,.mv (.t 0),none,[]⟩,
 ⟨1,some 13,.mv (.t 5),none,[]⟩,
 ⟨2,some 14,.indexA 1 (.t 12) (.t 13),none,[]⟩,
 ⟨3,some 15,.loadH none (.t 14),none,[]⟩,
 ⟨4,some 16,.mv (.t 1),none,[]⟩,
 ⟨5,some 17,.call s_laws_markStepS [(.t 15),(.t 16)],none,[]⟩,
 ⟨6,some 1,.mv (.t 17),none,[]⟩]))
  (.region [⟨0,some 10,.mv (.t 5),none,[]⟩,
 ⟨1,some 11,.bin .add (.t 10) (.c (.int .i64 1)),none,[]⟩,
 ⟨2,some 5,.mv (.t 11),none,[]⟩]))))))
  (.seq (.region [⟨0,some 18,.mv (.t 1),none,[]⟩,
 ⟨1,some 4,.mv (.t 18),none,[]⟩])
  .ret)))
noncomputable def f_laws_markStepSS:AFun:=⟨2,19,0,false,[.tmp 4],c_laws_markStepSS⟩
@[irreducible] noncomputable def s_laws_markStepSS:CallSem:=funSem f_laws_markStepSS
@[irreducible] noncomputable def mg_laws_markStepSS(x:List (List (Int×Int×Int)))(m:Int):(List (List (Int×Int×Int)))×Int:=(shut fun(x:List (List (Int×Int×Int))) (m:Int)=>mkL (RT.mkI (.one (.sl rI3))) x m).1 x m
@[irreducible] noncomputable def mok_laws_markStepSS(x:List (List (Int×Int×Int))):Prop:=(shut fun(x:List (List (Int×Int×Int)))=>CT.wl (.sl (.one (.sl rI3))) x).1 x
theorem mgu_laws_markStepSS:mg_laws_markStepSS=fun x m=>mkL (RT.mkI (.one (.sl rI3))) x m:=by unfold mg_laws_markStepSS;exact(shut _).2
theorem mou_laws_markStepSS:mok_laws_markStepSS=fun x=>CT.wl (.sl (.one (.sl rI3))) x:=by unfold mok_laws_markStepSS;exact(shut _).2
theorem sl_laws_markStepSS:SlC s_laws_markStepSS (.one (.sl rI3)):=by
 rintro h ω hd p l u m Q hok hinj hM hQ
 have hn:=hM.len
 have hlb:l.length≤9223372036854775807:=hok.1
 unfold s_laws_markStepSS
 refine fun_intro rfl ?_
 unfold c_laws_markStepSS
 repeat' (first|(simp only[go_sem,reduceIte,reduceCtorEq,Nat.reduceAdd,Nat.reduceBEq,Int.reduceLT,Int.reduceLE,Int.reduceGT,Int.reduceGE,Int.reduceBEq,Int.reduceBNe,Nat.reduceEqDiff,Nat.reduceLeDiff,Nat.reduceLT,hn])|(refine aops_part rfl (fun hb=>?_) (fun hb=>?_)<;>simp only[hb,go_sem,reduceIte,reduceCtorEq,Nat.reduceAdd,Nat.reduceBEq,Int.reduceLT,Int.reduceLE,Int.reduceGT,Int.reduceGE,Int.reduceBEq,Int.reduceBNe,Nat.reduceEqDiff,Nat.reduceLeDiff,Nat.reduceLT,hn])|(refine awp_part rfl (fun hb=>?_) (fun hb=>?_)<;>simp only[hb,go_sem,reduceIte,reduceCtorEq,Nat.reduceAdd,Nat.reduceBEq,Int.reduceLT,Int.reduceLE,Int.reduceGT,Int.reduceGE,Int.reduceBEq,Int.reduceBNe,Nat.reduceEqDiff,Nat.reduceLeDiff,Nat.reduceLT,hn])|(refine wop_pick_part rfl (fun hb=>?_) (fun hb=>?_)<;>simp only[hb,go_sem,reduceIte,reduceCtorEq,Nat.reduceAdd,Nat.reduceBEq,Int.reduceLT,Int.reduceLE,Int.reduceGT,Int.reduceGE,Int.reduceBEq,Int.reduceBNe,Nat.reduceEqDiff,Nat.reduceLeDiff,Nat.reduceLT,hn]))
 refine loop_up l.length (fun i st=>∃ h',st=⟨[u,.int .i64 (mkPre (RT.mkI (.one (.sl rI3))) l m i).2,.undef,.undef,.undef,.int .i64 (i:Int)]++reps 13,[],h'⟩∧Only (Under ω hd p) h h'∧MS h' ω hd p (.one (.sl rI3)) (mkPre (RT.mkI (.one (.sl rI3))) l m i).1 u) ?_ ?_
 · refine⟨h,?_,Only.refl _ _,hM⟩
   simp only[mkPre_zero,keep,Int.natCast_zero]
   rfl
 · rintro i st next hi ⟨h1,rfl,hO,hR⟩ hnx
   by_cases hlt:i<l.length
   · have hc:decide ((i:Int)<(l.length:Int))=true:=decide_eq_true (by omega)
     have hw:IntKind.i64.wrap ((i:Int)+1)=((i+1:Nat):Int):=by rw[wrapI (by omega)];omega
     obtain⟨b,hub⟩:=hR.slice (by rw[mkPre_len];omega)
     rw[mkPre_len] at hub
     subst hub
     cases hL:mkPre (RT.mkI (.one (.sl rI3))) l m i with
     |mk L k0=>
     rw[hL] at hR
     obtain⟨hLl,hs,hx0⟩:=mkPre_step hlt hL
     have hiL:i<L.length:=by omega
     have hwx:=wl_get hok hlt
     rw[← hx0] at hwx
     have R0:=MS.frame hR hiL
     clear hx0
     generalize hx0:List.getD L i (RT.dflt (.one (.sl rI3)))=x0 at R0 hs hwx
     clear hx0
     have hx:=idx_own (b:=b) (w:=1) hlt (k:=.i64)
     simp only
     obtain⟨u0,s0,M0,f0⟩:=MS.sb R0 hiL (off:=0) (by decide) (r':=rI3) (l':=x0) rfl
     replace s0:v_loadH h1 none (.ptr b (i*1))=some u0:=s0
     have ok0:=(MS.ok1 M0).1
     repeat' (first|(simp only[go_sem,reduceIte,reduceCtorEq,Nat.reduceAdd,Nat.reduceBEq,Int.reduceLT,Int.reduceLE,Int.reduceGT,Int.reduceGE,Int.reduceBEq,Int.reduceBNe,Nat.reduceEqDiff,Nat.reduceLeDiff,Nat.reduceLT,hn,hc,hw,hx,s0,ok0])|(refine aops_part rfl (fun hb=>?_) (fun hb=>?_)<;>simp only[hb,go_sem,reduceIte,reduceCtorEq,Nat.reduceAdd,Nat.reduceBEq,Int.reduceLT,Int.reduceLE,Int.reduceGT,Int.reduceGE,Int.reduceBEq,Int.reduceBNe,Nat.reduceEqDiff,Nat.reduceLeDiff,Nat.reduceLT,hn,hc,hw,hx,s0,ok0])|(refine awp_part rfl (fun hb=>?_) (fun hb=>?_)<;>simp only[hb,go_sem,reduceIte,reduceCtorEq,Nat.reduceAdd,Nat.reduceBEq,Int.reduceLT,Int.reduceLE,Int.reduceGT,Int.reduceGE,Int.reduceBEq,Int.reduceBNe,Nat.reduceEqDiff,Nat.reduceLeDiff,Nat.reduceLT,hn,hc,hw,hx,s0,ok0])|(refine wop_pick_part rfl (fun hb=>?_) (fun hb=>?_)<;>simp only[hb,go_sem,reduceIte,reduceCtorEq,Nat.reduceAdd,Nat.reduceBEq,Int.reduceLT,Int.reduceLE,Int.reduceGT,Int.reduceGE,Int.reduceBEq,Int.reduceBNe,Nat.reduceEqDiff,Nat.reduceLeDiff,Nat.reduceLT,hn,hc,hw,hx,s0,ok0]))
     refine callN (sl_laws_markStepS h1 ω hd _ x0 u0 k0 _ hwx hinj M0 fun h2 O0 N0=>?_)
     obtain⟨o0,R1⟩:=f0 h2 _ ((mkL (RT.mkI rI3) x0 k0).1:RT.D (.one (.sl rI3))) O0 N0 rfl
     repeat' (first|(simp only[go_sem,reduceIte,reduceCtorEq,Nat.reduceAdd,Nat.reduceBEq,Int.reduceLT,Int.reduceLE,Int.reduceGT,Int.reduceGE,Int.reduceBEq,Int.reduceBNe,Nat.reduceEqDiff,Nat.reduceLeDiff,Nat.reduceLT,hn,hc,hw,hx,s0,ok0])|(refine aops_part rfl (fun hb=>?_) (fun hb=>?_)<;>simp only[hb,go_sem,reduceIte,reduceCtorEq,Nat.reduceAdd,Nat.reduceBEq,Int.reduceLT,Int.reduceLE,Int.reduceGT,Int.reduceGE,Int.reduceBEq,Int.reduceBNe,Nat.reduceEqDiff,Nat.reduceLeDiff,Nat.reduceLT,hn,hc,hw,hx,s0,ok0])|(refine awp_part rfl (fun hb=>?_) (fun hb=>?_)<;>simp only[hb,go_sem,reduceIte,reduceCtorEq,Nat.reduceAdd,Nat.reduceBEq,Int.reduceLT,Int.reduceLE,Int.reduceGT,Int.reduceGE,Int.reduceBEq,Int.reduceBNe,Nat.reduceEqDiff,Nat.reduceLeDiff,Nat.reduceLT,hn,hc,hw,hx,s0,ok0])|(refine wop_pick_part rfl (fun hb=>?_) (fun hb=>?_)<;>simp only[hb,go_sem,reduceIte,reduceCtorEq,Nat.reduceAdd,Nat.reduceBEq,Int.reduceLT,Int.reduceLE,Int.reduceGT,Int.reduceGE,Int.reduceBEq,Int.reduceBNe,Nat.reduceEqDiff,Nat.reduceLeDiff,Nat.reduceLT,hn,hc,hw,hx,s0,ok0]))
     exact hnx _ hlt ⟨h2,by rw[hs];rfl,(Only.trans hO o0),by rw[hs];exact R1⟩
   · have hc:decide ((i:Int)<(l.length:Int))=false:=decide_eq_false (by omega)
     have hi':i=l.length:=by omega
     subst hi'
     repeat' (first|(simp only[go_sem,reduceIte,reduceCtorEq,Nat.reduceAdd,Nat.reduceBEq,Int.reduceLT,Int.reduceLE,Int.reduceGT,Int.reduceGE,Int.reduceBEq,Int.reduceBNe,Nat.reduceEqDiff,Nat.reduceLeDiff,Nat.reduceLT,hn,hc])|(refine aops_part rfl (fun hb=>?_) (fun hb=>?_)<;>simp only[hb,go_sem,reduceIte,reduceCtorEq,Nat.reduceAdd,Nat.reduceBEq,Int.reduceLT,Int.reduceLE,Int.reduceGT,Int.reduceGE,Int.reduceBEq,Int.reduceBNe,Nat.reduceEqDiff,Nat.reduceLeDiff,Nat.reduceLT,hn,hc])|(refine awp_part rfl (fun hb=>?_) (fun hb=>?_)<;>simp only[hb,go_sem,reduceIte,reduceCtorEq,Nat.reduceAdd,Nat.reduceBEq,Int.reduceLT,Int.reduceLE,Int.reduceGT,Int.reduceGE,Int.reduceBEq,Int.reduceBNe,Nat.reduceEqDiff,Nat.reduceLeDiff,Nat.reduceLT,hn,hc])|(refine wop_pick_part rfl (fun hb=>?_) (fun hb=>?_)<;>simp only[hb,go_sem,reduceIte,reduceCtorEq,Nat.reduceAdd,Nat.reduceBEq,Int.reduceLT,Int.reduceLE,Int.reduceGT,Int.reduceGE,Int.reduceBEq,Int.reduceBNe,Nat.reduceEqDiff,Nat.reduceLeDiff,Nat.reduceLT,hn,hc]))
     have e:=mkPre_all (RT.mkI (.one (.sl rI3))) l m
     rw[e] at hR ⊢
     exact hQ h1 hO hR
theorem mk_laws_markStepSS:SoundM s_laws_markStepSS (slMk (.one (.sl rI3))).P:=SlC.sound sl_laws_markStepSS
noncomputable def M_laws_markStepSS:DMk:=⟨.one (.sl (.one (.sl rI3))),false,mok_laws_markStepSS,mg_laws_markStepSS⟩
theorem smk_laws_markStepSS:SoundM s_laws_markStepSS (DMk.P M_laws_markStepSS):=by unfold M_laws_markStepSS;rw[mou_laws_markStepSS,mgu_laws_markStepSS];exact mk_laws_markStepSS
noncomputable def c_laws_markHeldS:ACode:=
 (.seq (.region [⟨0,some 4,.mv (.c (.int .i64 0)),none,[]⟩])
 (.seq (.seq (.region [⟨0,some 5,.mv (.c (.int .i64 0)),none,[]⟩])
 (.block 0 (.loop [0,1,5] (.seq (.seq (.region [⟨0,some 6,.mv (.t 5),none,[]⟩,
 ⟨1,some 7,.mv (.t 0),none,[]⟩,
 ⟨2,some 8,.len (.t 7),none,[]⟩,
 ⟨3,some 9,.bin .lss (.t 6) (.t 8),none,[]⟩])
  (.cond (.t 9) .skip (.exit 0)))
  (.seq (.block 1 (.seq (.region [⟨0,some 12,.mv (.t 0),none,[]⟩,
 ⟨1,some 13,.mv (.t 5),none,[]⟩,
 ⟨2,some 14,.mv (.t 1),none,[]⟩,
 ⟨3,some 15,.indexA 5 (.t 12) (.t 13),none,[]⟩,
 ⟨4,some 16,.fieldA 0 (.t 15),none,[]⟩,
 ⟨5,none,.storeH 1 (.t 16) (.t 14),none,[]⟩])
  (.seq (.region [⟨0,some 17,.mv (.t 1),none,[]⟩,
 ⟨1,some 18,.bin .add (.t 17) (.c (.int .i64 1)),none,[]⟩,
 ⟨2,some 1,.mv (.t 18),none,[]⟩])
  (.seq (.region [⟨0,some 19,.mv (.t 0),none,[]⟩,
 ⟨1,some 20,.mv (.t 5),none,[]⟩,
 ⟨2,some 21,.mv (.t 1),none,[]⟩,
 ⟨3,some 22,.indexA 5 (.t 19) (.t 20),none,[]⟩,
 ⟨4,some 23,.fieldA 1 (.t 22),none,[]⟩,
 ⟨5,some 24,.fieldA 0 (.t 23),none,[]⟩,
 ⟨6,none,.storeH 1 (.t 24) (.t 21),none,[]⟩])
  (.seq (.region [⟨0,some 25,.mv (.t 1),none,[]⟩,
 ⟨1,some 26,.bin .add (.t 25) (.c (.int .i64 1)),none,[]⟩,
 ⟨2,some 1,.mv (.t 26),none,[]⟩])
  (.seq (.region [⟨0,some 27,.mv (.t 0),none,[]⟩,
 ⟨1,some 28,.mv (.t 5),none,[]⟩,
 ⟨2,some 29,.mv (.t 1),none,[]⟩,
 ⟨3,some 30,.indexA 5 (.t 27) (.t 28),none,[]⟩,
 ⟨4,some 31,.fieldA 1 (.t 30),none,[]⟩,
 ⟨5,some 32,.fieldA 1 (.t 31),none,[]⟩,
 ⟨6,none,.storeH 1 (.t 32) (.t 29),none,[]⟩])
  (.seq (.region [⟨0,some 33,.mv (.t 1),none,[]⟩,
 ⟨1,some 34,.bin .add (.t 33) (.c (.int .i64 1)),none,[]⟩,
 ⟨2,some 1,.mv (.t 34),none,[]⟩])
  (.seq (.region [⟨0,some 35,.mv (.t 0),none,[]⟩,
 ⟨1,some 36,.mv (.t 5),none,[]⟩,
 ⟨2,some 37,.mv (.t 1),none,[]⟩,
 ⟨3,some 38,.indexA 5 (.t 35) (.t 36),none,[]⟩,
 ⟨4,some 39,.fieldA 1 (.t 38),none,[]⟩,
 ⟨5,some 40,.fieldA 2 (.t 39),none,[]⟩,
 ⟨6,none,.storeH 1 (.t 40) (.t 37),none,[]⟩])
  (.seq (.region [⟨0,some 41,.mv (.t 1),none,[]⟩,
 ⟨1,some 42,.bin .add (.t 41) (.c (.int .i64 1)),none,[]⟩,
 ⟨2,some 1,.mv (.t 42),none,[]⟩])
  (.seq (.region [⟨0,some 43,.mv (.t 0),none,[]⟩,
 ⟨1,some 44,.mv (.t 5),none,[]⟩,
 ⟨2,some 45,.mv (.t 1),none,[]⟩,
 ⟨3,some 46,.indexA 5 (.t 43) (.t 44),none,[]⟩,
 ⟨4,some 47,.fieldA 1 (.t 46),none,[]⟩,
 ⟨5,some 48,.fieldA 3 (.t 47),none,[]⟩,
 ⟨6,none,.storeH 1 (.t 48) (.t 45),none,[]⟩])
  (.region [⟨0,some 49,.mv (.t 1),none,[]⟩,
 ⟨1,some 50,.bin .add (.t 49) (.c (.int .i64 1)),none,[]⟩,
 ⟨2,some 1,.mv (.t 50),none,[]⟩])))))))))))
  (.region [⟨0,some 10,.mv (.t 5),none,[]⟩,
 ⟨1,some 11,.bin .add (.t 10) (.c (.int .i64 1)),none,[]⟩,
 ⟨2,some 5,.mv (.t 11),none,[]⟩]))))))
  (.seq (.region [⟨0,some 51,.mv (.t 1),none,[]⟩,
 ⟨1,some 4,.mv (.t 51),none,[]⟩])
  .ret)))
noncomputable def f_laws_markHeldS:AFun:=⟨2,52,0,false,[.tmp 4],c_laws_markHeldS⟩
@[irreducible] noncomputable def s_laws_markHeldS:CallSem:=funSem f_laws_markHeldS
@[irreducible] noncomputable def mg_laws_markHeldS(x:List (Int×Int×Int×Int×Int))(m:Int):(List (Int×Int×Int×Int×Int))×Int:=(shut fun(x:List (Int×Int×Int×Int×Int)) (m:Int)=>mkL (RT.mkI rI5) x m).1 x m
@[irreducible] noncomputable def mok_laws_markHeldS(x:List (Int×Int×Int×Int×Int)):Prop:=(shut fun(x:List (Int×Int×Int×Int×Int))=>CT.wl (.sl rI5) x).1 x
theorem mgu_laws_markHeldS:mg_laws_markHeldS=fun x m=>mkL (RT.mkI rI5) x m:=by unfold mg_laws_markHeldS;exact(shut _).2
theorem mou_laws_markHeldS:mok_laws_markHeldS=fun x=>CT.wl (.sl rI5) x:=by unfold mok_laws_markHeldS;exact(shut _).2
theorem sl_laws_markHeldS:SlC s_laws_markHeldS rI5:=by
 rintro h ω hd p l u m Q hok hinj hM hQ
 have hn:=hM.len
 have hlb:l.length≤9223372036854775807:=hok.1
 unfold s_laws_markHeldS
 refine fun_intro rfl ?_
 unfold c_laws_markHeldS
 repeat' (first|(simp only[go_sem,reduceIte,reduceCtorEq,Nat.reduceAdd,Nat.reduceBEq,Int.reduceLT,Int.reduceLE,Int.reduceGT,Int.reduceGE,Int.reduceBEq,Int.reduceBNe,Nat.reduceEqDiff,Nat.reduceLeDiff,Nat.reduceLT,hn])|(refine aops_part rfl (fun hb=>?_) (fun hb=>?_)<;>simp only[hb,go_sem,reduceIte,reduceCtorEq,Nat.reduceAdd,Nat.reduceBEq,Int.reduceLT,Int.reduceLE,Int.reduceGT,Int.reduceGE,Int.reduceBEq,Int.reduceBNe,Nat.reduceEqDiff,Nat.reduceLeDiff,Nat.reduceLT,hn])|(refine awp_part rfl (fun hb=>?_) (fun hb=>?_)<;>simp only[hb,go_sem,reduceIte,reduceCtorEq,Nat.reduceAdd,Nat.reduceBEq,Int.reduceLT,Int.reduceLE,Int.reduceGT,Int.reduceGE,Int.reduceBEq,Int.reduceBNe,Nat.reduceEqDiff,Nat.reduceLeDiff,Nat.reduceLT,hn])|(refine wop_pick_part rfl (fun hb=>?_) (fun hb=>?_)<;>simp only[hb,go_sem,reduceIte,reduceCtorEq,Nat.reduceAdd,Nat.reduceBEq,Int.reduceLT,Int.reduceLE,Int.reduceGT,Int.reduceGE,Int.reduceBEq,Int.reduceBNe,Nat.reduceEqDiff,Nat.reduceLeDiff,Nat.reduceLT,hn]))
 refine loop_up l.length (fun i st=>∃ h',st=⟨[u,.int .i64 (mkPre (RT.mkI rI5) l m i).2,.undef,.undef,.undef,.int .i64 (i:Int)]++reps 46,[],h'⟩∧Only (Under ω hd p) h h'∧MS h' ω hd p rI5 (mkPre (RT.mkI rI5) l m i).1 u) ?_ ?_
 · refine⟨h,?_,Only.refl _ _,hM⟩
   simp only[mkPre_zero,keep,Int.natCast_zero]
   rfl
 · rintro i st next hi ⟨h1,rfl,hO,hR⟩ hnx
   by_cases hlt:i<l.length
   · have hc:decide ((i:Int)<(l.length:Int))=true:=decide_eq_true (by omega)
     have hw:IntKind.i64.wrap ((i:Int)+1)=((i+1:Nat):Int):=by rw[wrapI (by omega)];omega
     obtain⟨b,hub⟩:=hR.slice (by rw[mkPre_len];omega)
     rw[mkPre_len] at hub
     subst hub
     cases hL:mkPre (RT.mkI rI5) l m i with
     |mk L k0=>
     rw[hL] at hR
     obtain⟨hLl,hs,hx0⟩:=mkPre_step hlt hL
     have hiL:i<L.length:=by omega
     have hwx:=wl_get hok hlt
     rw[← hx0] at hwx
     have R0:=MS.frame hR hiL
     clear hx0
     generalize hx0:List.getD L i (RT.dflt rI5)=x0 at R0 hs hwx
     clear hx0
     have hx:=idx_own (b:=b) (w:=5) hlt (k:=.i64)
     simp only
     obtain⟨h2,s0,o0,R1⟩:=MS.st R0 hiL (off:=0) (by decide) (v:=(.int .i64 k0)) rfl rfl (y:=((k0,x0.2.1,x0.2.2.1,x0.2.2.2.1,x0.2.2.2.2):RT.D rI5)) rfl hinj []
     replace s0:x_storeH [] h1 1 (.ptr b (i*5)) (.int .i64 k0)=some (.undef,[],h2):=s0
     obtain⟨h3,s1,o1,R2⟩:=MS.st R1 hiL (off:=1) (by decide) (v:=(.int .i64 (IntKind.i64.wrap (k0+1)))) rfl rfl (y:=((k0,(IntKind.i64.wrap (k0+1)),x0.2.2.1,x0.2.2.2.1,x0.2.2.2.2):RT.D rI5)) rfl hinj []
     replace s1:x_storeH [] h2 1 (.ptr b (i*5+1)) (.int .i64 (IntKind.i64.wrap (k0+1)))=some (.undef,[],h3):=s1
     obtain⟨h4,s2,o2,R3⟩:=MS.st R2 hiL (off:=2) (by decide) (v:=(.int .i64 (IntKind.i64.wrap (IntKind.i64.wrap (k0+1)+1)))) rfl rfl (y:=((k0,(IntKind.i64.wrap (k0+1)),(IntKind.i64.wrap (IntKind.i64.wrap (k0+1)+1)),x0.2.2.2.1,x0.2.2.2.2):RT.D rI5)) rfl hinj []
     replace s2:x_storeH [] h3 1 (.ptr b (i*5+1+1)) (.int .i64 (IntKind.i64.wrap (IntKind.i64.wrap (k0+1)+1)))=some (.undef,[],h4):=s2
     obtain⟨h5,s3,o3,R4⟩:=MS.st R3 hiL (off:=3) (by decide) (v:=(.int .i64 (IntKind.i64.wrap (IntKind.i64.wrap (IntKind.i64.wrap (k0+1)+1)+1)))) rfl rfl (y:=((k0,(IntKind.i64.wrap (k0+1)),(IntKind.i64.wrap (IntKind.i64.wrap (k0+1)+1)),(IntKind.i64.wrap (IntKind.i64.wrap (IntKind.i64.wrap (k0+1)+1)+1)),x0.2.2.2.2):RT.D rI5)) rfl hinj []
     replace s3:x_storeH [] h4 1 (.ptr b (i*5+1+2)) (.int .i64 (IntKind.i64.wrap (IntKind.i64.wrap (IntKind.i64.wrap (k0+1)+1)+1)))=some (.undef,[],h5):=s3
     obtain⟨h6,s4,o4,R5⟩:=MS.st R4 hiL (off:=4) (by decide) (v:=(.int .i64 (IntKind.i64.wrap (IntKind.i64.wrap (IntKind.i64.wrap (IntKind.i64.wrap (k0+1)+1)+1)+1)))) rfl rfl (y:=((k0,(IntKind.i64.wrap (k0+1)),(IntKind.i64.wrap (IntKind.i64.wrap (k0+1)+1)),(IntKind.i64.wrap (IntKind.i64.wrap (IntKind.i64.wrap (k0+1)+1)+1)),(IntKind.i64.wrap (IntKind.i64.wrap (IntKind.i64.wrap (IntKind.i64.wrap (k0+1)+1)+1)+1))):RT.D rI5)) rfl hinj []
     replace s4:x_storeH [] h5 1 (.ptr b (i*5+1+3)) (.int .i64 (IntKind.i64.wrap (IntKind.i64.wrap (IntKind.i64.wrap (IntKind.i64.wrap (k0+1)+1)+1)+1)))=some (.undef,[],h6):=s4
     repeat' (first|(simp only[go_sem,reduceIte,reduceCtorEq,Nat.reduceAdd,Nat.reduceBEq,Int.reduceLT,Int.reduceLE,Int.reduceGT,Int.reduceGE,Int.reduceBEq,Int.reduceBNe,Nat.reduceEqDiff,Nat.reduceLeDiff,Nat.reduceLT,hn,hc,hw,hx,s0,s1,s2,s3,s4])|(refine aops_part rfl (fun hb=>?_) (fun hb=>?_)<;>simp only[hb,go_sem,reduceIte,reduceCtorEq,Nat.reduceAdd,Nat.reduceBEq,Int.reduceLT,Int.reduceLE,Int.reduceGT,Int.reduceGE,Int.reduceBEq,Int.reduceBNe,Nat.reduceEqDiff,Nat.reduceLeDiff,Nat.reduceLT,hn,hc,hw,hx,s0,s1,s2,s3,s4])|(refine awp_part rfl (fun hb=>?_) (fun hb=>?_)<;>simp only[hb,go_sem,reduceIte,reduceCtorEq,Nat.reduceAdd,Nat.reduceBEq,Int.reduceLT,Int.reduceLE,Int.reduceGT,Int.reduceGE,Int.reduceBEq,Int.reduceBNe,Nat.reduceEqDiff,Nat.reduceLeDiff,Nat.reduceLT,hn,hc,hw,hx,s0,s1,s2,s3,s4])|(refine wop_pick_part rfl (fun hb=>?_) (fun hb=>?_)<;>simp only[hb,go_sem,reduceIte,reduceCtorEq,Nat.reduceAdd,Nat.reduceBEq,Int.reduceLT,Int.reduceLE,Int.reduceGT,Int.reduceGE,Int.reduceBEq,Int.reduceBNe,Nat.reduceEqDiff,Nat.reduceLeDiff,Nat.reduceLT,hn,hc,hw,hx,s0,s1,s2,s3,s4]))
     exact hnx _ hlt ⟨h6,by rw[hs];rfl,(Only.trans (Only.trans (Only.trans (Only.trans (Only.trans hO o0) o1) o2) o3) o4),by rw[hs];exact R5⟩
   · have hc:decide ((i:Int)<(l.length:Int))=false:=decide_eq_false (by omega)
     have hi':i=l.length:=by omega
     subst hi'
     repeat' (first|(simp only[go_sem,reduceIte,reduceCtorEq,Nat.reduceAdd,Nat.reduceBEq,Int.reduceLT,Int.reduceLE,Int.reduceGT,Int.reduceGE,Int.reduceBEq,Int.reduceBNe,Nat.reduceEqDiff,Nat.reduceLeDiff,Nat.reduceLT,hn,hc])|(refine aops_part rfl (fun hb=>?_) (fun hb=>?_)<;>simp only[hb,go_sem,reduceIte,reduceCtorEq,Nat.reduceAdd,Nat.reduceBEq,Int.reduceLT,Int.reduceLE,Int.reduceGT,Int.reduceGE,Int.reduceBEq,Int.reduceBNe,Nat.reduceEqDiff,Nat.reduceLeDiff,Nat.reduceLT,hn,hc])|(refine awp_part rfl (fun hb=>?_) (fun hb=>?_)<;>simp only[hb,go_sem,reduceIte,reduceCtorEq,Nat.reduceAdd,Nat.reduceBEq,Int.reduceLT,Int.reduceLE,Int.reduceGT,Int.reduceGE,Int.reduceBEq,Int.reduceBNe,Nat.reduceEqDiff,Nat.reduceLeDiff,Nat.reduceLT,hn,hc])|(refine wop_pick_part rfl (fun hb=>?_) (fun hb=>?_)<;>simp only[hb,go_sem,reduceIte,reduceCtorEq,Nat.reduceAdd,Nat.reduceBEq,Int.reduceLT,Int.reduceLE,Int.reduceGT,Int.reduceGE,Int.reduceBEq,Int.reduceBNe,Nat.reduceEqDiff,Nat.reduceLeDiff,Nat.reduceLT,hn,hc]))
     have e:=mkPre_all (RT.mkI rI5) l m
     rw[e] at hR ⊢
     exact hQ h1 hO hR
noncomputable def c_laws_markEngine:ACode:=
 (.seq (.region [⟨0,some 2,.boxB 0 7 (.t 0),none,[]⟩,
 ⟨1,some 4,.mv (.c (.int .i64 0)),none,[]⟩])
  (.seq (.region [⟨0,some 5,.fieldA 0 (.t 2),none,[]⟩,
 ⟨1,some 6,.loadB 0 (some 2) (.t 5),none,[]⟩,
 ⟨2,some 7,.mv (.t 1),none,[]⟩,
 ⟨3,some 8,.call s_laws_markKeymap [(.t 6),(.t 7)],none,[]⟩,
 ⟨4,some 1,.mv (.t 8),none,[]⟩])
  (.seq (.region [⟨0,some 9,.fieldA 2 (.t 2),none,[]⟩,
 ⟨1,some 10,.loadB 0 none (.t 9),none,[]⟩,
 ⟨2,some 11,.mv (.t 1),none,[]⟩,
 ⟨3,some 12,.call s_laws_markStepSS [(.t 10),(.t 11)],none,[]⟩,
 ⟨4,some 1,.mv (.t 12),none,[]⟩])
  (.seq (.region [⟨0,some 13,.fieldA 4 (.t 2),none,[]⟩,
 ⟨1,some 14,.loadB 0 none (.t 13),none,[]⟩,
 ⟨2,some 15,.mv (.t 1),none,[]⟩,
 ⟨3,some 16,.call s_laws_markHeldS [(.t 14),(.t 15)],none,[]⟩,
 ⟨4,some 1,.mv (.t 16),none,[]⟩])
  (.seq (.region [⟨0,some 17,.mv (.t 1),none,[]⟩,
 ⟨1,some 4,.mv (.t 17),none,[]⟩])
  .ret)))))
noncomputable def f_laws_markEngine:AFun:=⟨2,18,1,false,[.tmp 4],c_laws_markEngine⟩
@[irreducible] noncomputable def s_laws_markEngine:CallSem:=funSem f_laws_markEngine
@[irreducible] noncomputable def mg_laws_markEngine(x:Int×(List (List (Int×Int×Int×Int)))×(List (List (Int×Int×Int)))×Int×(List (Int×Int×Int×Int×Int))×Int×Bool)(m:Int):(Int×(List (List (Int×Int×Int×Int)))×(List (List (Int×Int×Int)))×Int×(List (Int×Int×Int×Int×Int))×Int×Bool)×Int:=(shut fun(x:Int×(List (List (Int×Int×Int×Int)))×(List (List (Int×Int×Int)))×Int×(List (Int×Int×Int×Int×Int))×Int×Bool) (m:Int)=>RT.mkT (.cons (.int .i64) (.cons (.sl (.one (.sl rI4))) (.cons (.sl (.one (.sl rI3))) (.cons (.int .i64) (.cons (.sl rI5) (.cons (.int .i64) (.one (.bool)))))))) x m).1 x m
@[irreducible] noncomputable def mok_laws_markEngine(x:Int×(List (List (Int×Int×Int×Int)))×(List (List (Int×Int×Int)))×Int×(List (Int×Int×Int×Int×Int))×Int×Bool):Prop:=(shut fun(x:Int×(List (List (Int×Int×Int×Int)))×(List (List (Int×Int×Int)))×Int×(List (Int×Int×Int×Int×Int))×Int×Bool)=>RT.wl (.cons (.int .i64) (.cons (.sl (.one (.sl rI4))) (.cons (.sl (.one (.sl rI3))) (.cons (.int .i64) (.cons (.sl rI5) (.cons (.int .i64) (.one (.bool)))))))) x).1 x
theorem mgu_laws_markEngine:mg_laws_markEngine=fun x m=>RT.mkT (.cons (.int .i64) (.cons (.sl (.one (.sl rI4))) (.cons (.sl (.one (.sl rI3))) (.cons (.int .i64) (.cons (.sl rI5) (.cons (.int .i64) (.one (.bool)))))))) x m:=by unfold mg_laws_markEngine;exact(shut _).2
theorem mou_laws_markEngine:mok_laws_markEngine=fun x=>RT.wl (.cons (.int .i64) (.cons (.sl (.one (.sl rI4))) (.cons (.sl (.one (.sl rI3))) (.cons (.int .i64) (.cons (.sl rI5) (.cons (.int .i64) (.one (.bool)))))))) x:=by unfold mok_laws_markEngine;exact(shut _).2
theorem mk_laws_markEngine:SoundM s_laws_markEngine (agMk (.cons (.int .i64) (.cons (.sl (.one (.sl rI4))) (.cons (.sl (.one (.sl rI3))) (.cons (.int .i64) (.cons (.sl rI5) (.cons (.int .i64) (.one (.bool))))))))).P:=by
 rintro h ω hd P b olds us u m K Q hinj hu hl hr ⟨x,rfl,hok,hK⟩ hQ
 have hu:u= .agg us:=hu
 subst hu
 obtain⟨u0,u1,u2,u3,u4,u5,u6,rfl⟩:=len_7 hl
 have c0:RC h ω (.inn hd (P++[b+0])) (CT.enc (.int .i64) x.1) u0:=hr 0 (lt_enc (by decide))
 have c1:RC h ω (.inn hd (P++[b+1])) (CT.enc (.sl (.one (.sl rI4))) x.2.1) u1:=hr 1 (lt_enc (by decide))
 have c2:RC h ω (.inn hd (P++[b+2])) (CT.enc (.sl (.one (.sl rI3))) x.2.2.1) u2:=hr 2 (lt_enc (by decide))
 have c3:RC h ω (.inn hd (P++[b+3])) (CT.enc (.int .i64) x.2.2.2.1) u3:=hr 3 (lt_enc (by decide))
 have c4:RC h ω (.inn hd (P++[b+4])) (CT.enc (.sl rI5) x.2.2.2.2.1) u4:=hr 4 (lt_enc (by decide))
 have c5:RC h ω (.inn hd (P++[b+5])) (CT.enc (.int .i64) x.2.2.2.2.2.1) u5:=hr 5 (lt_enc (by decide))
 have c6:RC h ω (.inn hd (P++[b+6])) (CT.enc (.bool) x.2.2.2.2.2.2) u6:=hr 6 (lt_enc (by decide))
 have e0:=c0.cellV rfl
 have e1:=c1.cellV rfl
 have e2:=c2.cellV rfl
 have e3:=c3.cellV rfl
 have e4:=c4.cellV rfl
 have e5:=c5.cellV rfl
 have e6:=c6.cellV rfl
 have g1:=(RC.own1 c1).1
 have z1:=(RC.own1 c1).2.2
 have g2:=(RC.own1 c2).1
 have z2:=(RC.own1 c2).2.2
 have g4:=(RC.own1 c4).1
 have z4:=(RC.own1 c4).2.2
 unfold s_laws_markEngine
 refine fun_intro rfl ?_
 unfold c_laws_markEngine
 repeat' (first|(simp only[go_sem,reduceIte,reduceCtorEq,Nat.reduceAdd,Nat.reduceBEq,Int.reduceLT,Int.reduceLE,Int.reduceGT,Int.reduceGE,Int.reduceBEq,Int.reduceBNe,Nat.reduceEqDiff,Nat.reduceLeDiff,Nat.reduceLT,e0,e1,e2,e3,e4,e5,e6,g1,g2,g4])|(refine aops_part rfl (fun hb=>?_) (fun hb=>?_)<;>simp only[hb,go_sem,reduceIte,reduceCtorEq,Nat.reduceAdd,Nat.reduceBEq,Int.reduceLT,Int.reduceLE,Int.reduceGT,Int.reduceGE,Int.reduceBEq,Int.reduceBNe,Nat.reduceEqDiff,Nat.reduceLeDiff,Nat.reduceLT,e0,e1,e2,e3,e4,e5,e6,g1,g2,g4])|(refine awp_part rfl (fun hb=>?_) (fun hb=>?_)<;>simp only[hb,go_sem,reduceIte,reduceCtorEq,Nat.reduceAdd,Nat.reduceBEq,Int.reduceLT,Int.reduceLE,Int.reduceGT,Int.reduceGE,Int.reduceBEq,Int.reduceBNe,Nat.reduceEqDiff,Nat.reduceLeDiff,Nat.reduceLT,e0,e1,e2,e3,e4,e5,e6,g1,g2,g4])|(refine wop_pick_part rfl (fun hb=>?_) (fun hb=>?_)<;>simp only[hb,go_sem,reduceIte,reduceCtorEq,Nat.reduceAdd,Nat.reduceBEq,Int.reduceLT,Int.reduceLE,Int.reduceGT,Int.reduceGE,Int.reduceBEq,Int.reduceBNe,Nat.reduceEqDiff,Nat.reduceLeDiff,Nat.reduceLT,e0,e1,e2,e3,e4,e5,e6,g1,g2,g4]))
 refine callN (mk_laws_markKeymap h ω hd P (b+0) (RT.enc (.cons (.int .i64) (.one (.sl (.one (.sl rI4))))) ((x.1,x.2.1):RT.D (.cons (.int .i64) (.one (.sl (.one (.sl rI4))))))) [u0,u1] _ m (fun nn kk=>nn=RT.enc (.cons (.int .i64) (.one (.sl (.one (.sl rI4))))) (RT.mkT (.cons (.int .i64) (.one (.sl (.one (.sl rI4))))) ((x.1,x.2.1):RT.D (.cons (.int .i64) (.one (.sl (.one (.sl rI4)))))) m).1∧kk=(RT.mkT (.cons (.int .i64) (.one (.sl (.one (.sl rI4))))) ((x.1,x.2.1):RT.D (.cons (.int .i64) (.one (.sl (.one (.sl rI4)))))) m).2) _ hinj rfl rfl (fun c hc=>?_) ⟨((x.1,x.2.1):RT.D (.cons (.int .i64) (.one (.sl (.one (.sl rI4)))))),rfl,⟨hok.1,hok.2.1⟩,⟨rfl,rfl⟩⟩ fun news m' h1 hK0 hln0 O0 N0=>?_)
 · have hc:c<2:=hc
   rcases (show c=0∨c=1 by omega) with rfl|rfl
   · exact c0
   · exact c1
 obtain⟨rfl,rfl⟩:news=RT.enc (.cons (.int .i64) (.one (.sl (.one (.sl rI4))))) (RT.mkT (.cons (.int .i64) (.one (.sl (.one (.sl rI4))))) ((x.1,x.2.1):RT.D (.cons (.int .i64) (.one (.sl (.one (.sl rI4)))))) m).1∧m'=(RT.mkT (.cons (.int .i64) (.one (.sl (.one (.sl rI4))))) ((x.1,x.2.1):RT.D (.cons (.int .i64) (.one (.sl (.one (.sl rI4)))))) m).2:=hK0
 have N0_0:RC h1 ω (.inn hd (P++[b+0])) (CT.enc (.int .i64) ((RT.mkT (.cons (.int .i64) (.one (.sl (.one (.sl rI4))))) ((x.1,x.2.1):RT.D (.cons (.int .i64) (.one (.sl (.one (.sl rI4)))))) m).1.1)) u0:=N0 0 (lt_enc (by decide))
 have N0_1:RC h1 ω (.inn hd (P++[b+1])) (CT.enc (.sl (.one (.sl rI4))) ((RT.mkT (.cons (.int .i64) (.one (.sl (.one (.sl rI4))))) ((x.1,x.2.1):RT.D (.cons (.int .i64) (.one (.sl (.one (.sl rI4)))))) m).1.2)) u1:=N0 1 (lt_enc (by decide))
 have P0:Only (AgU ω hd P b (RT.enc (.cons (.int .i64) (.cons (.sl (.one (.sl rI4))) (.cons (.sl (.one (.sl rI3))) (.cons (.int .i64) (.cons (.sl rI5) (.cons (.int .i64) (.one (.bool)))))))) x)) h h1:=O0.mono fun l hs=>by
  obtain⟨c,es,q,hc,e1,e2⟩:=hs
  have hc:c<2:=hc
  rcases (show c=0∨c=1 by omega) with rfl|rfl
  · cases e1
  · exact⟨1,_,q,lt_enc (by decide),rfl,e2⟩
 have b0_2:=RC.beside c2 O0 (fun l hs=>by obtain⟨c,es,q,hc,_,e⟩:=hs;have hc:c<2:=hc;exact⟨b+0+c,q,by omega,e⟩)
 have b0_3:=RC.beside c3 O0 (fun l hs=>by obtain⟨c,es,q,hc,_,e⟩:=hs;have hc:c<2:=hc;exact⟨b+0+c,q,by omega,e⟩)
 have b0_4:=RC.beside c4 O0 (fun l hs=>by obtain⟨c,es,q,hc,_,e⟩:=hs;have hc:c<2:=hc;exact⟨b+0+c,q,by omega,e⟩)
 have b0_5:=RC.beside c5 O0 (fun l hs=>by obtain⟨c,es,q,hc,_,e⟩:=hs;have hc:c<2:=hc;exact⟨b+0+c,q,by omega,e⟩)
 have b0_6:=RC.beside c6 O0 (fun l hs=>by obtain⟨c,es,q,hc,_,e⟩:=hs;have hc:c<2:=hc;exact⟨b+0+c,q,by omega,e⟩)
 repeat' (first|(simp only[go_sem,reduceIte,reduceCtorEq,Nat.reduceAdd,Nat.reduceBEq,Int.reduceLT,Int.reduceLE,Int.reduceGT,Int.reduceGE,Int.reduceBEq,Int.reduceBNe,Nat.reduceEqDiff,Nat.reduceLeDiff,Nat.reduceLT,e0,e1,e2,e3,e4,e5,e6,g1,g2,g4])|(refine aops_part rfl (fun hb=>?_) (fun hb=>?_)<;>simp only[hb,go_sem,reduceIte,reduceCtorEq,Nat.reduceAdd,Nat.reduceBEq,Int.reduceLT,Int.reduceLE,Int.reduceGT,Int.reduceGE,Int.reduceBEq,Int.reduceBNe,Nat.reduceEqDiff,Nat.reduceLeDiff,Nat.reduceLT,e0,e1,e2,e3,e4,e5,e6,g1,g2,g4])|(refine awp_part rfl (fun hb=>?_) (fun hb=>?_)<;>simp only[hb,go_sem,reduceIte,reduceCtorEq,Nat.reduceAdd,Nat.reduceBEq,Int.reduceLT,Int.reduceLE,Int.reduceGT,Int.reduceGE,Int.reduceBEq,Int.reduceBNe,Nat.reduceEqDiff,Nat.reduceLeDiff,Nat.reduceLT,e0,e1,e2,e3,e4,e5,e6,g1,g2,g4])|(refine wop_pick_part rfl (fun hb=>?_) (fun hb=>?_)<;>simp only[hb,go_sem,reduceIte,reduceCtorEq,Nat.reduceAdd,Nat.reduceBEq,Int.reduceLT,Int.reduceLE,Int.reduceGT,Int.reduceGE,Int.reduceBEq,Int.reduceBNe,Nat.reduceEqDiff,Nat.reduceLeDiff,Nat.reduceLT,e0,e1,e2,e3,e4,e5,e6,g1,g2,g4]))
 refine callN (sl_laws_markStepSS h1 ω hd (P++[b+2]) x.2.2.1 u2 ((RT.mkT (.cons (.int .i64) (.one (.sl (.one (.sl rI4))))) ((x.1,x.2.1):RT.D (.cons (.int .i64) (.one (.sl (.one (.sl rI4)))))) m).2) _ hok.2.2.1 hinj b0_2 fun h2 O1 N1=>?_)
 replace N1:RC h2 ω (.inn hd (P++[b+2])) (CT.enc (.sl (.one (.sl rI3))) (mkL (RT.mkI (.one (.sl rI3))) x.2.2.1 ((RT.mkT (.cons (.int .i64) (.one (.sl (.one (.sl rI4))))) ((x.1,x.2.1):RT.D (.cons (.int .i64) (.one (.sl (.one (.sl rI4)))))) m).2)).1) u2:=N1
 have b1_0:=RC.beside N0_0 O1 (fun l hs=>by obtain⟨q,e⟩:=hs;exact⟨b+2,q,by omega,by rw[e];simp⟩)
 have b1_1:=RC.beside N0_1 O1 (fun l hs=>by obtain⟨q,e⟩:=hs;exact⟨b+2,q,by omega,by rw[e];simp⟩)
 have b1_3:=RC.beside b0_3 O1 (fun l hs=>by obtain⟨q,e⟩:=hs;exact⟨b+2,q,by omega,by rw[e];simp⟩)
 have b1_4:=RC.beside b0_4 O1 (fun l hs=>by obtain⟨q,e⟩:=hs;exact⟨b+2,q,by omega,by rw[e];simp⟩)
 have b1_5:=RC.beside b0_5 O1 (fun l hs=>by obtain⟨q,e⟩:=hs;exact⟨b+2,q,by omega,by rw[e];simp⟩)
 have b1_6:=RC.beside b0_6 O1 (fun l hs=>by obtain⟨q,e⟩:=hs;exact⟨b+2,q,by omega,by rw[e];simp⟩)
 repeat' (first|(simp only[go_sem,reduceIte,reduceCtorEq,Nat.reduceAdd,Nat.reduceBEq,Int.reduceLT,Int.reduceLE,Int.reduceGT,Int.reduceGE,Int.reduceBEq,Int.reduceBNe,Nat.reduceEqDiff,Nat.reduceLeDiff,Nat.reduceLT,e0,e1,e2,e3,e4,e5,e6,g1,g2,g4])|(refine aops_part rfl (fun hb=>?_) (fun hb=>?_)<;>simp only[hb,go_sem,reduceIte,reduceCtorEq,Nat.reduceAdd,Nat.reduceBEq,Int.reduceLT,Int.reduceLE,Int.reduceGT,Int.reduceGE,Int.reduceBEq,Int.reduceBNe,Nat.reduceEqDiff,Nat.reduceLeDiff,Nat.reduceLT,e0,e1,e2,e3,e4,e5,e6,g1,g2,g4])|(refine awp_part rfl (fun hb=>?_) (fun hb=>?_)<;>simp only[hb,go_sem,reduceIte,reduceCtorEq,Nat.reduceAdd,Nat.reduceBEq,Int.reduceLT,Int.reduceLE,Int.reduceGT,Int.reduceGE,Int.reduceBEq,Int.reduceBNe,Nat.reduceEqDiff,Nat.reduceLeDiff,Nat.reduceLT,e0,e1,e2,e3,e4,e5,e6,g1,g2,g4])|(refine wop_pick_part rfl (fun hb=>?_) (fun hb=>?_)<;>simp only[hb,go_sem,reduceIte,reduceCtorEq,Nat.reduceAdd,Nat.reduceBEq,Int.reduceLT,Int.reduceLE,Int.reduceGT,Int.reduceGE,Int.reduceBEq,Int.reduceBNe,Nat.reduceEqDiff,Nat.reduceLeDiff,Nat.reduceLT,e0,e1,e2,e3,e4,e5,e6,g1,g2,g4]))
 refine callN (sl_laws_markHeldS h2 ω hd (P++[b+4]) x.2.2.2.2.1 u4 ((mkL (RT.mkI (.one (.sl rI3))) x.2.2.1 ((RT.mkT (.cons (.int .i64) (.one (.sl (.one (.sl rI4))))) ((x.1,x.2.1):RT.D (.cons (.int .i64) (.one (.sl (.one (.sl rI4)))))) m).2)).2) _ hok.2.2.2.2.1 hinj b1_4 fun h3 O2 N2=>?_)
 replace N2:RC h3 ω (.inn hd (P++[b+4])) (CT.enc (.sl rI5) (mkL (RT.mkI rI5) x.2.2.2.2.1 ((mkL (RT.mkI (.one (.sl rI3))) x.2.2.1 ((RT.mkT (.cons (.int .i64) (.one (.sl (.one (.sl rI4))))) ((x.1,x.2.1):RT.D (.cons (.int .i64) (.one (.sl (.one (.sl rI4)))))) m).2)).2)).1) u4:=N2
 have b2_0:=RC.beside b1_0 O2 (fun l hs=>by obtain⟨q,e⟩:=hs;exact⟨b+4,q,by omega,by rw[e];simp⟩)
 have b2_1:=RC.beside b1_1 O2 (fun l hs=>by obtain⟨q,e⟩:=hs;exact⟨b+4,q,by omega,by rw[e];simp⟩)
 have b2_2:=RC.beside N1 O2 (fun l hs=>by obtain⟨q,e⟩:=hs;exact⟨b+4,q,by omega,by rw[e];simp⟩)
 have b2_3:=RC.beside b1_3 O2 (fun l hs=>by obtain⟨q,e⟩:=hs;exact⟨b+4,q,by omega,by rw[e];simp⟩)
 have b2_5:=RC.beside b1_5 O2 (fun l hs=>by obtain⟨q,e⟩:=hs;exact⟨b+4,q,by omega,by rw[e];simp⟩)
 have b2_6:=RC.beside b1_6 O2 (fun l hs=>by obtain⟨q,e⟩:=hs;exact⟨b+4,q,by omega,by rw[e];simp⟩)
 repeat' (first|(simp only[go_sem,reduceIte,reduceCtorEq,Nat.reduceAdd,Nat.reduceBEq,Int.reduceLT,Int.reduceLE,Int.reduceGT,Int.reduceGE,Int.reduceBEq,Int.reduceBNe,Nat.reduceEqDiff,Nat.reduceLeDiff,Nat.reduceLT,e0,e1,e2,e3,e4,e5,e6,g1,g2,g4])|(refine aops_part rfl (fun hb=>?_) (fun hb=>?_)<;>simp only[hb,go_sem,reduceIte,reduceCtorEq,Nat.reduceAdd,Nat.reduceBEq,Int.reduceLT,Int.reduceLE,Int.reduceGT,Int.reduceGE,Int.reduceBEq,Int.reduceBNe,Nat.reduceEqDiff,Nat.reduceLeDiff,Nat.reduceLT,e0,e1,e2,e3,e4,e5,e6,g1,g2,g4])|(refine awp_part rfl (fun hb=>?_) (fun hb=>?_)<;>simp only[hb,go_sem,reduceIte,reduceCtorEq,Nat.reduceAdd,Nat.reduceBEq,Int.reduceLT,Int.reduceLE,Int.reduceGT,Int.reduceGE,Int.reduceBEq,Int.reduceBNe,Nat.reduceEqDiff,Nat.reduceLeDiff,Nat.reduceLT,e0,e1,e2,e3,e4,e5,e6,g1,g2,g4])|(refine wop_pick_part rfl (fun hb=>?_) (fun hb=>?_)<;>simp only[hb,go_sem,reduceIte,reduceCtorEq,Nat.reduceAdd,Nat.reduceBEq,Int.reduceLT,Int.reduceLE,Int.reduceGT,Int.reduceGE,Int.reduceBEq,Int.reduceBNe,Nat.reduceEqDiff,Nat.reduceLeDiff,Nat.reduceLT,e0,e1,e2,e3,e4,e5,e6,g1,g2,g4]))
 refine hQ _ _ h3 hK rfl ((Only.trans (Only.trans P0 (Only.mono O1 fun l hs=>by obtain⟨q,e⟩:=hs;exact⟨2,_,q,lt_enc (by decide),rfl,by rw[e];simp⟩)) (Only.mono O2 fun l hs=>by obtain⟨q,e⟩:=hs;exact⟨4,_,q,lt_enc (by decide),rfl,by rw[e];simp⟩))) fun c hc=>?_
 have hc:c<7:=hc
 rcases (show c=0∨c=1∨c=2∨c=3∨c=4∨c=5∨c=6 by omega) with rfl|rfl|rfl|rfl|rfl|rfl|rfl
 · exact b2_0
 · exact b2_1
 · exact b2_2
 · exact b2_3
 · exact N2
 · exact b2_5
 · exact b2_6
noncomputable def M_laws_markEngine:DMk:=⟨(.cons (.int .i64) (.cons (.sl (.one (.sl rI4))) (.cons (.sl (.one (.sl rI3))) (.cons (.int .i64) (.cons (.sl rI5) (.cons (.int .i64) (.one (.bool)))))))),true,mok_laws_markEngine,mg_laws_markEngine⟩
theorem smk_laws_markEngine:SoundM s_laws_markEngine (DMk.P M_laws_markEngine):=by unfold M_laws_markEngine;rw[mou_laws_markEngine,mgu_laws_markEngine];exact mk_laws_markEngine
noncomputable def dc_laws_heldStepS:DCode:=
 (.seq [1,0] (.region [oi 0 4 0])
 (.seq [1] (.seq [5,1,0] (.region [oi 0 5 0])
 (.block 0 (.loop [0,1,5] 1 (.seq [5,1,0] (.seq [9,5,1,0] (.region [om 0 6 5,
 on 1 7 0,
 oa 2 8 (.len (.t 7)),
 oa 3 9 (.bin .lss (.t 6) (.t 8))])
  (.cond (.t 9) .skip (.exit 0)))
  (.seq [5,1,0] (.block 1 (.seq [5,1,0] (.seq [18,5,1,0] (.region [on 0 12 0,
 om 1 13 5,
 oa 2 14 (.indexA 3 (.t 12) (.t 13)),
 oa 3 15 (.fieldA 0 (.t 14)),
 oa 4 16 (.loadH none (.t 15)),
 om 5 17 1,
 oa 6 18 (.bin .neq (.t 16) (.t 17))])
  (.cond (.t 18) (.seq [4] (.region [oi 0 4 (-1)])
  .ret) .skip))
  (.seq [5,1,0] (.region [om 0 19 1,
 oa 1 20 (.bin .add (.t 19) (.c (.int .i64 1))),
 om 2 1 20])
  (.seq [5,1,0] (.seq [27,5,1,0] (.region [on 0 21 0,
 om 1 22 5,
 oa 2 23 (.indexA 3 (.t 21) (.t 22)),
 oa 3 24 (.fieldA 1 (.t 23)),
 oa 4 25 (.loadH none (.t 24)),
 om 5 26 1,
 oa 6 27 (.bin .neq (.t 25) (.t 26))])
  (.cond (.t 27) (.seq [4] (.region [oi 0 4 (-1)])
  .ret) .skip))
  (.seq [5,1,0] (.region [om 0 28 1,
 oa 1 29 (.bin .add (.t 28) (.c (.int .i64 1))),
 om 2 1 29])
  (.seq [5,1,0] (.seq [36,5,1,0] (.region [on 0 30 0,
 om 1 31 5,
 oa 2 32 (.indexA 3 (.t 30) (.t 31)),
 oa 3 33 (.fieldA 2 (.t 32)),
 oa 4 34 (.loadH none (.t 33)),
 om 5 35 1,
 oa 6 36 (.bin .neq (.t 34) (.t 35))])
  (.cond (.t 36) (.seq [4] (.region [oi 0 4 (-1)])
  .ret) .skip))
  (.region [om 0 37 1,
 oa 1 38 (.bin .add (.t 37) (.c (.int .i64 1))),
 om 2 1 38])))))))
  (.region [om 0 10 5,
 oa 1 11 (.bin .add (.t 10) (.c (.int .i64 1))),
 om 2 5 11]))))))
  (.seq [4] (.region [om 0 39 1,
 om 1 4 39])
  .ret)))
noncomputable def df_laws_heldStepS:DFun:=⟨2,40,0,true,[.tmp 4],dc_laws_heldStepS⟩
noncomputable def pf_laws_heldStepS:PFun:=df_laws_heldStepS.er
noncomputable def f_laws_heldStepS:AFun:=pf_laws_heldStepS.er
@[irreducible] noncomputable def s_laws_heldStepS:CallSem:=funSem f_laws_heldStepS
@[irreducible] noncomputable def p_laws_heldStepS:PSem:=pfunSem pf_laws_heldStepS
theorem sp_laws_heldStepS:SoundP s_laws_heldStepS p_laws_heldStepS:=by unfold s_laws_heldStepS p_laws_heldStepS;exact pfun_sound (f:=pf_laws_heldStepS) trivial
def h_laws_heldStepS:List HT:=[.one .frz (.sl rI3),.one .frz (.int .i64)]
def q_laws_heldStepS:QT:=.one (.one .own (.int .i64))
@[irreducible] noncomputable def v_laws_heldStepS(x:(List (Int×Int×Int))×Int):Int:=(shut fun x=>fnV df_laws_heldStepS h_laws_heldStepS q_laws_heldStepS x).1 x
@[irreducible] noncomputable def ok_laws_heldStepS(x:(List (Int×Int×Int))×Int):Prop:=(shut fun x=>fnOk df_laws_heldStepS h_laws_heldStepS q_laws_heldStepS x).1 x
theorem vu_laws_heldStepS (x):v_laws_heldStepS x=fnV df_laws_heldStepS h_laws_heldStepS q_laws_heldStepS x:=by unfold v_laws_heldStepS;exact congrFun (shut _).2 x
theorem ou_laws_heldStepS (x):ok_laws_heldStepS x=fnOk df_laws_heldStepS h_laws_heldStepS q_laws_heldStepS x:=by unfold ok_laws_heldStepS;exact congrFun (shut _).2 x
noncomputable def D_laws_heldStepS:DSem:=DSemOf h_laws_heldStepS q_laws_heldStepS ok_laws_heldStepS v_laws_heldStepS
theorem ck_laws_heldStepS(x:(List (Int×Int×Int))×Int):fnChk df_laws_heldStepS h_laws_heldStepS q_laws_heldStepS x=true:=by kernel_rfl
theorem ob_laws_heldStepS:AllD df_laws_heldStepS.body.obs:=trivial
theorem st_laws_heldStepS:fnSt df_laws_heldStepS h_laws_heldStepS q_laws_heldStepS=true:=by kernel_rfl
theorem sd_laws_heldStepS:SoundD p_laws_heldStepS D_laws_heldStepS:=by unfold p_laws_heldStepS;exact soundD_of (f:=df_laws_heldStepS) (hs:=h_laws_heldStepS) (q:=q_laws_heldStepS) ob_laws_heldStepS st_laws_heldStepS ck_laws_heldStepS (fun x h=>Eq.mp (ou_laws_heldStepS x) h) (fun x=>(vu_laws_heldStepS x).symm)
noncomputable def dc_laws_heldStepSS:DCode:=
 (.seq [1,0] (.region [oi 0 4 0])
 (.seq [1] (.seq [5,1,0] (.region [oi 0 5 0])
 (.block 0 (.loop [0,1,5] 1 (.seq [5,1,0] (.seq [9,5,1,0] (.region [om 0 6 5,
 on 1 7 0,
 oa 2 8 (.len (.t 7)),
 oa 3 9 (.bin .lss (.t 6) (.t 8))])
  (.cond (.t 9) .skip (.exit 0)))
  (.seq [5,1,0] (.block 1 (.seq [5,1,0] (.region [on 0 12 0,
 om 1 13 5,
 oa 2 14 (.indexA 1 (.t 12) (.t 13)),
 oa 3 15 (.loadH none (.t 14)),
 om 4 16 1,
 oc 5 17 s_laws_heldStepS p_laws_heldStepS D_laws_heldStepS [(.t 15),(.t 16)],
 om 6 1 17])
  (.seq [19,5,1,0] (.region [om 0 18 1,
 oa 1 19 (.bin .lss (.t 18) (.c (.int .i64 0)))])
  (.cond (.t 19) (.seq [4] (.region [oi 0 4 (-1)])
  .ret) .skip))))
  (.region [om 0 10 5,
 oa 1 11 (.bin .add (.t 10) (.c (.int .i64 1))),
 om 2 5 11]))))))
  (.seq [4] (.region [om 0 20 1,
 om 1 4 20])
  .ret)))
noncomputable def df_laws_heldStepSS:DFun:=⟨2,21,0,true,[.tmp 4],dc_laws_heldStepSS⟩
noncomputable def pf_laws_heldStepSS:PFun:=df_laws_heldStepSS.er
noncomputable def f_laws_heldStepSS:AFun:=pf_laws_heldStepSS.er
@[irreducible] noncomputable def s_laws_heldStepSS:CallSem:=funSem f_laws_heldStepSS
@[irreducible] noncomputable def p_laws_heldStepSS:PSem:=pfunSem pf_laws_heldStepSS
theorem sp_laws_heldStepSS:SoundP s_laws_heldStepSS p_laws_heldStepSS:=by unfold s_laws_heldStepSS p_laws_heldStepSS;exact pfun_sound (f:=pf_laws_heldStepSS) ⟨sp_laws_heldStepS,trivial⟩
def h_laws_heldStepSS:List HT:=[.one .frz (.sl (.one (.sl rI3))),.one .frz (.int .i64)]
def q_laws_heldStepSS:QT:=.one (.one .own (.int .i64))
@[irreducible] noncomputable def v_laws_heldStepSS(x:(List (List (Int×Int×Int)))×Int):Int:=(shut fun x=>fnV df_laws_heldStepSS h_laws_heldStepSS q_laws_heldStepSS x).1 x
@[irreducible] noncomputable def ok_laws_heldStepSS(x:(List (List (Int×Int×Int)))×Int):Prop:=(shut fun x=>fnOk df_laws_heldStepSS h_laws_heldStepSS q_laws_heldStepSS x).1 x
theorem vu_laws_heldStepSS (x):v_laws_heldStepSS x=fnV df_laws_heldStepSS h_laws_heldStepSS q_laws_heldStepSS x:=by unfold v_laws_heldStepSS;exact congrFun (shut _).2 x
theorem ou_laws_heldStepSS (x):ok_laws_heldStepSS x=fnOk df_laws_heldStepSS h_laws_heldStepSS q_laws_heldStepSS x:=by unfold ok_laws_heldStepSS;exact congrFun (shut _).2 x
noncomputable def D_laws_heldStepSS:DSem:=DSemOf h_laws_heldStepSS q_laws_heldStepSS ok_laws_heldStepSS v_laws_heldStepSS
theorem ck_laws_heldStepSS(x:(List (List (Int×Int×Int)))×Int):fnChk df_laws_heldStepSS h_laws_heldStepSS q_laws_heldStepSS x=true:=by kernel_rfl
theorem ob_laws_heldStepSS:AllD df_laws_heldStepSS.body.obs:=⟨sd_laws_heldStepS,trivial⟩
theorem st_laws_heldStepSS:fnSt df_laws_heldStepSS h_laws_heldStepSS q_laws_heldStepSS=true:=by kernel_rfl
theorem sd_laws_heldStepSS:SoundD p_laws_heldStepSS D_laws_heldStepSS:=by unfold p_laws_heldStepSS;exact soundD_of (f:=df_laws_heldStepSS) (hs:=h_laws_heldStepSS) (q:=q_laws_heldStepSS) ob_laws_heldStepSS st_laws_heldStepSS ck_laws_heldStepSS (fun x h=>Eq.mp (ou_laws_heldStepSS x) h) (fun x=>(vu_laws_heldStepSS x).symm)
noncomputable def dc_laws_heldHeldS:DCode:=
 (.seq [1,0] (.region [oi 0 4 0])
 (.seq [1] (.seq [5,1,0] (.region [oi 0 5 0])
 (.block 0 (.loop [0,1,5] 1 (.seq [5,1,0] (.seq [9,5,1,0] (.region [om 0 6 5,
 on 1 7 0,
 oa 2 8 (.len (.t 7)),
 oa 3 9 (.bin .lss (.t 6) (.t 8))])
  (.cond (.t 9) .skip (.exit 0)))
  (.seq [5,1,0] (.block 1 (.seq [5,1,0] (.seq [18,5,1,0] (.region [on 0 12 0,
 om 1 13 5,
 oa 2 14 (.indexA 5 (.t 12) (.t 13)),
 oa 3 15 (.fieldA 0 (.t 14)),
 oa 4 16 (.loadH none (.t 15)),
 om 5 17 1,
 oa 6 18 (.bin .neq (.t 16) (.t 17))])
  (.cond (.t 18) (.seq [4] (.region [oi 0 4 (-1)])
  .ret) .skip))
  (.seq [5,1,0] (.region [om 0 19 1,
 oa 1 20 (.bin .add (.t 19) (.c (.int .i64 1))),
 om 2 1 20])
  (.seq [5,1,0] (.seq [28,5,1,0] (.region [on 0 21 0,
 om 1 22 5,
 oa 2 23 (.indexA 5 (.t 21) (.t 22)),
 oa 3 24 (.fieldA 1 (.t 23)),
 oa 4 25 (.fieldA 0 (.t 24)),
 oa 5 26 (.loadH none (.t 25)),
 om 6 27 1,
 oa 7 28 (.bin .neq (.t 26) (.t 27))])
  (.cond (.t 28) (.seq [4] (.region [oi 0 4 (-1)])
  .ret) .skip))
  (.seq [5,1,0] (.region [om 0 29 1,
 oa 1 30 (.bin .add (.t 29) (.c (.int .i64 1))),
 om 2 1 30])
  (.seq [5,1,0] (.seq [38,5,1,0] (.region [on 0 31 0,
 om 1 32 5,
 oa 2 33 (.indexA 5 (.t 31) (.t 32)),
 oa 3 34 (.fieldA 1 (.t 33)),
 oa 4 35 (.fieldA 1 (.t 34)),
 oa 5 36 (.loadH none (.t 35)),
 om 6 37 1,
 oa 7 38 (.bin .neq (.t 36) (.t 37))])
  (.cond (.t 38) (.seq [4] (.region [oi 0 4 (-1)])
  .ret) .skip))
  (.seq [5,1,0] (.region [om 0 39 1,
 oa 1 40 (.bin .add (.t 39) (.c (.int .i64 1))),
 om 2 1 40])
  (.seq [5,1,0] (.seq [48,5,1,0] (.region [on 0 41 0,
 om 1 42 5,
 oa 2 43 (.indexA 5 (.t 41) (.t 42)),
 oa 3 44 (.fieldA 1 (.t 43)),
 oa 4 45 (.fieldA 2 (.t 44)),
 oa 5 46 (.loadH none (.t 45)),
 om 6 47 1,
 oa 7 48 (.bin .neq (.t 46) (.t 47))])
  (.cond (.t 48) (.seq [4] (.region [oi 0 4 (-1)])
  .ret) .skip))
  (.seq [5,1,0] (.region [om 0 49 1,
 oa 1 50 (.bin .add (.t 49) (.c (.int .i64 1))),
 om 2 1 50])
  (.seq [5,1,0] (.seq [58,5,1,0] (.region [on 0 51 0,
 om 1 52 5,
 oa 2 53 (.indexA 5 (.t 51) (.t 52)),
 oa 3 54 (.fieldA 1 (.t 53)),
 oa 4 55 (.fieldA 3 (.t 54)),
 oa 5 56 (.loadH none (.t 55)),
 om 6 57 1,
 oa 7 58 (.bin .neq (.t 56) (.t 57))])
  (.cond (.t 58) (.seq [4] (.region [oi 0 4 (-1)])
  .ret) .skip))
  (.region [om 0 59 1,
 oa 1 60 (.bin .add (.t 59) (.c (.int .i64 1))),
 om 2 1 60])))))))))))
  (.region [om 0 10 5,
 oa 1 11 (.bin .add (.t 10) (.c (.int .i64 1))),
 om 2 5 11]))))))
  (.seq [4] (.region [om 0 61 1,
 om 1 4 61])
  .ret)))
noncomputable def df_laws_heldHeldS:DFun:=⟨2,62,0,true,[.tmp 4],dc_laws_heldHeldS⟩
noncomputable def pf_laws_heldHeldS:PFun:=df_laws_heldHeldS.er
noncomputable def f_laws_heldHeldS:AFun:=pf_laws_heldHeldS.er
@[irreducible] noncomputable def s_laws_heldHeldS:CallSem:=funSem f_laws_heldHeldS
@[irreducible] noncomputable def p_laws_heldHeldS:PSem:=pfunSem pf_laws_heldHeldS
theorem sp_laws_heldHeldS:SoundP s_laws_heldHeldS p_laws_heldHeldS:=by unfold s_laws_heldHeldS p_laws_heldHeldS;exact pfun_sound (f:=pf_laws_heldHeldS) trivial
def h_laws_heldHeldS:List HT:=[.one .frz (.sl rI5),.one .frz (.int .i64)]
def q_laws_heldHeldS:QT:=.one (.one .own (.int .i64))
@[irreducible] noncomputable def v_laws_heldHeldS(x:(List (Int×Int×Int×Int×Int))×Int):Int:=(shut fun x=>fnV df_laws_heldHeldS h_laws_heldHeldS q_laws_heldHeldS x).1 x
@[irreducible] noncomputable def ok_laws_heldHeldS(x:(List (Int×Int×Int×Int×Int))×Int):Prop:=(shut fun x=>fnOk df_laws_heldHeldS h_laws_heldHeldS q_laws_heldHeldS x).1 x
theorem vu_laws_heldHeldS (x):v_laws_heldHeldS x=fnV df_laws_heldHeldS h_laws_heldHeldS q_laws_heldHeldS x:=by unfold v_laws_heldHeldS;exact congrFun (shut _).2 x
theorem ou_laws_heldHeldS (x):ok_laws_heldHeldS x=fnOk df_laws_heldHeldS h_laws_heldHeldS q_laws_heldHeldS x:=by unfold ok_laws_heldHeldS;exact congrFun (shut _).2 x
noncomputable def D_laws_heldHeldS:DSem:=DSemOf h_laws_heldHeldS q_laws_heldHeldS ok_laws_heldHeldS v_laws_heldHeldS
theorem ck_laws_heldHeldS(x:(List (Int×Int×Int×Int×Int))×Int):fnChk df_laws_heldHeldS h_laws_heldHeldS q_laws_heldHeldS x=true:=by kernel_rfl
theorem ob_laws_heldHeldS:AllD df_laws_heldHeldS.body.obs:=trivial
theorem st_laws_heldHeldS:fnSt df_laws_heldHeldS h_laws_heldHeldS q_laws_heldHeldS=true:=by kernel_rfl
theorem sd_laws_heldHeldS:SoundD p_laws_heldHeldS D_laws_heldHeldS:=by unfold p_laws_heldHeldS;exact soundD_of (f:=df_laws_heldHeldS) (hs:=h_laws_heldHeldS) (q:=q_laws_heldHeldS) ob_laws_heldHeldS st_laws_heldHeldS ck_laws_heldHeldS (fun x h=>Eq.mp (ou_laws_heldHeldS x) h) (fun x=>(vu_laws_heldHeldS x).symm)
noncomputable def dc_laws_heldEngine:DCode:=
 (.seq [2,1] (.region [oa 0 2 (.boxB 0 7 (.t 0)),
 oi 1 4 0])
  (.seq [2,1] (.region [oa 0 5 (.fieldA 0 (.t 2)),
 oa 1 6 (.loadB 0 (some 2) (.t 5)),
 om 2 7 1,
 oc 3 8 s_laws_heldKeymap p_laws_heldKeymap D_laws_heldKeymap [(.t 6),(.t 7)],
 om 4 1 8])
  (.seq [2,1] (.seq [10,2,1] (.region [om 0 9 1,
 oa 1 10 (.bin .lss (.t 9) (.c (.int .i64 0)))])
  (.cond (.t 10) (.seq [4] (.region [oi 0 4 (-1)])
  .ret) .skip))
  (.seq [2,1] (.region [oa 0 11 (.fieldA 2 (.t 2)),
 oa 1 12 (.loadB 0 none (.t 11)),
 om 2 13 1,
 oc 3 14 s_laws_heldStepSS p_laws_heldStepSS D_laws_heldStepSS [(.t 12),(.t 13)],
 om 4 1 14])
  (.seq [2,1] (.seq [16,2,1] (.region [om 0 15 1,
 oa 1 16 (.bin .lss (.t 15) (.c (.int .i64 0)))])
  (.cond (.t 16) (.seq [4] (.region [oi 0 4 (-1)])
  .ret) .skip))
  (.seq [1] (.region [oa 0 17 (.fieldA 4 (.t 2)),
 oa 1 18 (.loadB 0 none (.t 17)),
 om 2 19 1,
 oc 3 20 s_laws_heldHeldS p_laws_heldHeldS D_laws_heldHeldS [(.t 18),(.t 19)],
 om 4 1 20])
  (.seq [1] (.seq [22,1] (.region [om 0 21 1,
 oa 1 22 (.bin .lss (.t 21) (.c (.int .i64 0)))])
  (.cond (.t 22) (.seq [4] (.region [oi 0 4 (-1)])
  .ret) .skip))
  (.seq [4] (.region [om 0 23 1,
 om 1 4 23])
  .ret))))))))
noncomputable def df_laws_heldEngine:DFun:=⟨2,24,1,true,[.tmp 4],dc_laws_heldEngine⟩
noncomputable def pf_laws_heldEngine:PFun:=df_laws_heldEngine.er
noncomputable def f_laws_heldEngine:AFun:=pf_laws_heldEngine.er
@[irreducible] noncomputable def s_laws_heldEngine:CallSem:=funSem f_laws_heldEngine
@[irreducible] noncomputable def p_laws_heldEngine:PSem:=pfunSem pf_laws_heldEngine
theorem sp_laws_heldEngine:SoundP s_laws_heldEngine p_laws_heldEngine:=by unfold s_laws_heldEngine p_laws_heldEngine;exact pfun_sound (f:=pf_laws_heldEngine) ⟨sp_laws_heldKeymap,sp_laws_heldStepSS,sp_laws_heldHeldS,trivial⟩
def h_laws_heldEngine:List HT:=[.agg [(.frz,.int .i64),(.frz,.sl (.one (.sl rI4))),(.frz,.sl (.one (.sl rI3))),(.frz,.int .i64),(.frz,.sl rI5),(.frz,.int .i64),(.frz,.bool)],.one .frz (.int .i64)]
def q_laws_heldEngine:QT:=.one (.one .own (.int .i64))
@[irreducible] noncomputable def v_laws_heldEngine(x:(Int×(List (List (Int×Int×Int×Int)))×(List (List (Int×Int×Int)))×Int×(List (Int×Int×Int×Int×Int))×Int×Bool)×Int):Int:=(shut fun x=>fnV df_laws_heldEngine h_laws_heldEngine q_laws_heldEngine x).1 x
@[irreducible] noncomputable def ok_laws_heldEngine(x:(Int×(List (List (Int×Int×Int×Int)))×(List (List (Int×Int×Int)))×Int×(List (Int×Int×Int×Int×Int))×Int×Bool)×Int):Prop:=(shut fun x=>fnOk df_laws_heldEngine h_laws_heldEngine q_laws_heldEngine x).1 x
theorem vu_laws_heldEngine (x):v_laws_heldEngine x=fnV df_laws_heldEngine h_laws_heldEngine q_laws_heldEngine x:=by unfold v_laws_heldEngine;exact congrFun (shut _).2 x
theorem ou_laws_heldEngine (x):ok_laws_heldEngine x=fnOk df_laws_heldEngine h_laws_heldEngine q_laws_heldEngine x:=by unfold ok_laws_heldEngine;exact congrFun (shut _).2 x
noncomputable def D_laws_heldEngine:DSem:=DSemOf h_laws_heldEngine q_laws_heldEngine ok_laws_heldEngine v_laws_heldEngine
theorem ck_laws_heldEngine(x:(Int×(List (List (Int×Int×Int×Int)))×(List (List (Int×Int×Int)))×Int×(List (Int×Int×Int×Int×Int))×Int×Bool)×Int):fnChk df_laws_heldEngine h_laws_heldEngine q_laws_heldEngine x=true:=by kernel_rfl
theorem ob_laws_heldEngine:AllD df_laws_heldEngine.body.obs:=⟨sd_laws_heldKeymap,sd_laws_heldStepSS,sd_laws_heldHeldS,trivial⟩
theorem st_laws_heldEngine:fnSt df_laws_heldEngine h_laws_heldEngine q_laws_heldEngine=true:=by kernel_rfl
theorem sd_laws_heldEngine:SoundD p_laws_heldEngine D_laws_heldEngine:=by unfold p_laws_heldEngine;exact soundD_of (f:=df_laws_heldEngine) (hs:=h_laws_heldEngine) (q:=q_laws_heldEngine) ob_laws_heldEngine st_laws_heldEngine ck_laws_heldEngine (fun x h=>Eq.mp (ou_laws_heldEngine x) h) (fun x=>(vu_laws_heldEngine x).symm)
noncomputable def dc_laws_FnExactNewEngine:DCode:=
 (.seq [2,1] (.region [oa 0 2 (.boxB 0 2 (.t 0)),
 oa 1 4 (.mv (.c (.bool false)))])
  (.seq [5,2,1] (.region [oi 0 5 1048576])
  (.seq [5,2,1] (.region [oa 0 17 (.loadB 0 (some 2) (.t 2)),
 om 1 18 5,
 oc 2 19 s_laws_szKeymap p_laws_szKeymap D_laws_szKeymap [(.t 17),(.t 18)],
 om 3 5 19])
  (.seq [5,2,1] (.seq [21,5,2,1] (.region [om 0 20 5,
 oa 1 21 (.bin .lss (.t 20) (.c (.int .i64 0)))])
  (.cond (.t 21) (.seq [4] (.region [oa 0 4 (.mv (.c (.bool true)))])
  .ret) .skip))
  (.seq [5,2,1] (.region [on 0 22 1,
 om 1 23 5,
 oc 2 24 s_laws_szStepSS p_laws_szStepSS D_laws_szStepSS [(.t 22),(.t 23)],
 om 3 5 24])
  (.seq [2,1] (.seq [26,2,1] (.region [om 0 25 5,
 oa 1 26 (.bin .lss (.t 25) (.c (.int .i64 0)))])
  (.cond (.t 26) (.seq [4] (.region [oa 0 4 (.mv (.c (.bool true)))])
  .ret) .skip))
  (.seq [7,6,2,1] (.region [oa 0 28 (.loadB 0 (some 2) (.t 2)),
 oc 1 29 s_laws_toKeymap p_laws_toKeymap D_laws_toKeymap [(.t 28)],
 on 2 30 1,
 oc 3 31 s_laws_toStepSS p_laws_toStepSS D_laws_toStepSS [(.t 30)],
 oc 4 32 s_spec_NewEngine p_spec_NewEngine D_spec_NewEngine [(.t 29),(.t 31)],
 om 5 27 32,
 oa 6 33 (.extract (.t 27) 0),
 oa 7 34 (.extract (.t 27) 1),
 oa 8 6 (.allocB 1 [(.int .i64 0),.nils,.nils,(.int .i64 0),.nils,(.int .i64 0),(.bool false)]),
 os 9 (.storeB 1 7 (.t 6) (.t 33)),
 om 10 7 34])
  (.seq [8,7,6,2,1] (.region [oa 0 35 (.loadB 0 (some 2) (.t 2)),
 oc 1 36 s_laws_toKeymap p_laws_toKeymap D_laws_toKeymap [(.t 35)],
 oa 2 8 (.allocB 2 [(.int .i64 0),.nils]),
 os 3 (.storeB 2 2 (.t 8) (.t 36))])
  (.seq [9,8,7,6,2,1] (.region [on 0 37 1,
 oc 1 38 s_laws_toStepSS p_laws_toStepSS D_laws_toStepSS [(.t 37)],
 om 2 9 38])
  (.seq [11,10,9,8,7,6,2,1] (.region [oa 0 40 (.loadB 2 (some 2) (.t 8)),
 on 1 41 9,
 oc 2 42 s_impl_NewEngine p_impl_NewEngine D_impl_NewEngine [(.t 40),(.t 41)],
 om 3 39 42,
 oa 4 43 (.extract (.t 39) 0),
 oa 5 44 (.extract (.t 39) 1),
 oa 6 10 (.allocB 3 [(.int .i64 0),.nils,.nils,(.int .i64 0),.nils,(.int .i64 0),(.bool false)]),
 os 7 (.storeB 3 7 (.t 10) (.t 43)),
 om 8 11 44])
  (.seq [11,10,9,8,7,6,2,1] (.seq [53,11,10,9,8,7,6,2,1] (.region [oa 0 45 (.loadB 3 (some 7) (.t 10)),
 oa 1 46 (.loadB 1 (some 7) (.t 6)),
 oc 2 47 s_laws_eqEngine p_laws_eqEngine D_laws_eqEngine [(.t 45),(.t 46)],
 oa 3 48 (.un .not (.t 47)),
 om 4 49 48,
 og 5 50 (.mv (.t 11)) 49 false,
 og 6 51 (.mv (.t 7)) 49 false,
 og 7 52 (.eqB true (.t 50) (.t 51)) 49 false,
 oa 8 53 (.pick (.t 49) (.c (.bool true)) (.t 52))])
  (.cond (.t 53) (.seq [4] (.region [oa 0 4 (.mv (.c (.bool false)))])
  .ret) .skip))
  (.seq [11,10,9,8,7,6,2,1] (.seq [58,11,10,9,8,7,6,2,1] (.region [oa 0 54 (.loadB 2 (some 2) (.t 8)),
 oa 1 55 (.loadB 0 (some 2) (.t 2)),
 xC 2 56 s_laws_toKeymap p_laws_toKeymap D_laws_toKeymap [(.t 55)] [1],
 xC 3 57 s_laws_eqKeymap p_laws_eqKeymap D_laws_eqKeymap [(.t 54),(.t 56)] (rg 3),
 xA 4 58 (.un .not (.t 57)) (rg 4)])
  (.cond (.t 58) (.seq [4] (.region [oa 0 4 (.mv (.c (.bool false)))])
  .ret) .skip))
  (.seq [11,10,9,8,7,6,2,1] (.seq [63,11,10,9,8,7,6,2,1] (.region [on 0 59 9,
 on 1 60 1,
 oc 2 61 s_laws_toStepSS p_laws_toStepSS D_laws_toStepSS [(.t 60)],
 oc 3 62 s_laws_eqStepSS p_laws_eqStepSS D_laws_eqStepSS [(.t 59),(.t 61)],
 oa 4 63 (.un .not (.t 62))])
  (.cond (.t 63) (.seq [4] (.region [oa 0 4 (.mv (.c (.bool false)))])
  .ret) .skip))
  (.seq [12,11,10,9,8,7,6,2,1] (.region [oi 0 12 1])
  (.seq [12,11,10,9,7,6,2,1] (.region [oa 0 64 (.loadB 2 (some 2) (.t 8)),
 om 1 65 12,
 ⟨2,some 66,.mark s_laws_markKeymap M_laws_markKeymap (.t 64) (.t 65),none,[]⟩,
 om 3 12 66])
  (.seq [12,11,10,7,6,2,1] (.region [on 0 67 9,
 om 1 68 12,
 ⟨2,some 69,.mark s_laws_markStepSS M_laws_markStepSS (.t 67) (.t 68),none,[]⟩,
 om 3 12 69])
  (.seq [10,7,6,2,1] (.seq [82,10,7,6,2,1] (.region [om 0 70 12,
 oa 1 71 (.bin .lss (.t 70) (.c (.int .i64 0))),
 om 2 72 71,
 og 3 73 (.loadB 3 (some 7) (.t 10)) 72 false,
 og 4 74 (.loadB 1 (some 7) (.t 6)) 72 false,
 ⟨5,some 75,.call false s_laws_eqEngine p_laws_eqEngine D_laws_eqEngine [(.t 73),(.t 74)],(some (72,false)),[]⟩,
 og 6 76 (.un .not (.t 75)) 72 false,
 oa 7 77 (.pick (.t 72) (.c (.bool true)) (.t 76)),
 om 8 78 77,
 og 9 79 (.mv (.t 11)) 78 false,
 og 10 80 (.mv (.t 7)) 78 false,
 og 11 81 (.eqB true (.t 79) (.t 80)) 78 false,
 oa 12 82 (.pick (.t 78) (.c (.bool true)) (.t 81))])
  (.cond (.t 82) (.seq [4] (.region [oa 0 4 (.mv (.c (.bool false)))])
  .ret) .skip))
  (.seq [13,10,7,6,2,1] (.region [oi 0 13 1])
  (.seq [13,10,7,6,2,1] (.region [oa 0 83 (.loadB 3 (some 7) (.t 10)),
 om 1 84 13,
 ⟨2,some 85,.mark s_laws_markEngine M_laws_markEngine (.t 83) (.t 84),none,[]⟩,
 om 3 13 85])
  (.seq [14,13,10,7,6,2,1] (.region [oi 0 14 1])
  (.seq [14,13,10,7,6,2,1] (.region [oa 0 86 (.loadB 3 (some 7) (.t 10)),
 om 1 87 14,
 oc 2 88 s_laws_heldEngine p_laws_heldEngine D_laws_heldEngine [(.t 86),(.t 87)],
 om 3 14 88])
  (.seq [14,13,10,7,6,2,1] (.seq [90,14,13,10,7,6,2,1] (.region [om 0 89 14,
 oa 1 90 (.bin .lss (.t 89) (.c (.int .i64 0)))])
  (.cond (.t 90) (.seq [4] (.region [oa 0 4 (.mv (.c (.bool false)))])
  .ret) .skip))
  (.seq [13,10,7,6,2,1] (.seq [93,13,10,7,6,2,1] (.region [om 0 91 14,
 om 1 92 13,
 oa 2 93 (.bin .neq (.t 91) (.t 92))])
  (.cond (.t 93) (.seq [4] (.region [oa 0 4 (.mv (.c (.bool false)))])
  .ret) .skip))
  (.seq [16,15,13,10,7,6] (.region [oa 0 95 (.loadB 0 (some 2) (.t 2)),
 oc 1 96 s_laws_toKeymap p_laws_toKeymap D_laws_toKeymap [(.t 95)],
 on 2 97 1,
 oc 3 98 s_laws_toStepSS p_laws_toStepSS D_laws_toStepSS [(.t 97)],
 oc 4 99 s_impl_NewEngine p_impl_NewEngine D_impl_NewEngine [(.t 96),(.t 98)],
 om 5 94 99,
 oa 6 100 (.extract (.t 94) 0),
 oa 7 101 (.extract (.t 94) 1),
 oa 8 15 (.allocB 4 [(.int .i64 0),.nils,.nils,(.int .i64 0),.nils,(.int .i64 0),(.bool false)]),
 os 9 (.storeB 4 7 (.t 15) (.t 100)),
 om 10 16 101])
  (.seq [13,10] (.seq [110,13,10] (.region [oa 0 102 (.loadB 4 (some 7) (.t 15)),
 oa 1 103 (.loadB 1 (some 7) (.t 6)),
 oc 2 104 s_laws_eqEngine p_laws_eqEngine D_laws_eqEngine [(.t 102),(.t 103)],
 oa 3 105 (.un .not (.t 104)),
 om 4 106 105,
 og 5 107 (.mv (.t 16)) 106 false,
 og 6 108 (.mv (.t 7)) 106 false,
 og 7 109 (.eqB true (.t 107) (.t 108)) 106 false,
 oa 8 110 (.pick (.t 106) (.c (.bool true)) (.t 109))])
  (.cond (.t 110) (.seq [4] (.region [oa 0 4 (.mv (.c (.bool false)))])
  .ret) .skip))
  (.seq [14,13,10] (.region [oi 0 14 1])
  (.seq [14,13] (.region [oa 0 111 (.loadB 3 (some 7) (.t 10)),
 om 1 112 14,
 oc 2 113 s_laws_heldEngine p_laws_heldEngine D_laws_heldEngine [(.t 111),(.t 112)],
 om 3 14 113])
  (.seq [14,13] (.seq [115,14,13] (.region [om 0 114 14,
 oa 1 115 (.bin .lss (.t 114) (.c (.int .i64 0)))])
  (.cond (.t 115) (.seq [4] (.region [oa 0 4 (.mv (.c (.bool false)))])
  .ret) .skip))
  (.seq [] (.seq [118] (.region [om 0 116 14,
 om 1 117 13,
 oa 2 118 (.bin .neq (.t 116) (.t 117))])
  (.cond (.t 118) (.seq [4] (.region [oa 0 4 (.mv (.c (.bool false)))])
  .ret) .skip))
  (.seq [4] (.region [oa 0 4 (.mv (.c (.bool true)))])
  .ret))))))))))))))))))))))))))))))
noncomputable def df_laws_FnExactNewEngine:DFun:=⟨2,119,5,true,[.tmp 4],dc_laws_FnExactNewEngine⟩
noncomputable def pf_laws_FnExactNewEngine:PFun:=df_laws_FnExactNewEngine.er
noncomputable def f_laws_FnExactNewEngine:AFun:=pf_laws_FnExactNewEngine.er
@[irreducible] noncomputable def s_laws_FnExactNewEngine:CallSem:=funSem f_laws_FnExactNewEngine
@[irreducible] noncomputable def p_laws_FnExactNewEngine:PSem:=pfunSem pf_laws_FnExactNewEngine
theorem sp_laws_FnExactNewEngine:SoundP s_laws_FnExactNewEngine p_laws_FnExactNewEngine:=by unfold s_laws_FnExactNewEngine p_laws_FnExactNewEngine;exact pfun_sound (f:=pf_laws_FnExactNewEngine) ⟨sp_laws_szKeymap,sp_laws_szStepSS,sp_laws_toKeymap,sp_laws_toStepSS,sp_spec_NewEngine,sp_laws_toKeymap,sp_laws_toStepSS,sp_impl_NewEngine,sp_laws_eqEngine,sp_laws_toKeymap,sp_laws_eqKeymap,sp_laws_toStepSS,sp_laws_eqStepSS,smk_laws_markKeymap,smk_laws_markStepSS,sp_laws_eqEngine,smk_laws_markEngine,sp_laws_heldEngine,sp_laws_toKeymap,sp_laws_toStepSS,sp_impl_NewEngine,sp_laws_eqEngine,sp_laws_heldEngine,trivial⟩
def h_laws_FnExactNewEngine:List HT:=[.agg [(.frz,.int .i64),(.frz,.sl (.one (.sl rI4)))],.one .frz (.sl (.one (.sl rI3)))]
def q_laws_FnExactNewEngine:QT:=.one (.one .own (.bool))
@[irreducible] noncomputable def v_laws_FnExactNewEngine(x:(Int×(List (List (Int×Int×Int×Int))))×(List (List (Int×Int×Int)))):Bool:=(shut fun x=>fnV df_laws_FnExactNewEngine h_laws_FnExactNewEngine q_laws_FnExactNewEngine x).1 x
@[irreducible] noncomputable def ok_laws_FnExactNewEngine(x:(Int×(List (List (Int×Int×Int×Int))))×(List (List (Int×Int×Int)))):Prop:=(shut fun x=>fnOk df_laws_FnExactNewEngine h_laws_FnExactNewEngine q_laws_FnExactNewEngine x).1 x
theorem vu_laws_FnExactNewEngine (x):v_laws_FnExactNewEngine x=fnV df_laws_FnExactNewEngine h_laws_FnExactNewEngine q_laws_FnExactNewEngine x:=by unfold v_laws_FnExactNewEngine;exact congrFun (shut _).2 x
theorem ou_laws_FnExactNewEngine (x):ok_laws_FnExactNewEngine x=fnOk df_laws_FnExactNewEngine h_laws_FnExactNewEngine q_laws_FnExactNewEngine x:=by unfold ok_laws_FnExactNewEngine;exact congrFun (shut _).2 x
theorem ck_laws_FnExactNewEngine(x:(Int×(List (List (Int×Int×Int×Int))))×(List (List (Int×Int×Int)))):fnChk df_laws_FnExactNewEngine h_laws_FnExactNewEngine q_laws_FnExactNewEngine x=true:=by kernel_rfl
theorem ob_laws_FnExactNewEngine:AllD df_laws_FnExactNewEngine.body.obs:=⟨sd_laws_szKeymap,sd_laws_szStepSS,sd_laws_toKeymap,sd_laws_toStepSS,sd_spec_NewEngine,sd_laws_toKeymap,sd_laws_toStepSS,sd_impl_NewEngine,sd_laws_eqEngine,sd_laws_toKeymap,sd_laws_eqKeymap,sd_laws_toStepSS,sd_laws_eqStepSS,sd_laws_eqEngine,sd_laws_heldEngine,sd_laws_toKeymap,sd_laws_toStepSS,sd_impl_NewEngine,sd_laws_eqEngine,sd_laws_heldEngine,trivial⟩
theorem st_laws_FnExactNewEngine:fnSt df_laws_FnExactNewEngine h_laws_FnExactNewEngine q_laws_FnExactNewEngine=true:=by kernel_rfl
end
end Go.Ag
