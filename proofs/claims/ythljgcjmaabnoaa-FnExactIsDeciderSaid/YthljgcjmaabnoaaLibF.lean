/- Part 6 of what FnExactIsDecider needs. No conditions. -/
import Derived.Test.YthljgcjmaabnoaaLibE
namespace Go.Ag
set_option linter.unusedSimpArgs false
set_option linter.unusedVariables false
section
set_option maxRecDepth 8000
noncomputable def dc_spec_l8Find:DCode:=
 (.seq [3,0] (.region [oa 0 3 (.boxB 0 3 (.t 1)),
 oi 1 4 0])
  (.seq [] (.seq [5,3,0] (.region [oi 0 5 0])
  (.block 0 (.loop [0,3,5] 1 (.seq [5,3,0] (.seq [9,5,3,0] (.region [om 0 6 5,
 on 1 7 0,
 oa 2 8 (.len (.t 7)),
 oa 3 9 (.bin .lss (.t 6) (.t 8))])
  (.cond (.t 9) .skip (.exit 0)))
  (.seq [5,3,0] (.block 1 (.seq [31,5,3,0] (.region [on 0 12 0,
 om 1 13 5,
 xA 2 14 (.indexA 5 (.t 12) (.t 13)) (rg 2),
 xA 3 15 (.fieldA 1 (.t 14)) (rg 3),
 xA 4 16 (.fieldA 1 (.t 15)) (rg 4),
 xA 5 17 (.loadH none (.t 16)) (rg 5),
 oa 6 18 (.fieldA 1 (.t 3)),
 xA 7 19 (.loadB 0 none (.t 18)) [6],
 xA 8 20 (.bin .eql (.t 17) (.t 19)) (rg 8),
 xA 9 21 (.mv (.t 20)) (rg 9),
 ⟨10,some 22,.a true (.mv (.t 0)) none,(some (21,true)),[0,1,2,3,4,5,6,7,8,9]⟩,
 ⟨11,some 23,.a false (.mv (.t 5)) none,(some (21,true)),[0,1,2,3,4,5,6,7,8,9]⟩,
 ⟨12,some 24,.a false (.indexA 5 (.t 22) (.t 23)) none,(some (21,true)),[0,1,2,3,4,5,6,7,8,9,10,11]⟩,
 ⟨13,some 25,.a false (.fieldA 1 (.t 24)) none,(some (21,true)),[0,1,2,3,4,5,6,7,8,9,10,11,12]⟩,
 ⟨14,some 26,.a false (.fieldA 2 (.t 25)) none,(some (21,true)),[0,1,2,3,4,5,6,7,8,9,10,11,12,13]⟩,
 ⟨15,some 27,.a false (.loadH none (.t 26)) none,(some (21,true)),[0,1,2,3,4,5,6,7,8,9,10,11,12,13,14]⟩,
 ⟨16,some 28,.a false (.fieldA 2 (.t 3)) none,(some (21,true)),[0,1,2,3,4,5,6,7,8,9]⟩,
 ⟨17,some 29,.a false (.loadB 0 none (.t 28)) none,(some (21,true)),[0,1,2,3,4,5,6,7,8,9,16]⟩,
 ⟨18,some 30,.a false (.bin .eql (.t 27) (.t 29)) none,(some (21,true)),[0,1,2,3,4,5,6,7,8,9,10,11,12,13,14,15,16,17]⟩,
 xA 19 31 (.pick (.t 21) (.t 30) (.c (.bool false))) (rg 19)])
  (.cond (.t 31) (.seq [4] (.region [om 0 32 5,
 om 1 4 32])
  .ret) .skip)))
  (.region [om 0 10 5,
 oa 1 11 (.bin .add (.t 10) (.c (.int .i64 1))),
 om 2 5 11]))))))
  (.seq [4] (.region [oi 0 4 (-1)])
  .ret)))
noncomputable def df_spec_l8Find:DFun:=⟨2,33,1,true,[.tmp 4],dc_spec_l8Find⟩
noncomputable def pf_spec_l8Find:PFun:=df_spec_l8Find.er
noncomputable def f_spec_l8Find:AFun:=pf_spec_l8Find.er
@[irreducible] noncomputable def s_spec_l8Find:CallSem:=funSem f_spec_l8Find
@[irreducible] noncomputable def p_spec_l8Find:PSem:=pfunSem pf_spec_l8Find
theorem sp_spec_l8Find:SoundP s_spec_l8Find p_spec_l8Find:=by unfold s_spec_l8Find p_spec_l8Find;exact pfun_sound (f:=pf_spec_l8Find) trivial
def h_spec_l8Find:List HT:=[.one .frz (.sl rI5),.agg [(.frz,.int .i64),(.frz,.int .i64),(.frz,.int .i64)]]
def q_spec_l8Find:QT:=.one (.one .own (.int .i64))
@[irreducible] noncomputable def v_spec_l8Find(x:(List (Int×Int×Int×Int×Int))×(Int×Int×Int)):Int:=(shut fun x=>fnV df_spec_l8Find h_spec_l8Find q_spec_l8Find x).1 x
@[irreducible] noncomputable def ok_spec_l8Find(x:(List (Int×Int×Int×Int×Int))×(Int×Int×Int)):Prop:=(shut fun x=>fnOk df_spec_l8Find h_spec_l8Find q_spec_l8Find x).1 x
theorem vu_spec_l8Find (x):v_spec_l8Find x=fnV df_spec_l8Find h_spec_l8Find q_spec_l8Find x:=by unfold v_spec_l8Find;exact congrFun (shut _).2 x
theorem ou_spec_l8Find (x):ok_spec_l8Find x=fnOk df_spec_l8Find h_spec_l8Find q_spec_l8Find x:=by unfold ok_spec_l8Find;exact congrFun (shut _).2 x
noncomputable def D_spec_l8Find:DSem:=DSemOf h_spec_l8Find q_spec_l8Find ok_spec_l8Find v_spec_l8Find
theorem ck_spec_l8Find(x:(List (Int×Int×Int×Int×Int))×(Int×Int×Int)):fnChk df_spec_l8Find h_spec_l8Find q_spec_l8Find x=true:=by kernel_rfl
theorem ob_spec_l8Find:AllD df_spec_l8Find.body.obs:=trivial
theorem st_spec_l8Find:fnSt df_spec_l8Find h_spec_l8Find q_spec_l8Find=true:=by kernel_rfl
theorem sd_spec_l8Find:SoundD p_spec_l8Find D_spec_l8Find:=by unfold p_spec_l8Find;exact soundD_of (f:=df_spec_l8Find) (hs:=h_spec_l8Find) (q:=q_spec_l8Find) ob_spec_l8Find st_spec_l8Find ck_spec_l8Find (fun x h=>Eq.mp (ou_spec_l8Find x) h) (fun x=>(vu_spec_l8Find x).symm)
noncomputable def dc_spec_l8Action:DCode:=
 (.seq [2,1] (.region [oa 0 1 (.boxB 0 3 (.t 0)),
 oa 1 2 (.allocB 1 [(.int .i64 0),(.int .i64 0),(.int .i64 0),(.int .i64 0)])])
  (.seq [2] (.region [oa 0 3 (.fieldA 1 (.t 1)),
 ob 1 4 (.loadB 0 none (.t 3)),
 oa 2 5 (.fieldA 2 (.t 1)),
 ob 3 6 (.loadB 0 none (.t 5)),
 oa 4 7 (.build [(.int .i64 0),(.int .i64 0),(.int .i64 0),(.int .i64 0)] [(0,1,(.c (.int .i64 2))),(1,1,(.t 4)),(2,1,(.t 6))]),
 os 5 (.storeB 1 4 (.t 2) (.t 7))])
  .ret))
noncomputable def df_spec_l8Action:DFun:=⟨1,8,2,true,[.cell 2 (some 4)],dc_spec_l8Action⟩
noncomputable def pf_spec_l8Action:PFun:=df_spec_l8Action.er
noncomputable def f_spec_l8Action:AFun:=pf_spec_l8Action.er
@[irreducible] noncomputable def s_spec_l8Action:CallSem:=funSem f_spec_l8Action
@[irreducible] noncomputable def p_spec_l8Action:PSem:=pfunSem pf_spec_l8Action
theorem sp_spec_l8Action:SoundP s_spec_l8Action p_spec_l8Action:=by unfold s_spec_l8Action p_spec_l8Action;exact pfun_sound (f:=pf_spec_l8Action) trivial
def h_spec_l8Action:List HT:=[.agg [(.frz,.int .i64),(.frz,.int .i64),(.frz,.int .i64)]]
def q_spec_l8Action:QT:=.one (.agg [(.own,.int .i64),(.own,.int .i64),(.own,.int .i64),(.own,.int .i64)])
@[irreducible] noncomputable def v_spec_l8Action(x:Int×Int×Int):Int×Int×Int×Int:=(shut fun x=>fnV df_spec_l8Action h_spec_l8Action q_spec_l8Action x).1 x
@[irreducible] noncomputable def ok_spec_l8Action(x:Int×Int×Int):Prop:=(shut fun x=>fnOk df_spec_l8Action h_spec_l8Action q_spec_l8Action x).1 x
theorem vu_spec_l8Action (x):v_spec_l8Action x=fnV df_spec_l8Action h_spec_l8Action q_spec_l8Action x:=by unfold v_spec_l8Action;exact congrFun (shut _).2 x
theorem ou_spec_l8Action (x):ok_spec_l8Action x=fnOk df_spec_l8Action h_spec_l8Action q_spec_l8Action x:=by unfold ok_spec_l8Action;exact congrFun (shut _).2 x
noncomputable def D_spec_l8Action:DSem:=DSemOf h_spec_l8Action q_spec_l8Action ok_spec_l8Action v_spec_l8Action
theorem ck_spec_l8Action(x:Int×Int×Int):fnChk df_spec_l8Action h_spec_l8Action q_spec_l8Action x=true:=by kernel_rfl
theorem ob_spec_l8Action:AllD df_spec_l8Action.body.obs:=trivial
theorem st_spec_l8Action:fnSt df_spec_l8Action h_spec_l8Action q_spec_l8Action=true:=by kernel_rfl
theorem sd_spec_l8Action:SoundD p_spec_l8Action D_spec_l8Action:=by unfold p_spec_l8Action;exact soundD_of (f:=df_spec_l8Action) (hs:=h_spec_l8Action) (q:=q_spec_l8Action) ob_spec_l8Action st_spec_l8Action ck_spec_l8Action (fun x h=>Eq.mp (ou_spec_l8Action x) h) (fun x=>(vu_spec_l8Action x).symm)
noncomputable def dc_spec_l8Without:DCode:=
 (.seq [1,0] (.region [oa 0 4 (.mv (.c .nils))])
 (.seq [4] (.region [on 1 6 0,
 om 2 7 1,
 xA 3 8 (.slice 5 (.t 6) none (some (.t 7))) [1,2],
 on 5 10 0,
 om 6 11 1,
 xA 7 12 (.bin .add (.t 11) (.c (.int .i64 1))) [6],
 xA 8 13 (.slice 5 (.t 10) (some (.t 12)) none) [5,6,7],
 ⟨0,some 5,.a false (.litSlice 5 0 [] []) (some rI5),none,[]⟩,
 xA 4 9 (.app 5 (.t 5) (.t 8)) (rg 4),
 xA 9 14 (.app 5 (.t 9) (.t 13)) (rg 9),
 xA 10 4 (.mv (.t 14)) (rg 10)])
  .ret))
noncomputable def df_spec_l8Without:DFun:=⟨2,15,0,false,[.tmp 4],dc_spec_l8Without⟩
noncomputable def pf_spec_l8Without:PFun:=df_spec_l8Without.er
noncomputable def f_spec_l8Without:AFun:=pf_spec_l8Without.er
@[irreducible] noncomputable def s_spec_l8Without:CallSem:=funSem f_spec_l8Without
@[irreducible] noncomputable def p_spec_l8Without:PSem:=pfunSem pf_spec_l8Without
theorem sp_spec_l8Without:SoundP s_spec_l8Without p_spec_l8Without:=by unfold s_spec_l8Without p_spec_l8Without;exact pfun_sound (f:=pf_spec_l8Without) trivial
def h_spec_l8Without:List HT:=[.one .frz (.sl rI5),.one .frz (.int .i64)]
def q_spec_l8Without:QT:=.one (.one .own (.sl rI5))
@[irreducible] noncomputable def v_spec_l8Without(x:(List (Int×Int×Int×Int×Int))×Int):List (Int×Int×Int×Int×Int):=(shut fun x=>fnV df_spec_l8Without h_spec_l8Without q_spec_l8Without x).1 x
@[irreducible] noncomputable def ok_spec_l8Without(x:(List (Int×Int×Int×Int×Int))×Int):Prop:=(shut fun x=>fnOk df_spec_l8Without h_spec_l8Without q_spec_l8Without x).1 x
theorem vu_spec_l8Without (x):v_spec_l8Without x=fnV df_spec_l8Without h_spec_l8Without q_spec_l8Without x:=by unfold v_spec_l8Without;exact congrFun (shut _).2 x
theorem ou_spec_l8Without (x):ok_spec_l8Without x=fnOk df_spec_l8Without h_spec_l8Without q_spec_l8Without x:=by unfold ok_spec_l8Without;exact congrFun (shut _).2 x
noncomputable def D_spec_l8Without:DSem:=DSemOf h_spec_l8Without q_spec_l8Without ok_spec_l8Without v_spec_l8Without
theorem ck_spec_l8Without(x:(List (Int×Int×Int×Int×Int))×Int):fnChk df_spec_l8Without h_spec_l8Without q_spec_l8Without x=true:=by kernel_rfl
theorem ob_spec_l8Without:AllD df_spec_l8Without.body.obs:=trivial
theorem st_spec_l8Without:fnSt df_spec_l8Without h_spec_l8Without q_spec_l8Without=true:=by kernel_rfl
theorem sd_spec_l8Without:SoundD p_spec_l8Without D_spec_l8Without:=by unfold p_spec_l8Without;exact soundD_of (f:=df_spec_l8Without) (hs:=h_spec_l8Without) (q:=q_spec_l8Without) ob_spec_l8Without st_spec_l8Without ck_spec_l8Without (fun x h=>Eq.mp (ou_spec_l8Without x) h) (fun x=>(vu_spec_l8Without x).symm)
noncomputable def dc_spec_IsMacro:DCode:=
 (.seq [0] (.region [oa 0 2 (.mv (.c (.bool false)))])
 (.seq [3,0] (.region [⟨0,some 7,.a false (.litSlice 5 0 [] []) (some rI5),none,[]⟩,
 om 1 3 7])
  (.seq [3,0] (.seq [4,3,0] (.region [oi 0 4 0])
  (.block 0 (.loop [0,3,4] 1 (.seq [4,3,0] (.seq [11,4,3,0] (.region [om 0 8 4,
 on 1 9 0,
 oa 2 10 (.len (.t 9)),
 oa 3 11 (.bin .lss (.t 8) (.t 10))])
  (.cond (.t 11) .skip (.exit 0)))
  (.seq [4,3,0] (.block 1 (.seq [5,4,3,0] (.region [on 0 14 0,
 om 1 15 4,
 oa 2 16 (.indexA 3 (.t 14) (.t 15)),
 ob 3 17 (.loadH (some 3) (.t 16)),
 oa 4 5 (.allocB 0 [(.int .i64 0),(.int .i64 0),(.int .i64 0)]),
 os 5 (.storeB 0 3 (.t 5) (.t 17))])
  (.seq [6,5,4,3,0] (.region [on 0 18 3,
 oa 1 19 (.loadB 0 (some 3) (.t 5)),
 oc 2 20 s_spec_l8Find p_spec_l8Find D_spec_l8Find [(.t 18),(.t 19)],
 om 3 6 20])
  (.seq [6,5,4,3,0] (.seq [38,6,5,4,3,0] (.region [oa 0 21 (.fieldA 0 (.t 5)),
 oa 1 22 (.loadB 0 none (.t 21)),
 oc 2 23 s_spec_l1In p_spec_l1In D_spec_l1In [(.t 22),(.c (.int .i64 0)),(.c (.int .i64 2))],
 oa 3 24 (.un .not (.t 23)),
 om 4 25 24,
 og 5 26 (.loadB 0 (some 3) (.t 5)) 25 false,
 ⟨6,some 27,.call false s_spec_l8Action p_spec_l8Action D_spec_l8Action [(.t 26)],(some (25,false)),[]⟩,
 ⟨7,some 28,.call false s_spec_IsAction p_spec_IsAction D_spec_IsAction [(.t 27)],(some (25,false)),[]⟩,
 og 8 29 (.un .not (.t 28)) 25 false,
 oa 9 30 (.pick (.t 25) (.c (.bool true)) (.t 29)),
 om 10 31 30,
 og 11 32 (.fieldA 0 (.t 5)) 31 false,
 og 12 33 (.loadB 0 none (.t 32)) 31 false,
 og 13 34 (.bin .eql (.t 33) (.c (.int .i64 2))) 31 false,
 og 14 35 (.mv (.t 6)) 31 false,
 og 15 36 (.bin .geq (.t 35) (.c (.int .i64 0))) 31 false,
 og 16 37 (.eqB true (.t 34) (.t 36)) 31 false,
 oa 17 38 (.pick (.t 31) (.c (.bool true)) (.t 37))])
  (.cond (.t 38) (.seq [2] (.region [oa 0 2 (.mv (.c (.bool false)))])
  .ret) .skip))
  (.seq [40,6,5,4,3,0] (.region [oa 0 39 (.fieldA 0 (.t 5)),
 oa 1 40 (.loadB 0 none (.t 39))])
  (.block 2 (.seq [41,40,6,5,4,3,0] (.region [oa 0 42 (.bin .eql (.t 40) (.c (.int .i64 1))),
 om 1 41 42])
  (.cond (.t 41) (.region [om 0 43 3,
 oa 1 44 (.loadB 0 (some 3) (.t 5)),
 oc 2 45 s_spec_l8Action p_spec_l8Action D_spec_l8Action [(.t 44)],
 oa 3 46 (.build [(.int .i64 0),(.int .i64 0),(.int .i64 0),(.int .i64 0),(.int .i64 0)] [(1,4,(.t 45))]),
 ⟨4,some 47,.a false (.litSlice 5 1 [(.int .i64 0),(.int .i64 0),(.int .i64 0),(.int .i64 0),(.int .i64 0)] [(0,5,(.t 46))]) (some rI5),none,[]⟩,
 oa 5 48 (.app 5 (.t 43) (.t 47)),
 om 6 3 48]) (.seq [49,6,4,3,0] (.region [oa 0 50 (.bin .eql (.t 40) (.c (.int .i64 2))),
 om 1 49 50])
  (.cond (.t 49) (.region [on 0 51 3,
 om 1 52 6,
 oc 2 53 s_spec_l8Without p_spec_l8Without D_spec_l8Without [(.t 51),(.t 52)],
 om 3 3 53]) .skip))))))))))
  (.region [om 0 12 4,
 oa 1 13 (.bin .add (.t 12) (.c (.int .i64 1))),
 om 2 4 13]))))))
  (.seq [2] (.region [on 0 54 0,
 oa 1 55 (.len (.t 54)),
 oa 2 56 (.bin .leq (.t 55) (.c (.int .i64 8))),
 om 3 57 56,
 ⟨4,some 58,.a true (.mv (.t 3)) none,(some (57,true)),[]⟩,
 og 5 59 (.len (.t 58)) 57 true,
 og 6 60 (.bin .eql (.t 59) (.c (.int .i64 0))) 57 true,
 oa 7 61 (.pick (.t 57) (.t 60) (.c (.bool false))),
 om 8 2 61])
  .ret))))
noncomputable def df_spec_IsMacro:DFun:=⟨1,62,1,true,[.tmp 2],dc_spec_IsMacro⟩
noncomputable def pf_spec_IsMacro:PFun:=df_spec_IsMacro.er
noncomputable def f_spec_IsMacro:AFun:=pf_spec_IsMacro.er
@[irreducible] noncomputable def s_spec_IsMacro:CallSem:=funSem f_spec_IsMacro
@[irreducible] noncomputable def p_spec_IsMacro:PSem:=pfunSem pf_spec_IsMacro
theorem sp_spec_IsMacro:SoundP s_spec_IsMacro p_spec_IsMacro:=by unfold s_spec_IsMacro p_spec_IsMacro;exact pfun_sound (f:=pf_spec_IsMacro) ⟨sp_spec_l8Find,sp_spec_l1In,sp_spec_l8Action,sp_spec_IsAction,sp_spec_l8Action,sp_spec_l8Without,trivial⟩
def h_spec_IsMacro:List HT:=[.one .frz (.sl rI3)]
def q_spec_IsMacro:QT:=.one (.one .own (.bool))
@[irreducible] noncomputable def v_spec_IsMacro(x:List (Int×Int×Int)):Bool:=(shut fun x=>fnV df_spec_IsMacro h_spec_IsMacro q_spec_IsMacro x).1 x
@[irreducible] noncomputable def ok_spec_IsMacro(x:List (Int×Int×Int)):Prop:=(shut fun x=>fnOk df_spec_IsMacro h_spec_IsMacro q_spec_IsMacro x).1 x
theorem vu_spec_IsMacro (x):v_spec_IsMacro x=fnV df_spec_IsMacro h_spec_IsMacro q_spec_IsMacro x:=by unfold v_spec_IsMacro;exact congrFun (shut _).2 x
theorem ou_spec_IsMacro (x):ok_spec_IsMacro x=fnOk df_spec_IsMacro h_spec_IsMacro q_spec_IsMacro x:=by unfold ok_spec_IsMacro;exact congrFun (shut _).2 x
noncomputable def D_spec_IsMacro:DSem:=DSemOf h_spec_IsMacro q_spec_IsMacro ok_spec_IsMacro v_spec_IsMacro
theorem ck_spec_IsMacro(x:List (Int×Int×Int)):fnChk df_spec_IsMacro h_spec_IsMacro q_spec_IsMacro x=true:=by kernel_rfl
theorem ob_spec_IsMacro:AllD df_spec_IsMacro.body.obs:=⟨sd_spec_l8Find,sd_spec_l1In,sd_spec_l8Action,sd_spec_IsAction,sd_spec_l8Action,sd_spec_l8Without,trivial⟩
theorem st_spec_IsMacro:fnSt df_spec_IsMacro h_spec_IsMacro q_spec_IsMacro=true:=by kernel_rfl
theorem sd_spec_IsMacro:SoundD p_spec_IsMacro D_spec_IsMacro:=by unfold p_spec_IsMacro;exact soundD_of (f:=df_spec_IsMacro) (hs:=h_spec_IsMacro) (q:=q_spec_IsMacro) ob_spec_IsMacro st_spec_IsMacro ck_spec_IsMacro (fun x h=>Eq.mp (ou_spec_IsMacro x) h) (fun x=>(vu_spec_IsMacro x).symm)
noncomputable def dc_impl_pairAt:DCode:=
 (.seq [3,0] (.region [oa 0 3 (.boxB 0 2 (.t 1)),
 oi 1 4 0])
  (.seq [] (.seq [9,8,7,3] (.region [on 0 7 0,
 oa 1 8 (.len (.t 7)),
 oi 2 9 0])
  (.block 0 (.loop [3,7,8,9] 1 (.seq [10,9,8,7,3] (.region [oa 0 10 (.bin .lss (.t 9) (.t 8))])
  (.seq [9,8,7,3] (.cond (.t 10) .skip (.exit 0))
  (.seq [9,8,7,3] (.block 1 (.seq [9,8,7,6,5,3] (.region [om 0 11 9,
 oa 1 12 (.indexA 2 (.t 7) (.t 9)),
 ob 2 13 (.loadH (some 2) (.t 12)),
 oa 3 6 (.allocB 1 [(.int .i64 0),(.int .i64 0)]),
 om 4 5 11,
 os 5 (.storeB 1 2 (.t 6) (.t 13))])
  (.seq [16,9,8,7,5,3] (.region [oa 0 14 (.loadB 1 (some 2) (.t 6)),
 oa 1 15 (.loadB 0 (some 2) (.t 3)),
 oa 2 16 (.eqA 2 false (.t 14) (.t 15))])
  (.cond (.t 16) (.seq [4] (.region [om 0 17 5,
 om 1 4 17])
  .ret) .skip))))
  (.region [oa 0 18 (.bin .add (.t 9) (.c (.int .i64 1))),
 om 1 9 18])))))))
  (.seq [4] (.region [oi 0 4 (-1)])
  .ret)))
noncomputable def df_impl_pairAt:DFun:=⟨2,19,2,true,[.tmp 4],dc_impl_pairAt⟩
noncomputable def pf_impl_pairAt:PFun:=df_impl_pairAt.er
noncomputable def f_impl_pairAt:AFun:=pf_impl_pairAt.er
@[irreducible] noncomputable def s_impl_pairAt:CallSem:=funSem f_impl_pairAt
@[irreducible] noncomputable def p_impl_pairAt:PSem:=pfunSem pf_impl_pairAt
theorem sp_impl_pairAt:SoundP s_impl_pairAt p_impl_pairAt:=by unfold s_impl_pairAt p_impl_pairAt;exact pfun_sound (f:=pf_impl_pairAt) trivial
def h_impl_pairAt:List HT:=[.one .frz (.sl (.cons (.int .i64) (.one (.int .i64)))),.agg [(.frz,.int .i64),(.frz,.int .i64)]]
def q_impl_pairAt:QT:=.one (.one .own (.int .i64))
@[irreducible] noncomputable def v_impl_pairAt(x:(List (Int×Int))×(Int×Int)):Int:=(shut fun x=>fnV df_impl_pairAt h_impl_pairAt q_impl_pairAt x).1 x
@[irreducible] noncomputable def ok_impl_pairAt(x:(List (Int×Int))×(Int×Int)):Prop:=(shut fun x=>fnOk df_impl_pairAt h_impl_pairAt q_impl_pairAt x).1 x
theorem vu_impl_pairAt (x):v_impl_pairAt x=fnV df_impl_pairAt h_impl_pairAt q_impl_pairAt x:=by unfold v_impl_pairAt;exact congrFun (shut _).2 x
theorem ou_impl_pairAt (x):ok_impl_pairAt x=fnOk df_impl_pairAt h_impl_pairAt q_impl_pairAt x:=by unfold ok_impl_pairAt;exact congrFun (shut _).2 x
noncomputable def D_impl_pairAt:DSem:=DSemOf h_impl_pairAt q_impl_pairAt ok_impl_pairAt v_impl_pairAt
theorem ck_impl_pairAt(x:(List (Int×Int))×(Int×Int)):fnChk df_impl_pairAt h_impl_pairAt q_impl_pairAt x=true:=by kernel_rfl
theorem ob_impl_pairAt:AllD df_impl_pairAt.body.obs:=trivial
theorem st_impl_pairAt:fnSt df_impl_pairAt h_impl_pairAt q_impl_pairAt=true:=by kernel_rfl
theorem sd_impl_pairAt:SoundD p_impl_pairAt D_impl_pairAt:=by unfold p_impl_pairAt;exact soundD_of (f:=df_impl_pairAt) (hs:=h_impl_pairAt) (q:=q_impl_pairAt) ob_impl_pairAt st_impl_pairAt ck_impl_pairAt (fun x h=>Eq.mp (ou_impl_pairAt x) h) (fun x=>(vu_impl_pairAt x).symm)
noncomputable def dc_impl_IsMacro:DCode:=
 (.seq [0] (.region [oa 0 2 (.mv (.c (.bool false)))])
 (.seq [0] (.seq [10,0] (.region [on 0 8 0,
 oa 1 9 (.len (.t 8)),
 oa 2 10 (.bin .gtr (.t 9) (.c (.int .i64 8)))])
  (.cond (.t 10) (.seq [2] (.region [oa 0 2 (.mv (.c (.bool false)))])
  .ret) .skip))
  (.seq [3,0] (.region [⟨0,some 3,.aw [(0,2)] false (.mv (.c .nils)) none,none,[]⟩])
  (.seq [3] (.seq [13,12,11,3] (.region [on 0 11 0,
 oa 1 12 (.len (.t 11)),
 oi 2 13 0])
  (.block 0 (.loop [3,11,12,13] 1 (.seq [14,13,12,11,3] (.region [oa 0 14 (.bin .lss (.t 13) (.t 12))])
  (.seq [13,12,11,3] (.cond (.t 14) .skip (.exit 0))
  (.seq [13,12,11,3] (.block 1 (.seq [13,12,11,5,3] (.region [oa 0 15 (.indexA 3 (.t 11) (.t 13)),
 ob 1 16 (.loadH (some 3) (.t 15)),
 oa 2 5 (.allocB 0 [(.int .i64 0),(.int .i64 0),(.int .i64 0)]),
 os 3 (.storeB 0 3 (.t 5) (.t 16))])
  (.seq [13,12,11,6,5,3] (.region [oa 0 17 (.fieldA 1 (.t 5)),
 ob 1 18 (.loadB 0 none (.t 17)),
 oa 2 19 (.fieldA 2 (.t 5)),
 ob 3 20 (.loadB 0 none (.t 19)),
 oa 4 21 (.build [(.int .i64 0),(.int .i64 0)] [(0,1,(.t 18)),(1,1,(.t 20))]),
 oa 5 6 (.allocB 1 [(.int .i64 0),(.int .i64 0)]),
 os 6 (.storeB 1 2 (.t 6) (.t 21))])
  (.seq [13,12,11,7,6,5,3] (.region [on 0 22 3,
 oa 1 23 (.loadB 1 (some 2) (.t 6)),
 oc 2 24 s_impl_pairAt p_impl_pairAt D_impl_pairAt [(.t 22),(.t 23)],
 om 3 7 24])
  (.seq [13,12,11,7,6,5,3] (.seq [31,13,12,11,7,6,5,3] (.region [oa 0 25 (.fieldA 1 (.t 5)),
 ob 1 26 (.loadB 0 none (.t 25)),
 oa 2 27 (.fieldA 2 (.t 5)),
 ob 3 28 (.loadB 0 none (.t 27)),
 oa 4 29 (.build [(.int .i64 0),(.int .i64 0),(.int .i64 0),(.int .i64 0)] [(0,1,(.c (.int .i64 2))),(1,1,(.t 26)),(2,1,(.t 28))]),
 oc 5 30 s_impl_IsAction p_impl_IsAction D_impl_IsAction [(.t 29)],
 oa 6 31 (.un .not (.t 30))])
  (.cond (.t 31) (.seq [2] (.region [oa 0 2 (.mv (.c (.bool false)))])
  .ret) .skip))
  (.seq [33,13,12,11,7,6,5,3] (.region [oa 0 32 (.fieldA 0 (.t 5)),
 oa 1 33 (.loadB 0 none (.t 32))])
  (.block 2 (.seq [34,33,13,12,11,7,6,5,3] (.seq [34,33,13,12,11,7,6,5,3] (.region [oa 0 35 (.bin .eql (.t 33) (.c (.int .i64 0))),
 om 1 34 35])
  (.cond (.t 34) .skip (.region [oa 0 36 (.bin .eql (.t 33) (.c (.int .i64 1))),
 om 1 34 36])))
  (.cond (.t 34) (.seq [13,12,11,6,5,3] (.seq [38,13,12,11,6,5,3] (.region [om 0 37 7,
 oa 1 38 (.bin .geq (.t 37) (.c (.int .i64 0)))])
  (.cond (.t 38) (.seq [2] (.region [oa 0 2 (.mv (.c (.bool false)))])
  .ret) .skip))
  (.seq [41,13,12,11,6,3] (.region [oa 0 39 (.fieldA 0 (.t 5)),
 oa 1 40 (.loadB 0 none (.t 39)),
 oa 2 41 (.bin .eql (.t 40) (.c (.int .i64 1)))])
  (.cond (.t 41) (.region [om 0 42 3,
 ob 1 43 (.loadB 1 (some 2) (.t 6)),
 ⟨2,some 44,.a false (.litSlice 2 1 [(.int .i64 0),(.int .i64 0)] [(0,2,(.t 43))]) (some (.cons (.int .i64) (.one (.int .i64)))),none,[]⟩,
 ⟨3,some 45,.aw [(0,2)] false (.app 2 (.t 42) (.t 44)) none,none,[]⟩,
 ⟨4,some 3,.aw [(0,2)] false (.mv (.t 45)) none,none,[]⟩]) .skip))) (.seq [46,13,12,11,7,3] (.region [oa 0 47 (.bin .eql (.t 33) (.c (.int .i64 2))),
 om 1 46 47])
  (.cond (.t 46) (.seq [13,12,11,7,3] (.seq [49,13,12,11,7,3] (.region [om 0 48 7,
 oa 1 49 (.bin .lss (.t 48) (.c (.int .i64 0)))])
  (.cond (.t 49) (.seq [2] (.region [oa 0 2 (.mv (.c (.bool false)))])
  .ret) .skip))
  (.region [on 0 50 3,
 om 1 51 7,
 xA 2 52 (.slice 2 (.t 50) none (some (.t 51))) (rg 2),
 on 3 53 3,
 om 4 54 7,
 xA 5 55 (.bin .add (.t 54) (.c (.int .i64 1))) [4],
 xA 6 56 (.slice 2 (.t 53) (some (.t 55)) none) [3,4,5],
 ⟨7,some 57,.aw [(0,2)] false (.app 2 (.t 52) (.t 56)) none,none,[0,1,2,3,4,5,6]⟩,
 ⟨8,some 3,.aw [(0,2)] false (.mv (.t 57)) none,none,[0,1,2,3,4,5,6,7]⟩])) (.seq [2] (.region [oa 0 2 (.mv (.c (.bool false)))])
  .ret))))))))))))
  (.region [oa 0 58 (.bin .add (.t 13) (.c (.int .i64 1))),
 om 1 13 58])))))))
  (.seq [2] (.region [on 0 59 3,
 oa 1 60 (.len (.t 59)),
 oa 2 61 (.bin .eql (.t 60) (.c (.int .i64 0))),
 om 3 2 61])
  .ret)))))
noncomputable def df_impl_IsMacro:DFun:=⟨1,62,2,true,[.tmp 2],dc_impl_IsMacro⟩
noncomputable def pf_impl_IsMacro:PFun:=df_impl_IsMacro.er
noncomputable def f_impl_IsMacro:AFun:=pf_impl_IsMacro.er
@[irreducible] noncomputable def s_impl_IsMacro:CallSem:=funSem f_impl_IsMacro
@[irreducible] noncomputable def p_impl_IsMacro:PSem:=pfunSem pf_impl_IsMacro
theorem sp_impl_IsMacro:SoundP s_impl_IsMacro p_impl_IsMacro:=by unfold s_impl_IsMacro p_impl_IsMacro;exact pfun_sound (f:=pf_impl_IsMacro) ⟨sp_impl_pairAt,sp_impl_IsAction,trivial⟩
def h_impl_IsMacro:List HT:=[.one .frz (.sl rI3)]
def q_impl_IsMacro:QT:=.one (.one .own (.bool))
@[irreducible] noncomputable def v_impl_IsMacro(x:List (Int×Int×Int)):Bool:=(shut fun x=>fnV df_impl_IsMacro h_impl_IsMacro q_impl_IsMacro x).1 x
@[irreducible] noncomputable def ok_impl_IsMacro(x:List (Int×Int×Int)):Prop:=(shut fun x=>fnOk df_impl_IsMacro h_impl_IsMacro q_impl_IsMacro x).1 x
theorem vu_impl_IsMacro (x):v_impl_IsMacro x=fnV df_impl_IsMacro h_impl_IsMacro q_impl_IsMacro x:=by unfold v_impl_IsMacro;exact congrFun (shut _).2 x
theorem ou_impl_IsMacro (x):ok_impl_IsMacro x=fnOk df_impl_IsMacro h_impl_IsMacro q_impl_IsMacro x:=by unfold ok_impl_IsMacro;exact congrFun (shut _).2 x
noncomputable def D_impl_IsMacro:DSem:=DSemOf h_impl_IsMacro q_impl_IsMacro ok_impl_IsMacro v_impl_IsMacro
theorem ck_impl_IsMacro(x:List (Int×Int×Int)):fnChk df_impl_IsMacro h_impl_IsMacro q_impl_IsMacro x=true:=by kernel_rfl
theorem ob_impl_IsMacro:AllD df_impl_IsMacro.body.obs:=⟨sd_impl_pairAt,sd_impl_IsAction,trivial⟩
theorem st_impl_IsMacro:fnSt df_impl_IsMacro h_impl_IsMacro q_impl_IsMacro=true:=by kernel_rfl
theorem sd_impl_IsMacro:SoundD p_impl_IsMacro D_impl_IsMacro:=by unfold p_impl_IsMacro;exact soundD_of (f:=df_impl_IsMacro) (hs:=h_impl_IsMacro) (q:=q_impl_IsMacro) ob_impl_IsMacro st_impl_IsMacro ck_impl_IsMacro (fun x h=>Eq.mp (ou_impl_IsMacro x) h) (fun x=>(vu_impl_IsMacro x).symm)
end
section
set_option maxRecDepth 100000
theorem ve_spec_l8Find (x):v_spec_l8Find x=(bSel (iLt (loopV (fun(x0:Int)=>(bAnd (iLt x0 (lLen x.1)) (bNot (bAnd (iEq (lGet x.1 (iNat x0) (0,0,0,0,0)).2.2.1 x.2.2.1) (iEq (lGet x.1 (iNat x0) (0,0,0,0,0)).2.2.2.1 x.2.2.2))))) (fun(x0:Int)=>(iAdd .i64 x0 1)) 0) (lLen x.1)) (loopV (fun(x0:Int)=>(bAnd (iLt x0 (lLen x.1)) (bNot (bAnd (iEq (lGet x.1 (iNat x0) (0,0,0,0,0)).2.2.1 x.2.2.1) (iEq (lGet x.1 (iNat x0) (0,0,0,0,0)).2.2.2.1 x.2.2.2))))) (fun(x0:Int)=>(iAdd .i64 x0 1)) 0) (-1)):=(vu_spec_l8Find x).trans (by kernel_rfl)
theorem oe_spec_l8Find (x):ok_spec_l8Find x=(LoopOk (fun(x0:Int)=>(bAnd (iLt x0 (lLen x.1)) (bNot (bAnd (iEq (lGet x.1 (iNat x0) (0,0,0,0,0)).2.2.1 x.2.2.1) (iEq (lGet x.1 (iNat x0) (0,0,0,0,0)).2.2.2.1 x.2.2.2))))) (fun(x0:Int)=>(iAdd .i64 x0 1)) (fun(x0:Int)=>(((iLt x0 (lLen x.1))=true→((((0:Int)≤x0)∧(x0<(((List.length x.1):Int))))∧(((iNat x0)<(List.length x.1))∧(((iEq (lGet x.1 (iNat x0) (0,0,0,0,0)).2.2.1 x.2.2.1)=true→((((0:Int)≤x0)∧(x0<(((List.length x.1):Int))))∧((iNat x0)<(List.length x.1))))∧((iEq (lGet x.1 (iNat x0) (0,0,0,0,0)).2.2.1 x.2.2.1)=false→True)))))∧((iLt x0 (lLen x.1))=false→True))) 0):=(ou_spec_l8Find x).trans (by kernel_rfl)
theorem ve_spec_l8Action (x):v_spec_l8Action x=(2,x.2.1,x.2.2,0):=(vu_spec_l8Action x).trans (by kernel_rfl)
theorem oe_spec_l8Action (x):ok_spec_l8Action x=True:=(ou_spec_l8Action x).trans (by kernel_rfl)
theorem ve_spec_l8Without (x):v_spec_l8Without x=(lApp (lApp [] (lSub x.1 0 (iNat x.2))) (lSub x.1 (iNat (iAdd .i64 x.2 1)) (lN x.1))):=(vu_spec_l8Without x).trans (by kernel_rfl)
theorem oe_spec_l8Without (x):ok_spec_l8Without x=((((0:Int)≤x.2)∧((0≤(iNat x.2))∧(((iNat x.2)≤(List.length x.1))∧(0<(List.length x.1)))))∧((((0:Int)≤(iAdd .i64 x.2 1))∧(((iNat (iAdd .i64 x.2 1))≤(lN x.1))∧(((lN x.1)≤(List.length x.1))∧(0<(List.length x.1)))))∧((roomy (((List.length ([]:List (Int×(Int×(Int×(Int×Int))))))+(List.length (lSub x.1 0 (iNat x.2))))*5))∧(roomy (((List.length (lApp [] (lSub x.1 0 (iNat x.2))))+(List.length (lSub x.1 (iNat (iAdd .i64 x.2 1)) (lN x.1))))*5))))):=(ou_spec_l8Without x).trans (by kernel_rfl)
theorem ve_spec_IsMacro (x):v_spec_IsMacro x=(bAnd (bNot (iLt (loopV (fun(x0:((List (Int×(Int×(Int×(Int×Int)))))×Int))=>(bAnd (iLt x0.2 (lLen x)) (bNot (bOr (bNot (v_spec_l1In ((lGet x (iNat x0.2) (0,0,0)).1,0,2))) (bOr (bNot (v_spec_IsAction ((v_spec_l8Action ((lGet x (iNat x0.2) (0,0,0)).1,(lGet x (iNat x0.2) (0,0,0)).2.1,(lGet x (iNat x0.2) (0,0,0)).2.2)).1,(v_spec_l8Action ((lGet x (iNat x0.2) (0,0,0)).1,(lGet x (iNat x0.2) (0,0,0)).2.1,(lGet x (iNat x0.2) (0,0,0)).2.2)).2.1,(v_spec_l8Action ((lGet x (iNat x0.2) (0,0,0)).1,(lGet x (iNat x0.2) (0,0,0)).2.1,(lGet x (iNat x0.2) (0,0,0)).2.2)).2.2.1,(v_spec_l8Action ((lGet x (iNat x0.2) (0,0,0)).1,(lGet x (iNat x0.2) (0,0,0)).2.1,(lGet x (iNat x0.2) (0,0,0)).2.2)).2.2.2))) (bNot (bIff (iEq (lGet x (iNat x0.2) (0,0,0)).1 2) (iGe (v_spec_l8Find (x0.1,(lGet x (iNat x0.2) (0,0,0)).1,(lGet x (iNat x0.2) (0,0,0)).2.1,(lGet x (iNat x0.2) (0,0,0)).2.2)) 0)))))))) (fun(x0:((List (Int×(Int×(Int×(Int×Int)))))×Int))=>((bSel (iEq (lGet x (iNat x0.2) (0,0,0)).1 1) (lApp x0.1 [(0,(v_spec_l8Action ((lGet x (iNat x0.2) (0,0,0)).1,(lGet x (iNat x0.2) (0,0,0)).2.1,(lGet x (iNat x0.2) (0,0,0)).2.2)).1,(v_spec_l8Action ((lGet x (iNat x0.2) (0,0,0)).1,(lGet x (iNat x0.2) (0,0,0)).2.1,(lGet x (iNat x0.2) (0,0,0)).2.2)).2.1,(v_spec_l8Action ((lGet x (iNat x0.2) (0,0,0)).1,(lGet x (iNat x0.2) (0,0,0)).2.1,(lGet x (iNat x0.2) (0,0,0)).2.2)).2.2.1,(v_spec_l8Action ((lGet x (iNat x0.2) (0,0,0)).1,(lGet x (iNat x0.2) (0,0,0)).2.1,(lGet x (iNat x0.2) (0,0,0)).2.2)).2.2.2)]) (bSel (iEq (lGet x (iNat x0.2) (0,0,0)).1 2) (v_spec_l8Without (x0.1,(v_spec_l8Find (x0.1,(lGet x (iNat x0.2) (0,0,0)).1,(lGet x (iNat x0.2) (0,0,0)).2.1,(lGet x (iNat x0.2) (0,0,0)).2.2)))) x0.1)),(iAdd .i64 x0.2 1))) ([],0)).2 (lLen x))) (bAnd (iLe (lLen x) 8) (iEq (lLen (loopV (fun(x0:((List (Int×(Int×(Int×(Int×Int)))))×Int))=>(bAnd (iLt x0.2 (lLen x)) (bNot (bOr (bNot (v_spec_l1In ((lGet x (iNat x0.2) (0,0,0)).1,0,2))) (bOr (bNot (v_spec_IsAction ((v_spec_l8Action ((lGet x (iNat x0.2) (0,0,0)).1,(lGet x (iNat x0.2) (0,0,0)).2.1,(lGet x (iNat x0.2) (0,0,0)).2.2)).1,(v_spec_l8Action ((lGet x (iNat x0.2) (0,0,0)).1,(lGet x (iNat x0.2) (0,0,0)).2.1,(lGet x (iNat x0.2) (0,0,0)).2.2)).2.1,(v_spec_l8Action ((lGet x (iNat x0.2) (0,0,0)).1,(lGet x (iNat x0.2) (0,0,0)).2.1,(lGet x (iNat x0.2) (0,0,0)).2.2)).2.2.1,(v_spec_l8Action ((lGet x (iNat x0.2) (0,0,0)).1,(lGet x (iNat x0.2) (0,0,0)).2.1,(lGet x (iNat x0.2) (0,0,0)).2.2)).2.2.2))) (bNot (bIff (iEq (lGet x (iNat x0.2) (0,0,0)).1 2) (iGe (v_spec_l8Find (x0.1,(lGet x (iNat x0.2) (0,0,0)).1,(lGet x (iNat x0.2) (0,0,0)).2.1,(lGet x (iNat x0.2) (0,0,0)).2.2)) 0)))))))) (fun(x0:((List (Int×(Int×(Int×(Int×Int)))))×Int))=>((bSel (iEq (lGet x (iNat x0.2) (0,0,0)).1 1) (lApp x0.1 [(0,(v_spec_l8Action ((lGet x (iNat x0.2) (0,0,0)).1,(lGet x (iNat x0.2) (0,0,0)).2.1,(lGet x (iNat x0.2) (0,0,0)).2.2)).1,(v_spec_l8Action ((lGet x (iNat x0.2) (0,0,0)).1,(lGet x (iNat x0.2) (0,0,0)).2.1,(lGet x (iNat x0.2) (0,0,0)).2.2)).2.1,(v_spec_l8Action ((lGet x (iNat x0.2) (0,0,0)).1,(lGet x (iNat x0.2) (0,0,0)).2.1,(lGet x (iNat x0.2) (0,0,0)).2.2)).2.2.1,(v_spec_l8Action ((lGet x (iNat x0.2) (0,0,0)).1,(lGet x (iNat x0.2) (0,0,0)).2.1,(lGet x (iNat x0.2) (0,0,0)).2.2)).2.2.2)]) (bSel (iEq (lGet x (iNat x0.2) (0,0,0)).1 2) (v_spec_l8Without (x0.1,(v_spec_l8Find (x0.1,(lGet x (iNat x0.2) (0,0,0)).1,(lGet x (iNat x0.2) (0,0,0)).2.1,(lGet x (iNat x0.2) (0,0,0)).2.2)))) x0.1)),(iAdd .i64 x0.2 1))) ([],0)).1) 0))):=(vu_spec_IsMacro x).trans (by kernel_rfl)
theorem oe_spec_IsMacro (x):ok_spec_IsMacro x=(LoopOk (fun(x0:((List (Int×(Int×(Int×(Int×Int)))))×Int))=>(bAnd (iLt x0.2 (lLen x)) (bNot (bOr (bNot (v_spec_l1In ((lGet x (iNat x0.2) (0,0,0)).1,0,2))) (bOr (bNot (v_spec_IsAction ((v_spec_l8Action ((lGet x (iNat x0.2) (0,0,0)).1,(lGet x (iNat x0.2) (0,0,0)).2.1,(lGet x (iNat x0.2) (0,0,0)).2.2)).1,(v_spec_l8Action ((lGet x (iNat x0.2) (0,0,0)).1,(lGet x (iNat x0.2) (0,0,0)).2.1,(lGet x (iNat x0.2) (0,0,0)).2.2)).2.1,(v_spec_l8Action ((lGet x (iNat x0.2) (0,0,0)).1,(lGet x (iNat x0.2) (0,0,0)).2.1,(lGet x (iNat x0.2) (0,0,0)).2.2)).2.2.1,(v_spec_l8Action ((lGet x (iNat x0.2) (0,0,0)).1,(lGet x (iNat x0.2) (0,0,0)).2.1,(lGet x (iNat x0.2) (0,0,0)).2.2)).2.2.2))) (bNot (bIff (iEq (lGet x (iNat x0.2) (0,0,0)).1 2) (iGe (v_spec_l8Find (x0.1,(lGet x (iNat x0.2) (0,0,0)).1,(lGet x (iNat x0.2) (0,0,0)).2.1,(lGet x (iNat x0.2) (0,0,0)).2.2)) 0)))))))) (fun(x0:((List (Int×(Int×(Int×(Int×Int)))))×Int))=>((bSel (iEq (lGet x (iNat x0.2) (0,0,0)).1 1) (lApp x0.1 [(0,(v_spec_l8Action ((lGet x (iNat x0.2) (0,0,0)).1,(lGet x (iNat x0.2) (0,0,0)).2.1,(lGet x (iNat x0.2) (0,0,0)).2.2)).1,(v_spec_l8Action ((lGet x (iNat x0.2) (0,0,0)).1,(lGet x (iNat x0.2) (0,0,0)).2.1,(lGet x (iNat x0.2) (0,0,0)).2.2)).2.1,(v_spec_l8Action ((lGet x (iNat x0.2) (0,0,0)).1,(lGet x (iNat x0.2) (0,0,0)).2.1,(lGet x (iNat x0.2) (0,0,0)).2.2)).2.2.1,(v_spec_l8Action ((lGet x (iNat x0.2) (0,0,0)).1,(lGet x (iNat x0.2) (0,0,0)).2.1,(lGet x (iNat x0.2) (0,0,0)).2.2)).2.2.2)]) (bSel (iEq (lGet x (iNat x0.2) (0,0,0)).1 2) (v_spec_l8Without (x0.1,(v_spec_l8Find (x0.1,(lGet x (iNat x0.2) (0,0,0)).1,(lGet x (iNat x0.2) (0,0,0)).2.1,(lGet x (iNat x0.2) (0,0,0)).2.2)))) x0.1)),(iAdd .i64 x0.2 1))) (fun(x0:((List (Int×(Int×(Int×(Int×Int)))))×Int))=>(((iLt x0.2 (lLen x))=true→((((0:Int)≤x0.2)∧(x0.2<(((List.length x):Int))))∧(((iNat x0.2)<(List.length x))∧((ok_spec_l8Find (x0.1,(lGet x (iNat x0.2) (0,0,0)).1,(lGet x (iNat x0.2) (0,0,0)).2.1,(lGet x (iNat x0.2) (0,0,0)).2.2))∧(((ok_spec_l1In ((lGet x (iNat x0.2) (0,0,0)).1,0,2))∧(((bNot (v_spec_l1In ((lGet x (iNat x0.2) (0,0,0)).1,0,2)))=true→True)∧((bNot (v_spec_l1In ((lGet x (iNat x0.2) (0,0,0)).1,0,2)))=false→((ok_spec_l8Action ((lGet x (iNat x0.2) (0,0,0)).1,(lGet x (iNat x0.2) (0,0,0)).2.1,(lGet x (iNat x0.2) (0,0,0)).2.2))∧(ok_spec_IsAction ((v_spec_l8Action ((lGet x (iNat x0.2) (0,0,0)).1,(lGet x (iNat x0.2) (0,0,0)).2.1,(lGet x (iNat x0.2) (0,0,0)).2.2)).1,(v_spec_l8Action ((lGet x (iNat x0.2) (0,0,0)).1,(lGet x (iNat x0.2) (0,0,0)).2.1,(lGet x (iNat x0.2) (0,0,0)).2.2)).2.1,(v_spec_l8Action ((lGet x (iNat x0.2) (0,0,0)).1,(lGet x (iNat x0.2) (0,0,0)).2.1,(lGet x (iNat x0.2) (0,0,0)).2.2)).2.2.1,(v_spec_l8Action ((lGet x (iNat x0.2) (0,0,0)).1,(lGet x (iNat x0.2) (0,0,0)).2.1,(lGet x (iNat x0.2) (0,0,0)).2.2)).2.2.2))))))∧(((bOr (bNot (v_spec_l1In ((lGet x (iNat x0.2) (0,0,0)).1,0,2))) (bOr (bNot (v_spec_IsAction ((v_spec_l8Action ((lGet x (iNat x0.2) (0,0,0)).1,(lGet x (iNat x0.2) (0,0,0)).2.1,(lGet x (iNat x0.2) (0,0,0)).2.2)).1,(v_spec_l8Action ((lGet x (iNat x0.2) (0,0,0)).1,(lGet x (iNat x0.2) (0,0,0)).2.1,(lGet x (iNat x0.2) (0,0,0)).2.2)).2.1,(v_spec_l8Action ((lGet x (iNat x0.2) (0,0,0)).1,(lGet x (iNat x0.2) (0,0,0)).2.1,(lGet x (iNat x0.2) (0,0,0)).2.2)).2.2.1,(v_spec_l8Action ((lGet x (iNat x0.2) (0,0,0)).1,(lGet x (iNat x0.2) (0,0,0)).2.1,(lGet x (iNat x0.2) (0,0,0)).2.2)).2.2.2))) (bNot (bIff (iEq (lGet x (iNat x0.2) (0,0,0)).1 2) (iGe (v_spec_l8Find (x0.1,(lGet x (iNat x0.2) (0,0,0)).1,(lGet x (iNat x0.2) (0,0,0)).2.1,(lGet x (iNat x0.2) (0,0,0)).2.2)) 0)))))=true→True)∧((bOr (bNot (v_spec_l1In ((lGet x (iNat x0.2) (0,0,0)).1,0,2))) (bOr (bNot (v_spec_IsAction ((v_spec_l8Action ((lGet x (iNat x0.2) (0,0,0)).1,(lGet x (iNat x0.2) (0,0,0)).2.1,(lGet x (iNat x0.2) (0,0,0)).2.2)).1,(v_spec_l8Action ((lGet x (iNat x0.2) (0,0,0)).1,(lGet x (iNat x0.2) (0,0,0)).2.1,(lGet x (iNat x0.2) (0,0,0)).2.2)).2.1,(v_spec_l8Action ((lGet x (iNat x0.2) (0,0,0)).1,(lGet x (iNat x0.2) (0,0,0)).2.1,(lGet x (iNat x0.2) (0,0,0)).2.2)).2.2.1,(v_spec_l8Action ((lGet x (iNat x0.2) (0,0,0)).1,(lGet x (iNat x0.2) (0,0,0)).2.1,(lGet x (iNat x0.2) (0,0,0)).2.2)).2.2.2))) (bNot (bIff (iEq (lGet x (iNat x0.2) (0,0,0)).1 2) (iGe (v_spec_l8Find (x0.1,(lGet x (iNat x0.2) (0,0,0)).1,(lGet x (iNat x0.2) (0,0,0)).2.1,(lGet x (iNat x0.2) (0,0,0)).2.2)) 0)))))=false→(((iEq (lGet x (iNat x0.2) (0,0,0)).1 1)=true→((ok_spec_l8Action ((lGet x (iNat x0.2) (0,0,0)).1,(lGet x (iNat x0.2) (0,0,0)).2.1,(lGet x (iNat x0.2) (0,0,0)).2.2))∧(roomy (((List.length x0.1)+(List.length [(0,(v_spec_l8Action ((lGet x (iNat x0.2) (0,0,0)).1,(lGet x (iNat x0.2) (0,0,0)).2.1,(lGet x (iNat x0.2) (0,0,0)).2.2)).1,(v_spec_l8Action ((lGet x (iNat x0.2) (0,0,0)).1,(lGet x (iNat x0.2) (0,0,0)).2.1,(lGet x (iNat x0.2) (0,0,0)).2.2)).2.1,(v_spec_l8Action ((lGet x (iNat x0.2) (0,0,0)).1,(lGet x (iNat x0.2) (0,0,0)).2.1,(lGet x (iNat x0.2) (0,0,0)).2.2)).2.2.1,(v_spec_l8Action ((lGet x (iNat x0.2) (0,0,0)).1,(lGet x (iNat x0.2) (0,0,0)).2.1,(lGet x (iNat x0.2) (0,0,0)).2.2)).2.2.2)]))*5))))∧((iEq (lGet x (iNat x0.2) (0,0,0)).1 1)=false→(((iEq (lGet x (iNat x0.2) (0,0,0)).1 2)=true→(ok_spec_l8Without (x0.1,(v_spec_l8Find (x0.1,(lGet x (iNat x0.2) (0,0,0)).1,(lGet x (iNat x0.2) (0,0,0)).2.1,(lGet x (iNat x0.2) (0,0,0)).2.2)))))∧((iEq (lGet x (iNat x0.2) (0,0,0)).1 2)=false→True)))))))))))∧((iLt x0.2 (lLen x))=false→True))) ([],0)):=(ou_spec_IsMacro x).trans (by kernel_rfl)
theorem ve_impl_pairAt (x):v_impl_pairAt x=(bSel (iLt (loopV (fun(x0:Int)=>(bAnd (iLt x0 (lLen x.1)) (bNot (bAnd (iEq (lGet x.1 (iNat x0) (0,0)).1 x.2.1) (iEq (lGet x.1 (iNat x0) (0,0)).2 x.2.2))))) (fun(x0:Int)=>(iAdd .i64 x0 1)) 0) (lLen x.1)) (loopV (fun(x0:Int)=>(bAnd (iLt x0 (lLen x.1)) (bNot (bAnd (iEq (lGet x.1 (iNat x0) (0,0)).1 x.2.1) (iEq (lGet x.1 (iNat x0) (0,0)).2 x.2.2))))) (fun(x0:Int)=>(iAdd .i64 x0 1)) 0) (-1)):=(vu_impl_pairAt x).trans (by kernel_rfl)
theorem oe_impl_pairAt (x):ok_impl_pairAt x=(LoopOk (fun(x0:Int)=>(bAnd (iLt x0 (lLen x.1)) (bNot (bAnd (iEq (lGet x.1 (iNat x0) (0,0)).1 x.2.1) (iEq (lGet x.1 (iNat x0) (0,0)).2 x.2.2))))) (fun(x0:Int)=>(iAdd .i64 x0 1)) (fun(x0:Int)=>(((iLt x0 (lLen x.1))=true→((((0:Int)≤x0)∧(x0<(((List.length x.1):Int))))∧((iNat x0)<(List.length x.1))))∧((iLt x0 (lLen x.1))=false→True))) 0):=(ou_impl_pairAt x).trans (by kernel_rfl)
theorem ve_impl_IsMacro (x):v_impl_IsMacro x=(bAnd (bNot (iGt (lLen x) 8)) (bAnd (bNot (iLt (loopV (fun(x0:((List (Int×Int))×Int))=>(bAnd (iLt x0.2 (lLen x)) (bAnd (bNot (bNot (v_impl_IsAction (2,(lGet x (iNat x0.2) (0,0,0)).2.1,(lGet x (iNat x0.2) (0,0,0)).2.2,0)))) (bSel (bOr (iEq (lGet x (iNat x0.2) (0,0,0)).1 0) (iEq (lGet x (iNat x0.2) (0,0,0)).1 1)) (bNot (iGe (v_impl_pairAt (x0.1,(lGet x (iNat x0.2) (0,0,0)).2.1,(lGet x (iNat x0.2) (0,0,0)).2.2)) 0)) (bAnd (iEq (lGet x (iNat x0.2) (0,0,0)).1 2) (bNot (iLt (v_impl_pairAt (x0.1,(lGet x (iNat x0.2) (0,0,0)).2.1,(lGet x (iNat x0.2) (0,0,0)).2.2)) 0))))))) (fun(x0:((List (Int×Int))×Int))=>((bSel (bOr (iEq (lGet x (iNat x0.2) (0,0,0)).1 0) (iEq (lGet x (iNat x0.2) (0,0,0)).1 1)) (bSel (iEq (lGet x (iNat x0.2) (0,0,0)).1 1) (lApp x0.1 [((lGet x (iNat x0.2) (0,0,0)).2.1,(lGet x (iNat x0.2) (0,0,0)).2.2)]) x0.1) (lApp (lTake x0.1 (lN (lSub x0.1 0 (iNat (v_impl_pairAt (x0.1,(lGet x (iNat x0.2) (0,0,0)).2.1,(lGet x (iNat x0.2) (0,0,0)).2.2)))))) (lSub x0.1 (iNat (iAdd .i64 (v_impl_pairAt (x0.1,(lGet x (iNat x0.2) (0,0,0)).2.1,(lGet x (iNat x0.2) (0,0,0)).2.2)) 1)) (lN x0.1)))),(iAdd .i64 x0.2 1))) ([],0)).2 (lLen x))) (iEq (lLen (loopV (fun(x0:((List (Int×Int))×Int))=>(bAnd (iLt x0.2 (lLen x)) (bAnd (bNot (bNot (v_impl_IsAction (2,(lGet x (iNat x0.2) (0,0,0)).2.1,(lGet x (iNat x0.2) (0,0,0)).2.2,0)))) (bSel (bOr (iEq (lGet x (iNat x0.2) (0,0,0)).1 0) (iEq (lGet x (iNat x0.2) (0,0,0)).1 1)) (bNot (iGe (v_impl_pairAt (x0.1,(lGet x (iNat x0.2) (0,0,0)).2.1,(lGet x (iNat x0.2) (0,0,0)).2.2)) 0)) (bAnd (iEq (lGet x (iNat x0.2) (0,0,0)).1 2) (bNot (iLt (v_impl_pairAt (x0.1,(lGet x (iNat x0.2) (0,0,0)).2.1,(lGet x (iNat x0.2) (0,0,0)).2.2)) 0))))))) (fun(x0:((List (Int×Int))×Int))=>((bSel (bOr (iEq (lGet x (iNat x0.2) (0,0,0)).1 0) (iEq (lGet x (iNat x0.2) (0,0,0)).1 1)) (bSel (iEq (lGet x (iNat x0.2) (0,0,0)).1 1) (lApp x0.1 [((lGet x (iNat x0.2) (0,0,0)).2.1,(lGet x (iNat x0.2) (0,0,0)).2.2)]) x0.1) (lApp (lTake x0.1 (lN (lSub x0.1 0 (iNat (v_impl_pairAt (x0.1,(lGet x (iNat x0.2) (0,0,0)).2.1,(lGet x (iNat x0.2) (0,0,0)).2.2)))))) (lSub x0.1 (iNat (iAdd .i64 (v_impl_pairAt (x0.1,(lGet x (iNat x0.2) (0,0,0)).2.1,(lGet x (iNat x0.2) (0,0,0)).2.2)) 1)) (lN x0.1)))),(iAdd .i64 x0.2 1))) ([],0)).1) 0))):=(vu_impl_IsMacro x).trans (by kernel_rfl)
theorem oe_impl_IsMacro (x):ok_impl_IsMacro x=(((iGt (lLen x) 8)=true→True)∧((iGt (lLen x) 8)=false→(LoopOk (fun(x0:((List (Int×Int))×Int))=>(bAnd (iLt x0.2 (lLen x)) (bAnd (bNot (bNot (v_impl_IsAction (2,(lGet x (iNat x0.2) (0,0,0)).2.1,(lGet x (iNat x0.2) (0,0,0)).2.2,0)))) (bSel (bOr (iEq (lGet x (iNat x0.2) (0,0,0)).1 0) (iEq (lGet x (iNat x0.2) (0,0,0)).1 1)) (bNot (iGe (v_impl_pairAt (x0.1,(lGet x (iNat x0.2) (0,0,0)).2.1,(lGet x (iNat x0.2) (0,0,0)).2.2)) 0)) (bAnd (iEq (lGet x (iNat x0.2) (0,0,0)).1 2) (bNot (iLt (v_impl_pairAt (x0.1,(lGet x (iNat x0.2) (0,0,0)).2.1,(lGet x (iNat x0.2) (0,0,0)).2.2)) 0))))))) (fun(x0:((List (Int×Int))×Int))=>((bSel (bOr (iEq (lGet x (iNat x0.2) (0,0,0)).1 0) (iEq (lGet x (iNat x0.2) (0,0,0)).1 1)) (bSel (iEq (lGet x (iNat x0.2) (0,0,0)).1 1) (lApp x0.1 [((lGet x (iNat x0.2) (0,0,0)).2.1,(lGet x (iNat x0.2) (0,0,0)).2.2)]) x0.1) (lApp (lTake x0.1 (lN (lSub x0.1 0 (iNat (v_impl_pairAt (x0.1,(lGet x (iNat x0.2) (0,0,0)).2.1,(lGet x (iNat x0.2) (0,0,0)).2.2)))))) (lSub x0.1 (iNat (iAdd .i64 (v_impl_pairAt (x0.1,(lGet x (iNat x0.2) (0,0,0)).2.1,(lGet x (iNat x0.2) (0,0,0)).2.2)) 1)) (lN x0.1)))),(iAdd .i64 x0.2 1))) (fun(x0:((List (Int×Int))×Int))=>(((iLt x0.2 (lLen x))=true→((((0:Int)≤x0.2)∧(x0.2<(((List.length x):Int))))∧(((iNat x0.2)<(List.length x))∧((ok_impl_pairAt (x0.1,(lGet x (iNat x0.2) (0,0,0)).2.1,(lGet x (iNat x0.2) (0,0,0)).2.2))∧((ok_impl_IsAction (2,(lGet x (iNat x0.2) (0,0,0)).2.1,(lGet x (iNat x0.2) (0,0,0)).2.2,0))∧(((bNot (v_impl_IsAction (2,(lGet x (iNat x0.2) (0,0,0)).2.1,(lGet x (iNat x0.2) (0,0,0)).2.2,0)))=true→True)∧((bNot (v_impl_IsAction (2,(lGet x (iNat x0.2) (0,0,0)).2.1,(lGet x (iNat x0.2) (0,0,0)).2.2,0)))=false→(((bOr (iEq (lGet x (iNat x0.2) (0,0,0)).1 0) (iEq (lGet x (iNat x0.2) (0,0,0)).1 1))=true→(((iGe (v_impl_pairAt (x0.1,(lGet x (iNat x0.2) (0,0,0)).2.1,(lGet x (iNat x0.2) (0,0,0)).2.2)) 0)=true→True)∧((iGe (v_impl_pairAt (x0.1,(lGet x (iNat x0.2) (0,0,0)).2.1,(lGet x (iNat x0.2) (0,0,0)).2.2)) 0)=false→(((iEq (lGet x (iNat x0.2) (0,0,0)).1 1)=true→(roomy (((List.length x0.1)+(List.length [((lGet x (iNat x0.2) (0,0,0)).2.1,(lGet x (iNat x0.2) (0,0,0)).2.2)]))*2)))∧((iEq (lGet x (iNat x0.2) (0,0,0)).1 1)=false→True)))))∧((bOr (iEq (lGet x (iNat x0.2) (0,0,0)).1 0) (iEq (lGet x (iNat x0.2) (0,0,0)).1 1))=false→(((iEq (lGet x (iNat x0.2) (0,0,0)).1 2)=true→(((iLt (v_impl_pairAt (x0.1,(lGet x (iNat x0.2) (0,0,0)).2.1,(lGet x (iNat x0.2) (0,0,0)).2.2)) 0)=true→True)∧((iLt (v_impl_pairAt (x0.1,(lGet x (iNat x0.2) (0,0,0)).2.1,(lGet x (iNat x0.2) (0,0,0)).2.2)) 0)=false→((((0:Int)≤(v_impl_pairAt (x0.1,(lGet x (iNat x0.2) (0,0,0)).2.1,(lGet x (iNat x0.2) (0,0,0)).2.2)))∧((0≤(iNat (v_impl_pairAt (x0.1,(lGet x (iNat x0.2) (0,0,0)).2.1,(lGet x (iNat x0.2) (0,0,0)).2.2))))∧(((iNat (v_impl_pairAt (x0.1,(lGet x (iNat x0.2) (0,0,0)).2.1,(lGet x (iNat x0.2) (0,0,0)).2.2)))≤(List.length x0.1))∧(0<(List.length x0.1)))))∧((((0:Int)≤(iAdd .i64 (v_impl_pairAt (x0.1,(lGet x (iNat x0.2) (0,0,0)).2.1,(lGet x (iNat x0.2) (0,0,0)).2.2)) 1))∧(((iNat (iAdd .i64 (v_impl_pairAt (x0.1,(lGet x (iNat x0.2) (0,0,0)).2.1,(lGet x (iNat x0.2) (0,0,0)).2.2)) 1))≤(lN x0.1))∧(((lN x0.1)≤(List.length x0.1))∧(0<(List.length x0.1)))))∧((0<(List.length x0.1))∧(((List.length (lSub x0.1 0 (iNat (v_impl_pairAt (x0.1,(lGet x (iNat x0.2) (0,0,0)).2.1,(lGet x (iNat x0.2) (0,0,0)).2.2)))))≤(List.length x0.1))∧(roomy (((List.length (lSub x0.1 0 (iNat (v_impl_pairAt (x0.1,(lGet x (iNat x0.2) (0,0,0)).2.1,(lGet x (iNat x0.2) (0,0,0)).2.2)))))+(List.length (lSub x0.1 (iNat (iAdd .i64 (v_impl_pairAt (x0.1,(lGet x (iNat x0.2) (0,0,0)).2.1,(lGet x (iNat x0.2) (0,0,0)).2.2)) 1)) (lN x0.1))))*2)))))))))∧((iEq (lGet x (iNat x0.2) (0,0,0)).1 2)=false→True)))))))))))∧((iLt x0.2 (lLen x))=false→True))) ([],0)))):=(ou_impl_IsMacro x).trans (by kernel_rfl)
end
def pi5(h:Int×Int×Int×Int×Int):Int×Int:=(h.2.2.1,h.2.2.2.1)
theorem getD_map5(dn:List (Int×Int×Int×Int×Int))(i:Nat):(dn.map pi5).getD i (0,0)=pi5 (dn.getD i (0,0,0,0,0)):=by
 rw[List.getD_eq_getElem?_getD,List.getD_eq_getElem?_getD,List.getElem?_map];cases dn[i]?<;>rfl
theorem cnt_nn{c:Int→Bool}{f:Int→Int}(n:Int)(h0:0≤n)(hn:n≤9223372036854775806)(hc:∀ st:Int,c st=true→st<n)(hf:∀ st,f st=iAdd .i64 st 1):0≤loopV c f 0:=
 (loop_inv_v (fun st=>0≤st∧st≤n) (fun st=>(n-st).toNat) (fun st hI h=>by
  have:=hc st h
  rw[hf,iAdd_i64 (by constructor<;>omega)]
  exact⟨by omega,by omega⟩) ⟨by omega,h0⟩).1.1
theorem find_eq(dn:List (Int×Int×Int×Int×Int))(k c m:Int):v_spec_l8Find (dn,k,c,m)=v_impl_pairAt (dn.map pi5,c,m):=by
 rw[ve_spec_l8Find,ve_impl_pairAt]
 simp only[lGet_eq,getD_map5,lLen_eq,List.length_map,pi5]
theorem pair_rng(dm:List (Int×Int))(q:Int×Int)(h:dm.length≤1048576):v_impl_pairAt (dm,q)=-1∨(0≤v_impl_pairAt (dm,q)∧v_impl_pairAt (dm,q)<dm.length):=by
 rw[ve_impl_pairAt,bSel_eq,iLt_eq,lLen_eq]
 split
 · rename_i hlt
   rw[decide_eq_true_eq] at hlt
   refine .inr ⟨cnt_nn dm.length (by omega) (by omega) (fun st hc=>?_) (fun _=>rfl),hlt⟩
   rw[bAnd_eq,iLt_eq,Bool.and_eq_true,decide_eq_true_eq] at hc
   exact hc.1
 · exact .inl rfl
theorem ok_find(dn:List (Int×Int×Int×Int×Int))(q:Int×Int×Int)(h:dn.length≤1048576):ok_spec_l8Find (dn,q):=by
 rw[oe_spec_l8Find]
 refine cnt_ok (fun st=>st) dn.length (by omega) (fun st _ _ h=>?_) (fun _=>rfl) (fun st h0 h1=>⟨fun hlt=>?_,fun _=>trivial⟩) (by simp) (by simp)
 · rw[bAnd_eq,iLt_eq,lLen_eq,Bool.and_eq_true,decide_eq_true_eq] at h;exact h.1
 · rw[iLt_eq,lLen_eq,decide_eq_true_eq] at hlt
   have a:(0:Int)≤st∧st<(dn.length:Int):=⟨h0,hlt⟩
   have b:iNat st<dn.length:=by rw[iNat_eq];omega
   exact⟨a,b,fun _=>⟨a,b⟩,fun _=>trivial⟩
theorem ok_pair(dm:List (Int×Int))(q:Int×Int)(h:dm.length≤1048576):ok_impl_pairAt (dm,q):=by
 rw[oe_impl_pairAt]
 refine cnt_ok (fun st=>st) dm.length (by omega) (fun st _ _ h=>?_) (fun _=>rfl) (fun st h0 h1=>⟨fun hlt=>?_,fun _=>trivial⟩) (by simp) (by simp)
 · rw[bAnd_eq,iLt_eq,lLen_eq,Bool.and_eq_true,decide_eq_true_eq] at h;exact h.1
 · rw[iLt_eq,lLen_eq,decide_eq_true_eq] at hlt
   exact⟨⟨h0,hlt⟩,by rw[iNat_eq];omega⟩
theorem without_map(dn:List (Int×Int×Int×Int×Int))(p:Int)(h0:0≤p)(h1:p<dn.length) :
 (v_spec_l8Without (dn,p)).map pi5=lApp (lTake (dn.map pi5) (lN (lSub (dn.map pi5) 0 (iNat p)))) (lSub (dn.map pi5) (iNat (iAdd .i64 p 1)) (lN (dn.map pi5))):=by
 have hm:min p.toNat dn.length=p.toNat:=by omega
 rw[ve_spec_l8Without]
 simp only[lApp_eq,lTake_eq,lN_eq,lSub_eq,iNat_eq,List.drop_zero,Nat.sub_zero,List.length_take,List.map_append,List.map_take,List.map_drop,List.length_map,List.nil_append,hm]
theorem without_len(dn:List (Int×Int×Int×Int×Int))(p:Int)(h0:0≤p)(h1:p<dn.length)(h:dn.length≤1048576):(v_spec_l8Without (dn,p)).length≤dn.length:=by
 rw[ve_spec_l8Without]
 simp only[lApp_eq,lN_eq,lSub_eq,iNat_eq,List.drop_zero,Nat.sub_zero,List.length_take,List.length_drop,List.length_append,List.nil_append]
 rw[iAdd_i64 (by constructor<;>omega)]
 omega
theorem mac_cond(K p:Int)(A:Bool):bNot (bOr (bNot (v_spec_l1In (K,0,2))) (bOr (bNot A) (bNot (bIff (iEq K 2) (iGe p 0)))))=
 bAnd (bNot (bNot A)) (bSel (bOr (iEq K 0) (iEq K 1)) (bNot (iGe p 0)) (bAnd (iEq K 2) (bNot (iLt p 0)))):=by
 have hp:decide (p<0)=!decide (0≤p):=by simp only[← decide_not,Int.not_le]
 rw[ve_spec_l1In]
 simp only[bAnd_eq,bNot_eq,bOr_eq,bIff_eq,bSel_eq,iEq_eq,iGe_eq,iLe_eq,iLt_eq,hp]
 generalize decide (0≤p)=P
 have h:K=0∨K=1∨K=2∨(¬ (0≤K∧K≤2)):=by omega
 rcases h with h|h|h|h
 · subst h;cases A<;>cases P<;>decide
 · subst h;cases A<;>cases P<;>decide
 · subst h;cases A<;>cases P<;>decide
 · have e0:K≠0:=by omega
   have e1:K≠1:=by omega
   have e2:K≠2:=by omega
   have e3:(decide (0≤K)&&decide (K≤2))=false:=by rw[← Bool.decide_and];exact decide_eq_false h
   simp only[e3,e0,e1,e2,decide_false]
   cases A<;>rfl
theorem mac_join {l:List (Int×Int×Int)} {cs:List (Int×Int×Int×Int×Int)×Int→Bool} {fs} {ci:List (Int×Int)×Int→Bool} {fi}
 (h:∀ (dn:List (Int×Int×Int×Int×Int)) (i:Int),0≤i→i≤l.length→dn.length≤i→cs (dn,i)=ci (dn.map pi5,i)∧(cs (dn,i)=true→i<l.length∧∃ dn':List (Int×Int×Int×Int×Int),fs (dn,i)=(dn',i+1)∧fi (dn.map pi5,i)=(dn'.map pi5,i+1)∧dn'.length≤i+1)) :
 bAnd (bNot (iLt (loopV cs fs ([],0)).2 (lLen l))) (bAnd (iLe (lLen l) 8) (iEq (lLen (loopV cs fs ([],0)).1) 0))=
 bAnd (bNot (iGt (lLen l) 8)) (bAnd (bNot (iLt (loopV ci fi ([],0)).2 (lLen l))) (iEq (lLen (loopV ci fi ([],0)).1) 0)):=by
 have go:∀ (n:Nat) (dn:List (Int×Int×Int×Int×Int)) (i:Int),0≤i→i≤l.length→dn.length≤i→(l.length-i).toNat<n →
  ∃ (en:List (Int×Int×Int×Int×Int)) (j:Int),LoopTo cs fs (fun _=>True) (dn,i) (en,j)∧LoopTo ci fi (fun _=>True) (dn.map pi5,i) (en.map pi5,j):=by
  intro n
  induction n with
  |zero=>intro _ _ _ _ _ hm;exact absurd hm (Nat.not_lt_zero _)
  | succ n ih=>
    intro dn i h0 h1 h2 hm
    obtain⟨a,b⟩:=h dn i h0 h1 h2
    cases hc:cs (dn,i) with
    |false=>exact⟨dn,i,.stop trivial hc,.stop trivial (by rw[← a,hc])⟩
    | true=>
      obtain⟨c1,dn',c2,c3,c4⟩:=b hc
      obtain⟨en,j,d1,d2⟩:=ih dn' (i+1) (by omega) (by omega) c4 (by omega)
      exact⟨en,j,.go trivial hc (by rw[c2];exact d1),.go trivial (by rw[← a,hc]) (by rw[c3];exact d2)⟩
 obtain⟨en,j,d1,d2⟩:=go _ [] 0 (by omega) (by omega) (by simp) (Nat.lt_succ_self _)
 have d2:LoopTo ci fi (fun _=>True) ([],0) (en.map pi5,j):=d2
 rw[d1.val,d2.val]
 simp only[bAnd_eq,bNot_eq,iLe_eq,iGt_eq,lLen_eq,List.length_map,← decide_not,Int.not_lt]
 exact Bool.and_left_comm ..
theorem macroStep (dn:List (Int×Int×Int×Int×Int)) (K c m p i:Int) (t:Bool) (n:Int) (hp:p=-1∨(0≤p∧p<dn.length)) (hd:dn.length≤i) (hi:i<n) (hn:n≤1048576)
 (hc:bSel (bOr (iEq K 0) (iEq K 1)) (bNot (iGe p 0)) (bAnd (iEq K 2) (bNot (iLt p 0)))=true) :
 bSel (bOr (iEq K 0) (iEq K 1)) (bSel (iEq K 1) (lApp (dn.map pi5) [(c,m)]) (dn.map pi5)) (lApp (lTake (dn.map pi5) (lN (lSub (dn.map pi5) 0 (iNat p)))) (lSub (dn.map pi5) (iNat (iAdd .i64 p 1)) (lN (dn.map pi5))))=
  (bSel (iEq K 1) (lApp dn [(0,2,c,m,0)]) (bSel (iEq K 2) (v_spec_l8Without (dn,p)) dn)).map pi5 ∧
 ((bSel (iEq K 1) (lApp dn [(0,2,c,m,0)]) (bSel (iEq K 2) (v_spec_l8Without (dn,p)) dn)).length:Int)≤i+1:=by
 simp only[bSel_eq,bOr_eq,bAnd_eq,bNot_eq,iEq_eq,iGe_eq,iLt_eq,Bool.or_eq_true,decide_eq_true_eq] at hc ⊢
 by_cases k1:K=1
 · subst k1
   simp[lApp_eq,pi5];omega
 · by_cases k0:K=0
   · subst k0
     simp;omega
   · simp only[k0,k1,or_self,if_false,Bool.and_eq_true,decide_eq_true_eq,Bool.not_eq_true',decide_eq_false_iff_not] at hc ⊢
     have h0:0≤p:=by omega
     have h1:p<dn.length:=by omega
     rw[if_pos hc.1]
     refine⟨(without_map dn p h0 h1).symm,?_⟩
     have:=without_len dn p h0 h1 (by omega)
     omega
theorem isMacro_eq(x:List (Int×Int×Int))(h:x.length≤1048576):v_spec_IsMacro x=v_impl_IsMacro x:=by
 rw[ve_spec_IsMacro,ve_impl_IsMacro]
 refine mac_join (fun dn i h0 h1 h2=>?_)
 have hr:=pair_rng (dn.map pi5) ((lGet x (iNat i) (0,0,0)).2.1,(lGet x (iNat i) (0,0,0)).2.2) (by rw[List.length_map];omega)
 rw[List.length_map] at hr
 simp only[find_eq,isAction_eq,ve_spec_l8Action,mac_cond]
 generalize v_impl_pairAt (dn.map pi5,(lGet x (iNat i) (0,0,0)).2.1,(lGet x (iNat i) (0,0,0)).2.2)=p at hr ⊢
 refine⟨trivial,fun hc=>?_⟩
 rw[bAnd_eq,bAnd_eq,iLt_eq,lLen_eq,Bool.and_eq_true,Bool.and_eq_true,decide_eq_true_eq] at hc
 obtain⟨hc1,hc2,hc3⟩:=hc
 obtain⟨s1,s2⟩:=macroStep dn (lGet x (iNat i) (0,0,0)).1 (lGet x (iNat i) (0,0,0)).2.1 (lGet x (iNat i) (0,0,0)).2.2 p i true x.length hr h2 hc1 (by omega) hc3
 rw[iAdd_i64 (a:=i) (b:=1) (by constructor<;>omega)]
 exact⟨hc1,_,rfl,by rw[s1],s2⟩
theorem roomy_nat{k w:Nat}(h:k≤1048577)(hw:w≤1000):roomy (k*w):=by
 unfold roomy;exact Nat.le_trans (Nat.mul_le_mul h hw) (by decide)
theorem ok_without(dn:List (Int×Int×Int×Int×Int))(p:Int)(h0:0≤p)(h1:p<dn.length)(h:dn.length≤1048576):ok_spec_l8Without (dn,p):=by
 rw[oe_spec_l8Without,iAdd_i64 (a:=p) (b:=1) (by constructor<;>omega)]
 simp only[iNat_eq,lN_eq,lApp_eq,lSub_eq,List.drop_zero,Nat.sub_zero,List.length_take,List.length_drop,List.length_append,List.length_nil,List.nil_append]
 refine⟨⟨h0,by omega,by omega,by omega⟩,⟨by omega,by omega,by omega,by omega⟩,roomy_nat (by omega) (by omega),roomy_nat (by omega) (by omega)⟩
theorem ok_specIsMacro(x:List (Int×Int×Int))(h:x.length≤1048576):ok_spec_IsMacro x:=by
 rw[oe_spec_IsMacro]
 refine(loop_inv (fun st:List (Int×Int×Int×Int×Int)×Int=>0≤st.2∧st.2≤(x.length:Int)∧(st.1.length:Int)≤st.2) (fun st=>((x.length:Int)-st.2).toNat) (fun st hI=>?_) ⟨by simp,by simp,by simp⟩).1
 obtain⟨dn,i⟩:=st
 obtain⟨i0,i1,i2⟩:=hI
 simp only at i0 i1 i2
 have hr:=pair_rng (dn.map pi5) ((lGet x (iNat i) (0,0,0)).2.1,(lGet x (iNat i) (0,0,0)).2.2) (by rw[List.length_map];omega)
 rw[List.length_map] at hr
 have hf:=ok_find dn ((lGet x (iNat i) (0,0,0)).1,(lGet x (iNat i) (0,0,0)).2.1,(lGet x (iNat i) (0,0,0)).2.2) (by omega)
 simp only[find_eq,isAction_eq,ve_spec_l8Action,mac_cond,ok_spec_IsAction_t,oe_spec_l8Action,oe_spec_l1In]
 generalize v_impl_pairAt (dn.map pi5,(lGet x (iNat i) (0,0,0)).2.1,(lGet x (iNat i) (0,0,0)).2.2)=p at hr ⊢
 refine⟨⟨fun hlt=>?_,fun _=>trivial⟩,fun hc=>?_⟩
 · rw[iLt_eq,lLen_eq,decide_eq_true_eq] at hlt
   refine⟨⟨i0,hlt⟩,by rw[iNat_eq];omega,hf,⟨trivial,fun _=>trivial,fun _=>⟨trivial,trivial⟩⟩,fun _=>trivial,fun hc=>⟨fun _=>⟨trivial,roomy_nat (by simp only[List.length_cons,List.length_nil];omega) (by omega)⟩,fun k1=>⟨fun k2=>?_,fun _=>trivial⟩⟩⟩
   have hc:=congrArg bNot hc
   rw[mac_cond] at hc
   simp only[bSel_eq,bOr_eq,bAnd_eq,bNot_eq,iEq_eq,iGe_eq,iLt_eq,decide_eq_true_eq] at hc k1 k2
   simp[k2] at hc
   exact ok_without dn p (by omega) (by omega) (by omega)
 · rw[bAnd_eq,bAnd_eq,iLt_eq,lLen_eq,Bool.and_eq_true,Bool.and_eq_true,decide_eq_true_eq] at hc
   obtain⟨hc1,hc2,hc3⟩:=hc
   obtain⟨s1,s2⟩:=macroStep dn (lGet x (iNat i) (0,0,0)).1 (lGet x (iNat i) (0,0,0)).2.1 (lGet x (iNat i) (0,0,0)).2.2 p i true x.length hr i2 hc1 (by omega) hc3
   rw[iAdd_i64 (a:=i) (b:=1) (by constructor<;>omega)]
   exact⟨⟨by show 0≤i+1;omega,by show i+1≤_;omega,s2⟩,by show (_-(i+1)).toNat<_;omega⟩
theorem ok_implIsMacro(x:List (Int×Int×Int))(h:x.length≤1048576):ok_impl_IsMacro x:=by
 rw[oe_impl_IsMacro]
 refine⟨fun _=>trivial,fun _=>?_⟩
 refine(loop_inv (fun st:List (Int×Int)×Int=>0≤st.2∧st.2≤(x.length:Int)∧∃ dn:List (Int×Int×Int×Int×Int),st.1=dn.map pi5∧(dn.length:Int)≤st.2) (fun st=>((x.length:Int)-st.2).toNat) (fun st hI=>?_) ⟨by simp,by simp,[],rfl,by simp⟩).1
 obtain⟨dm,i⟩:=st
 obtain⟨i0,i1,dn,rfl,i2⟩:=hI
 simp only at i0 i1 i2
 have hr:=pair_rng (dn.map pi5) ((lGet x (iNat i) (0,0,0)).2.1,(lGet x (iNat i) (0,0,0)).2.2) (by rw[List.length_map];omega)
 have hf:=ok_pair (dn.map pi5) ((lGet x (iNat i) (0,0,0)).2.1,(lGet x (iNat i) (0,0,0)).2.2) (by rw[List.length_map];omega)
 rw[List.length_map] at hr
 simp only[ok_impl_IsAction_t]
 generalize v_impl_pairAt (dn.map pi5,(lGet x (iNat i) (0,0,0)).2.1,(lGet x (iNat i) (0,0,0)).2.2)=p at hr ⊢
 refine⟨⟨fun hlt=>?_,fun _=>trivial⟩,fun hc=>?_⟩
 · rw[iLt_eq,lLen_eq,decide_eq_true_eq] at hlt
   refine⟨⟨i0,hlt⟩,by rw[iNat_eq];omega,hf,trivial,fun _=>trivial,fun _=>⟨fun _=>⟨fun _=>trivial,fun _=>⟨fun _=>roomy_nat (by simp only[List.length_map,List.length_cons,List.length_nil];omega) (by omega),fun _=>trivial⟩⟩,fun _=>⟨fun _=>⟨fun _=>trivial,fun hp=>?_⟩,fun _=>trivial⟩⟩⟩
   rw[iLt_eq,decide_eq_false_iff_not] at hp
   have h0:0≤p:=by omega
   have h1:p<dn.length:=by omega
   rw[iAdd_i64 (a:=p) (b:=1) (by constructor<;>omega)]
   simp only[iNat_eq,lN_eq,lSub_eq,List.drop_zero,Nat.sub_zero,List.length_take,List.length_drop,List.length_map]
   exact⟨⟨h0,by omega,by omega,by omega⟩,⟨by omega,by omega,by omega,by omega⟩,by omega,by omega,roomy_nat (by omega) (by omega)⟩
 · rw[bAnd_eq,bAnd_eq,iLt_eq,lLen_eq,Bool.and_eq_true,Bool.and_eq_true,decide_eq_true_eq] at hc
   obtain⟨hc1,hc2,hc3⟩:=hc
   obtain⟨s1,s2⟩:=macroStep dn (lGet x (iNat i) (0,0,0)).1 (lGet x (iNat i) (0,0,0)).2.1 (lGet x (iNat i) (0,0,0)).2.2 p i true x.length hr i2 hc1 (by omega) hc3
   rw[iAdd_i64 (a:=i) (b:=1) (by constructor<;>omega)]
   exact⟨⟨by show 0≤i+1;omega,by show i+1≤_;omega,_,s1,s2⟩,by show (_-(i+1)).toNat<_;omega⟩
section
set_option maxRecDepth 8000
noncomputable def dc_spec_IsEngine:DCode:=
 (.seq [1] (.region [oa 0 1 (.boxB 0 7 (.t 0)),
 oa 1 2 (.mv (.c (.bool false)))])
  (.seq [1] (.seq [20,1] (.region [oa 0 5 (.fieldA 0 (.t 1)),
 oa 1 6 (.loadB 0 (some 2) (.t 5)),
 oc 2 7 s_spec_IsKeymap p_spec_IsKeymap D_spec_IsKeymap [(.t 6)],
 oa 3 8 (.un .not (.t 7)),
 om 4 9 8,
 og 5 10 (.fieldA 2 (.t 1)) 9 false,
 og 6 11 (.loadB 0 none (.t 10)) 9 false,
 og 7 12 (.len (.t 11)) 9 false,
 og 8 13 (.bin .gtr (.t 12) (.c (.int .i64 4))) 9 false,
 oa 9 14 (.pick (.t 9) (.c (.bool true)) (.t 13)),
 om 10 15 14,
 og 11 16 (.fieldA 4 (.t 1)) 15 false,
 og 12 17 (.loadB 0 none (.t 16)) 15 false,
 ⟨13,some 18,.call false s_spec_IsHeld p_spec_IsHeld D_spec_IsHeld [(.t 17)],(some (15,false)),[]⟩,
 og 14 19 (.un .not (.t 18)) 15 false,
 oa 15 20 (.pick (.t 15) (.c (.bool true)) (.t 19))])
  (.cond (.t 20) (.seq [2] (.region [oa 0 2 (.mv (.c (.bool false)))])
  .ret) .skip))
  (.seq [1] (.seq [3,1] (.region [oi 0 3 0])
  (.block 0 (.loop [1,3] 1 (.seq [3,1] (.seq [25,3,1] (.region [om 0 21 3,
 oa 1 22 (.fieldA 2 (.t 1)),
 oa 2 23 (.loadB 0 none (.t 22)),
 oa 3 24 (.len (.t 23)),
 oa 4 25 (.bin .lss (.t 21) (.t 24))])
  (.cond (.t 25) .skip (.exit 0)))
  (.seq [3,1] (.block 1 (.seq [34,3,1] (.region [oa 0 28 (.fieldA 2 (.t 1)),
 oa 1 29 (.loadB 0 none (.t 28)),
 om 2 30 3,
 oa 3 31 (.indexA 1 (.t 29) (.t 30)),
 oa 4 32 (.loadH none (.t 31)),
 oc 5 33 s_spec_IsMacro p_spec_IsMacro D_spec_IsMacro [(.t 32)],
 oa 6 34 (.un .not (.t 33))])
  (.cond (.t 34) (.seq [2] (.region [oa 0 2 (.mv (.c (.bool false)))])
  .ret) .skip)))
  (.region [om 0 26 3,
 oa 1 27 (.bin .add (.t 26) (.c (.int .i64 1))),
 om 2 3 27]))))))
  (.seq [1] (.seq [4,1] (.region [oi 0 4 0])
  (.block 2 (.loop [1,4] 1 (.seq [4,1] (.seq [39,4,1] (.region [om 0 35 4,
 oa 1 36 (.fieldA 4 (.t 1)),
 oa 2 37 (.loadB 0 none (.t 36)),
 oa 3 38 (.len (.t 37)),
 oa 4 39 (.bin .lss (.t 35) (.t 38))])
  (.cond (.t 39) .skip (.exit 2)))
  (.seq [4,1] (.block 3 (.seq [75,4,1] (.region [oa 0 42 (.fieldA 4 (.t 1)),
 xA 1 43 (.loadB 0 none (.t 42)) (rg 1),
 om 2 44 4,
 xA 3 45 (.indexA 5 (.t 43) (.t 44)) (rg 3),
 xA 4 46 (.fieldA 0 (.t 45)) (rg 4),
 xA 5 47 (.loadH none (.t 46)) (rg 5),
 oa 6 48 (.fieldA 0 (.t 1)),
 xA 7 49 (.fieldA 0 (.t 48)) [6],
 xA 8 50 (.loadB 0 none (.t 49)) [6,7],
 xA 9 51 (.bin .geq (.t 47) (.t 50)) (rg 9),
 xA 10 52 (.mv (.t 51)) (rg 10),
 ⟨11,some 53,.a false (.fieldA 4 (.t 1)) none,(some (52,false)),[0,1,2,3,4,5,6,7,8,9,10]⟩,
 ⟨12,some 54,.a false (.loadB 0 none (.t 53)) none,(some (52,false)),[0,1,2,3,4,5,6,7,8,9,10,11]⟩,
 ⟨13,some 55,.a false (.mv (.t 4)) none,(some (52,false)),[0,1,2,3,4,5,6,7,8,9,10]⟩,
 ⟨14,some 56,.a false (.indexA 5 (.t 54) (.t 55)) none,(some (52,false)),[0,1,2,3,4,5,6,7,8,9,10,11,12,13]⟩,
 ⟨15,some 57,.a false (.fieldA 1 (.t 56)) none,(some (52,false)),[0,1,2,3,4,5,6,7,8,9,10,11,12,13,14]⟩,
 ⟨16,some 58,.a false (.fieldA 0 (.t 57)) none,(some (52,false)),[0,1,2,3,4,5,6,7,8,9,10,11,12,13,14,15]⟩,
 ⟨17,some 59,.a false (.loadH none (.t 58)) none,(some (52,false)),[0,1,2,3,4,5,6,7,8,9,10,11,12,13,14,15,16]⟩,
 ⟨18,some 60,.a false (.bin .neq (.t 59) (.c (.int .i64 9))) none,(some (52,false)),[0,1,2,3,4,5,6,7,8,9,10,11,12,13,14,15,16,17]⟩,
 ⟨19,some 61,.a false (.mv (.t 60)) none,(some (52,false)),[0,1,2,3,4,5,6,7,8,9,10,11,12,13,14,15,16,17,18]⟩,
 ⟨20,some 62,.a false (.fieldA 4 (.t 1)) none,(some (61,true)),[0,1,2,3,4,5,6,7,8,9,10,11,12,13,14,15,16,17,18,19]⟩,
 ⟨21,some 63,.a false (.loadB 0 none (.t 62)) none,(some (61,true)),[0,1,2,3,4,5,6,7,8,9,10,11,12,13,14,15,16,17,18,19,20]⟩,
 ⟨22,some 64,.a false (.mv (.t 4)) none,(some (61,true)),[0,1,2,3,4,5,6,7,8,9,10,11,12,13,14,15,16,17,18,19]⟩,
 ⟨23,some 65,.a false (.indexA 5 (.t 63) (.t 64)) none,(some (61,true)),[0,1,2,3,4,5,6,7,8,9,10,11,12,13,14,15,16,17,18,19,20,21,22]⟩,
 ⟨24,some 66,.a false (.fieldA 1 (.t 65)) none,(some (61,true)),[0,1,2,3,4,5,6,7,8,9,10,11,12,13,14,15,16,17,18,19,20,21,22,23]⟩,
 ⟨25,some 67,.a false (.fieldA 3 (.t 66)) none,(some (61,true)),[0,1,2,3,4,5,6,7,8,9,10,11,12,13,14,15,16,17,18,19,20,21,22,23,24]⟩,
 ⟨26,some 68,.a false (.loadH none (.t 67)) none,(some (61,true)),[0,1,2,3,4,5,6,7,8,9,10,11,12,13,14,15,16,17,18,19,20,21,22,23,24,25]⟩,
 ⟨27,some 69,.a false (.fieldA 0 (.t 1)) none,(some (61,true)),[0,1,2,3,4,5,6,7,8,9,10,11,12,13,14,15,16,17,18,19]⟩,
 ⟨28,some 70,.a false (.fieldA 1 (.t 69)) none,(some (61,true)),[0,1,2,3,4,5,6,7,8,9,10,11,12,13,14,15,16,17,18,19,27]⟩,
 ⟨29,some 71,.a false (.loadB 0 none (.t 70)) none,(some (61,true)),[0,1,2,3,4,5,6,7,8,9,10,11,12,13,14,15,16,17,18,19,27,28]⟩,
 ⟨30,some 72,.a false (.len (.t 71)) none,(some (61,true)),[0,1,2,3,4,5,6,7,8,9,10,11,12,13,14,15,16,17,18,19,27,28,29]⟩,
 ⟨31,some 73,.a false (.bin .geq (.t 68) (.t 72)) none,(some (61,true)),[0,1,2,3,4,5,6,7,8,9,10,11,12,13,14,15,16,17,18,19,20,21,22,23,24,25,26,27,28,29,30]⟩,
 ⟨32,some 74,.a false (.pick (.t 61) (.t 73) (.c (.bool false))) none,(some (52,false)),[0,1,2,3,4,5,6,7,8,9,10,11,12,13,14,15,16,17,18,19,20,21,22,23,24,25,26,27,28,29,30,31]⟩,
 xA 33 75 (.pick (.t 52) (.c (.bool true)) (.t 74)) (rg 33)])
  (.cond (.t 75) (.seq [2] (.region [oa 0 2 (.mv (.c (.bool false)))])
  .ret) .skip)))
  (.region [om 0 40 4,
 oa 1 41 (.bin .add (.t 40) (.c (.int .i64 1))),
 om 2 4 41]))))))
  (.seq [2] (.region [oa 0 76 (.fieldA 3 (.t 1)),
 xA 1 77 (.loadB 0 none (.t 76)) (rg 1),
 oa 2 78 (.fieldA 0 (.t 1)),
 xA 3 79 (.fieldA 1 (.t 78)) [2],
 xA 4 80 (.loadB 0 none (.t 79)) [2,3],
 xA 5 81 (.len (.t 80)) [2,3,4],
 xA 6 82 (.bin .shl (.c (.int .i64 1)) (.t 81)) [2,3,4,5],
 xA 7 83 (.bin .sub (.t 82) (.c (.int .i64 1))) [2,3,4,5,6],
 xC 8 84 s_spec_l1In p_spec_l1In D_spec_l1In [(.t 77),(.c (.int .i64 0)),(.t 83)] (rg 8),
 xA 9 85 (.mv (.t 84)) (rg 9),
 ⟨10,some 86,.a false (.fieldA 3 (.t 1)) none,(some (85,true)),[0,1,2,3,4,5,6,7,8,9]⟩,
 ⟨11,some 87,.a false (.loadB 0 none (.t 86)) none,(some (85,true)),[0,1,2,3,4,5,6,7,8,9,10]⟩,
 ⟨12,some 88,.a false (.bin .rem (.t 87) (.c (.int .i64 2))) none,(some (85,true)),[0,1,2,3,4,5,6,7,8,9,10,11]⟩,
 ⟨13,some 89,.a false (.bin .eql (.t 88) (.c (.int .i64 0))) none,(some (85,true)),[0,1,2,3,4,5,6,7,8,9,10,11,12]⟩,
 xA 14 90 (.pick (.t 85) (.t 89) (.c (.bool false))) (rg 14),
 xA 15 91 (.mv (.t 90)) (rg 15),
 ⟨16,some 92,.a false (.fieldA 5 (.t 1)) none,(some (91,true)),[0,1,2,3,4,5,6,7,8,9,10,11,12,13,14,15]⟩,
 ⟨17,some 93,.a false (.loadB 0 none (.t 92)) none,(some (91,true)),[0,1,2,3,4,5,6,7,8,9,10,11,12,13,14,15,16]⟩,
 ⟨18,some 94,.call false s_spec_l1In p_spec_l1In D_spec_l1In [(.t 93),(.c (.int .i64 0)),(.c (.int .i64 15))],(some (91,true)),[0,1,2,3,4,5,6,7,8,9,10,11,12,13,14,15,16,17]⟩,
 xA 19 95 (.pick (.t 91) (.t 94) (.c (.bool false))) (rg 19),
 xA 20 2 (.mv (.t 95)) (rg 20)])
  .ret)))))
noncomputable def df_spec_IsEngine:DFun:=⟨1,96,1,true,[.tmp 2],dc_spec_IsEngine⟩
noncomputable def pf_spec_IsEngine:PFun:=df_spec_IsEngine.er
noncomputable def f_spec_IsEngine:AFun:=pf_spec_IsEngine.er
@[irreducible] noncomputable def s_spec_IsEngine:CallSem:=funSem f_spec_IsEngine
@[irreducible] noncomputable def p_spec_IsEngine:PSem:=pfunSem pf_spec_IsEngine
theorem sp_spec_IsEngine:SoundP s_spec_IsEngine p_spec_IsEngine:=by unfold s_spec_IsEngine p_spec_IsEngine;exact pfun_sound (f:=pf_spec_IsEngine) ⟨sp_spec_IsKeymap,sp_spec_IsHeld,sp_spec_IsMacro,sp_spec_l1In,sp_spec_l1In,trivial⟩
def h_spec_IsEngine:List HT:=[.agg [(.frz,.int .i64),(.frz,.sl (.one (.sl rI4))),(.frz,.sl (.one (.sl rI3))),(.frz,.int .i64),(.frz,.sl rI5),(.frz,.int .i64),(.frz,.bool)]]
def q_spec_IsEngine:QT:=.one (.one .own (.bool))
@[irreducible] noncomputable def v_spec_IsEngine(x:Int×(List (List (Int×Int×Int×Int)))×(List (List (Int×Int×Int)))×Int×(List (Int×Int×Int×Int×Int))×Int×Bool):Bool:=(shut fun x=>fnV df_spec_IsEngine h_spec_IsEngine q_spec_IsEngine x).1 x
@[irreducible] noncomputable def ok_spec_IsEngine(x:Int×(List (List (Int×Int×Int×Int)))×(List (List (Int×Int×Int)))×Int×(List (Int×Int×Int×Int×Int))×Int×Bool):Prop:=(shut fun x=>fnOk df_spec_IsEngine h_spec_IsEngine q_spec_IsEngine x).1 x
theorem vu_spec_IsEngine (x):v_spec_IsEngine x=fnV df_spec_IsEngine h_spec_IsEngine q_spec_IsEngine x:=by unfold v_spec_IsEngine;exact congrFun (shut _).2 x
theorem ou_spec_IsEngine (x):ok_spec_IsEngine x=fnOk df_spec_IsEngine h_spec_IsEngine q_spec_IsEngine x:=by unfold ok_spec_IsEngine;exact congrFun (shut _).2 x
noncomputable def D_spec_IsEngine:DSem:=DSemOf h_spec_IsEngine q_spec_IsEngine ok_spec_IsEngine v_spec_IsEngine
theorem ck_spec_IsEngine(x:Int×(List (List (Int×Int×Int×Int)))×(List (List (Int×Int×Int)))×Int×(List (Int×Int×Int×Int×Int))×Int×Bool):fnChk df_spec_IsEngine h_spec_IsEngine q_spec_IsEngine x=true:=by kernel_rfl
theorem ob_spec_IsEngine:AllD df_spec_IsEngine.body.obs:=⟨sd_spec_IsKeymap,sd_spec_IsHeld,sd_spec_IsMacro,sd_spec_l1In,sd_spec_l1In,trivial⟩
theorem st_spec_IsEngine:fnSt df_spec_IsEngine h_spec_IsEngine q_spec_IsEngine=true:=by kernel_rfl
theorem sd_spec_IsEngine:SoundD p_spec_IsEngine D_spec_IsEngine:=by unfold p_spec_IsEngine;exact soundD_of (f:=df_spec_IsEngine) (hs:=h_spec_IsEngine) (q:=q_spec_IsEngine) ob_spec_IsEngine st_spec_IsEngine ck_spec_IsEngine (fun x h=>Eq.mp (ou_spec_IsEngine x) h) (fun x=>(vu_spec_IsEngine x).symm)
noncomputable def dc_impl_IsEngine:DCode:=
 (.seq [1] (.region [oa 0 1 (.boxB 0 7 (.t 0)),
 oa 1 2 (.mv (.c (.bool false)))])
  (.seq [1] (.seq [33,1] (.region [oa 0 8 (.fieldA 0 (.t 1)),
 oa 1 9 (.loadB 0 (some 2) (.t 8)),
 oc 2 10 s_impl_IsKeymap p_impl_IsKeymap D_impl_IsKeymap [(.t 9)],
 oa 3 11 (.un .not (.t 10)),
 om 4 12 11,
 og 5 13 (.fieldA 2 (.t 1)) 12 false,
 og 6 14 (.loadB 0 none (.t 13)) 12 false,
 og 7 15 (.len (.t 14)) 12 false,
 og 8 16 (.bin .gtr (.t 15) (.c (.int .i64 4))) 12 false,
 oa 9 17 (.pick (.t 12) (.c (.bool true)) (.t 16)),
 om 10 18 17,
 og 11 19 (.fieldA 4 (.t 1)) 18 false,
 og 12 20 (.loadB 0 none (.t 19)) 18 false,
 ⟨13,some 21,.call false s_impl_IsHeld p_impl_IsHeld D_impl_IsHeld [(.t 20)],(some (18,false)),[]⟩,
 og 14 22 (.un .not (.t 21)) 18 false,
 oa 15 23 (.pick (.t 18) (.c (.bool true)) (.t 22)),
 om 16 24 23,
 og 17 25 (.fieldA 5 (.t 1)) 24 false,
 og 18 26 (.loadB 0 none (.t 25)) 24 false,
 og 19 27 (.bin .lss (.t 26) (.c (.int .i64 0))) 24 false,
 oa 20 28 (.pick (.t 24) (.c (.bool true)) (.t 27)),
 om 21 29 28,
 og 22 30 (.fieldA 5 (.t 1)) 29 false,
 og 23 31 (.loadB 0 none (.t 30)) 29 false,
 og 24 32 (.bin .gtr (.t 31) (.c (.int .i64 15))) 29 false,
 oa 25 33 (.pick (.t 29) (.c (.bool true)) (.t 32))])
  (.cond (.t 33) (.seq [2] (.region [oa 0 2 (.mv (.c (.bool false)))])
  .ret) .skip))
  (.seq [1] (.seq [37,36,35,1] (.region [oa 0 34 (.fieldA 2 (.t 1)),
 oa 1 35 (.loadB 0 none (.t 34)),
 oa 2 36 (.len (.t 35)),
 oi 3 37 0])
  (.block 0 (.loop [1,35,36,37] 1 (.seq [38,37,36,35,1] (.region [oa 0 38 (.bin .lss (.t 37) (.t 36))])
  (.seq [37,36,35,1] (.cond (.t 38) .skip (.exit 0))
  (.seq [37,36,35,1] (.block 1 (.seq [37,36,35,4,1] (.region [oa 0 39 (.indexA 1 (.t 35) (.t 37)),
 oa 1 40 (.loadH none (.t 39)),
 on 2 4 40])
  (.seq [43,37,36,35,1] (.region [on 0 41 4,
 oc 1 42 s_impl_IsMacro p_impl_IsMacro D_impl_IsMacro [(.t 41)],
 oa 2 43 (.un .not (.t 42))])
  (.cond (.t 43) (.seq [2] (.region [oa 0 2 (.mv (.c (.bool false)))])
  .ret) .skip))))
  (.region [oa 0 44 (.bin .add (.t 37) (.c (.int .i64 1))),
 om 1 37 44])))))))
  (.seq [5,1] (.region [oa 0 45 (.fieldA 0 (.t 1)),
 oa 1 46 (.fieldA 1 (.t 45)),
 oa 2 47 (.loadB 0 none (.t 46)),
 oa 3 48 (.len (.t 47)),
 om 4 5 48])
  (.seq [5,1] (.seq [52,51,50,5,1] (.region [oa 0 49 (.fieldA 4 (.t 1)),
 oa 1 50 (.loadB 0 none (.t 49)),
 oa 2 51 (.len (.t 50)),
 oi 3 52 0])
  (.block 2 (.loop [1,5,50,51,52] 1 (.seq [53,52,51,50,5,1] (.region [oa 0 53 (.bin .lss (.t 52) (.t 51))])
  (.seq [52,51,50,5,1] (.cond (.t 53) .skip (.exit 2))
  (.seq [52,51,50,5,1] (.block 3 (.seq [52,51,50,7,5,1] (.region [oa 0 54 (.indexA 5 (.t 50) (.t 52)),
 ob 1 55 (.loadH (some 5) (.t 54)),
 oa 2 7 (.allocB 1 [(.int .i64 0),(.int .i64 0),(.int .i64 0),(.int .i64 0),(.int .i64 0)]),
 os 3 (.storeB 1 5 (.t 7) (.t 55))])
  (.seq [74,52,51,50,5,1] (.region [oa 0 56 (.fieldA 0 (.t 7)),
 oa 1 57 (.loadB 1 none (.t 56)),
 oa 2 58 (.fieldA 0 (.t 1)),
 oa 3 59 (.fieldA 0 (.t 58)),
 oa 4 60 (.loadB 0 none (.t 59)),
 oa 5 61 (.bin .geq (.t 57) (.t 60)),
 om 6 62 61,
 og 7 63 (.fieldA 1 (.t 7)) 62 false,
 og 8 64 (.fieldA 0 (.t 63)) 62 false,
 og 9 65 (.loadB 1 none (.t 64)) 62 false,
 og 10 66 (.bin .neq (.t 65) (.c (.int .i64 9))) 62 false,
 og 11 67 (.mv (.t 66)) 62 false,
 og 12 68 (.fieldA 1 (.t 7)) 67 true,
 og 13 69 (.fieldA 3 (.t 68)) 67 true,
 og 14 70 (.loadB 1 none (.t 69)) 67 true,
 og 15 71 (.mv (.t 5)) 67 true,
 og 16 72 (.bin .geq (.t 70) (.t 71)) 67 true,
 og 17 73 (.pick (.t 67) (.t 72) (.c (.bool false))) 62 false,
 oa 18 74 (.pick (.t 62) (.c (.bool true)) (.t 73))])
  (.cond (.t 74) (.seq [2] (.region [oa 0 2 (.mv (.c (.bool false)))])
  .ret) .skip))))
  (.region [oa 0 75 (.bin .add (.t 52) (.c (.int .i64 1))),
 om 1 52 75])))))))
  (.seq [2] (.region [oa 0 76 (.fieldA 3 (.t 1)),
 xA 1 77 (.loadB 0 none (.t 76)) (rg 1),
 xA 2 78 (.bin .geq (.t 77) (.c (.int .i64 0))) (rg 2),
 xA 3 79 (.mv (.t 78)) (rg 3),
 ⟨4,some 80,.a false (.fieldA 3 (.t 1)) none,(some (79,true)),[0,1,2,3]⟩,
 ⟨5,some 81,.a false (.loadB 0 none (.t 80)) none,(some (79,true)),[0,1,2,3,4]⟩,
 ⟨6,some 82,.a false (.bin .rem (.t 81) (.c (.int .i64 2))) none,(some (79,true)),[0,1,2,3,4,5]⟩,
 ⟨7,some 83,.a false (.bin .eql (.t 82) (.c (.int .i64 0))) none,(some (79,true)),[0,1,2,3,4,5,6]⟩,
 xA 8 84 (.pick (.t 79) (.t 83) (.c (.bool false))) (rg 8),
 xA 9 85 (.mv (.t 84)) (rg 9),
 ⟨10,some 86,.a false (.fieldA 3 (.t 1)) none,(some (85,true)),[0,1,2,3,4,5,6,7,8,9]⟩,
 ⟨11,some 87,.a false (.loadB 0 none (.t 86)) none,(some (85,true)),[0,1,2,3,4,5,6,7,8,9,10]⟩,
 ⟨12,some 88,.a false (.mv (.t 5)) none,(some (85,true)),[0,1,2,3,4,5,6,7,8,9]⟩,
 ⟨13,some 89,.a false (.bin .shl (.c (.int .i64 1)) (.t 88)) none,(some (85,true)),[0,1,2,3,4,5,6,7,8,9,12]⟩,
 ⟨14,some 90,.a false (.bin .lss (.t 87) (.t 89)) none,(some (85,true)),[0,1,2,3,4,5,6,7,8,9,10,11,12,13]⟩,
 xA 15 91 (.pick (.t 85) (.t 90) (.c (.bool false))) (rg 15),
 xA 16 2 (.mv (.t 91)) (rg 16)])
  .ret))))))
noncomputable def df_impl_IsEngine:DFun:=⟨1,92,2,true,[.tmp 2],dc_impl_IsEngine⟩
noncomputable def pf_impl_IsEngine:PFun:=df_impl_IsEngine.er
noncomputable def f_impl_IsEngine:AFun:=pf_impl_IsEngine.er
@[irreducible] noncomputable def s_impl_IsEngine:CallSem:=funSem f_impl_IsEngine
@[irreducible] noncomputable def p_impl_IsEngine:PSem:=pfunSem pf_impl_IsEngine
theorem sp_impl_IsEngine:SoundP s_impl_IsEngine p_impl_IsEngine:=by unfold s_impl_IsEngine p_impl_IsEngine;exact pfun_sound (f:=pf_impl_IsEngine) ⟨sp_impl_IsKeymap,sp_impl_IsHeld,sp_impl_IsMacro,trivial⟩
def h_impl_IsEngine:List HT:=[.agg [(.frz,.int .i64),(.frz,.sl (.one (.sl rI4))),(.frz,.sl (.one (.sl rI3))),(.frz,.int .i64),(.frz,.sl rI5),(.frz,.int .i64),(.frz,.bool)]]
def q_impl_IsEngine:QT:=.one (.one .own (.bool))
@[irreducible] noncomputable def v_impl_IsEngine(x:Int×(List (List (Int×Int×Int×Int)))×(List (List (Int×Int×Int)))×Int×(List (Int×Int×Int×Int×Int))×Int×Bool):Bool:=(shut fun x=>fnV df_impl_IsEngine h_impl_IsEngine q_impl_IsEngine x).1 x
@[irreducible] noncomputable def ok_impl_IsEngine(x:Int×(List (List (Int×Int×Int×Int)))×(List (List (Int×Int×Int)))×Int×(List (Int×Int×Int×Int×Int))×Int×Bool):Prop:=(shut fun x=>fnOk df_impl_IsEngine h_impl_IsEngine q_impl_IsEngine x).1 x
theorem vu_impl_IsEngine (x):v_impl_IsEngine x=fnV df_impl_IsEngine h_impl_IsEngine q_impl_IsEngine x:=by unfold v_impl_IsEngine;exact congrFun (shut _).2 x
theorem ou_impl_IsEngine (x):ok_impl_IsEngine x=fnOk df_impl_IsEngine h_impl_IsEngine q_impl_IsEngine x:=by unfold ok_impl_IsEngine;exact congrFun (shut _).2 x
noncomputable def D_impl_IsEngine:DSem:=DSemOf h_impl_IsEngine q_impl_IsEngine ok_impl_IsEngine v_impl_IsEngine
theorem ck_impl_IsEngine(x:Int×(List (List (Int×Int×Int×Int)))×(List (List (Int×Int×Int)))×Int×(List (Int×Int×Int×Int×Int))×Int×Bool):fnChk df_impl_IsEngine h_impl_IsEngine q_impl_IsEngine x=true:=by kernel_rfl
theorem ob_impl_IsEngine:AllD df_impl_IsEngine.body.obs:=⟨sd_impl_IsKeymap,sd_impl_IsHeld,sd_impl_IsMacro,trivial⟩
theorem st_impl_IsEngine:fnSt df_impl_IsEngine h_impl_IsEngine q_impl_IsEngine=true:=by kernel_rfl
theorem sd_impl_IsEngine:SoundD p_impl_IsEngine D_impl_IsEngine:=by unfold p_impl_IsEngine;exact soundD_of (f:=df_impl_IsEngine) (hs:=h_impl_IsEngine) (q:=q_impl_IsEngine) ob_impl_IsEngine st_impl_IsEngine ck_impl_IsEngine (fun x h=>Eq.mp (ou_impl_IsEngine x) h) (fun x=>(vu_impl_IsEngine x).symm)
end
section
set_option maxRecDepth 100000
noncomputable def lc_spec_IsEngine_1(x:Int×(List (List (Int×Int×Int×Int)))×(List (List (Int×Int×Int)))×Int×(List (Int×Int×Int×Int×Int))×Int×Bool)(x0:Int):Bool:=(bAnd (iLt x0 (lLen x.2.2.1)) (bNot (bNot (v_spec_IsMacro (lGet x.2.2.1 (iNat x0) [])))))
noncomputable def lf_spec_IsEngine_1(x0:Int):Int:=(iAdd .i64 x0 1)
noncomputable def lc_spec_IsEngine_2(x:Int×(List (List (Int×Int×Int×Int)))×(List (List (Int×Int×Int)))×Int×(List (Int×Int×Int×Int×Int))×Int×Bool)(x0:Int):Bool:=(bAnd (iLt x0 (lLen x.2.2.2.2.1)) (bNot (bOr (iGe (lGet x.2.2.2.2.1 (iNat x0) (0,0,0,0,0)).1 x.1) (bAnd (iNe (lGet x.2.2.2.2.1 (iNat x0) (0,0,0,0,0)).2.1 9) (iGe (lGet x.2.2.2.2.1 (iNat x0) (0,0,0,0,0)).2.2.2.2 (lLen x.2.1))))))
noncomputable def lp_spec_IsEngine_1(x:Int×(List (List (Int×Int×Int×Int)))×(List (List (Int×Int×Int)))×Int×(List (Int×Int×Int×Int×Int))×Int×Bool)(x0:Int):Prop:=(((iLt x0 (lLen x.2.2.1))=true→((((0:Int)≤x0)∧(x0<(((List.length x.2.2.1):Int))))∧(((iNat x0)<(List.length x.2.2.1))∧(ok_spec_IsMacro (lGet x.2.2.1 (iNat x0) [])))))∧((iLt x0 (lLen x.2.2.1))=false→True))
noncomputable def lp_spec_IsEngine_2(x:Int×(List (List (Int×Int×Int×Int)))×(List (List (Int×Int×Int)))×Int×(List (Int×Int×Int×Int×Int))×Int×Bool)(x0:Int):Prop:=(((iLt x0 (lLen x.2.2.2.2.1))=true→((((0:Int)≤x0)∧(x0<(((List.length x.2.2.2.2.1):Int))))∧(((iNat x0)<(List.length x.2.2.2.2.1))∧(((iGe (lGet x.2.2.2.2.1 (iNat x0) (0,0,0,0,0)).1 x.1)=true→True)∧((iGe (lGet x.2.2.2.2.1 (iNat x0) (0,0,0,0,0)).1 x.1)=false→((((0:Int)≤x0)∧(x0<(((List.length x.2.2.2.2.1):Int))))∧(((iNat x0)<(List.length x.2.2.2.2.1))∧(((iNe (lGet x.2.2.2.2.1 (iNat x0) (0,0,0,0,0)).2.1 9)=true→((((0:Int)≤x0)∧(x0<(((List.length x.2.2.2.2.1):Int))))∧((iNat x0)<(List.length x.2.2.2.2.1))))∧((iNe (lGet x.2.2.2.2.1 (iNat x0) (0,0,0,0,0)).2.1 9)=false→True)))))))))∧((iLt x0 (lLen x.2.2.2.2.1))=false→True))
theorem ve_spec_IsEngine (x):v_spec_IsEngine x=(bAnd (bNot (bOr (bNot (v_spec_IsKeymap (x.1,x.2.1))) (bOr (iGt (lLen x.2.2.1) 4) (bNot (v_spec_IsHeld x.2.2.2.2.1))))) (bAnd (bNot (iLt (loopV (lc_spec_IsEngine_1 x) lf_spec_IsEngine_1 0) (lLen x.2.2.1))) (bAnd (bNot (iLt (loopV (lc_spec_IsEngine_2 x) lf_spec_IsEngine_1 0) (lLen x.2.2.2.2.1))) (bAnd (v_spec_l1In (x.2.2.2.1,0,(iSub .i64 (iShl .i64 1 (lLen x.2.1)) 1))) (bAnd (iEq (iRem x.2.2.2.1 2) 0) (v_spec_l1In (x.2.2.2.2.2.1,0,15))))))):=(vu_spec_IsEngine x).trans (by kernel_rfl)
theorem oe_spec_IsEngine (x):ok_spec_IsEngine x=(((ok_spec_IsKeymap (x.1,x.2.1))∧(((bNot (v_spec_IsKeymap (x.1,x.2.1)))=true→True)∧((bNot (v_spec_IsKeymap (x.1,x.2.1)))=false→(((iGt (lLen x.2.2.1) 4)=true→True)∧((iGt (lLen x.2.2.1) 4)=false→(ok_spec_IsHeld x.2.2.2.2.1))))))∧(((bOr (bNot (v_spec_IsKeymap (x.1,x.2.1))) (bOr (iGt (lLen x.2.2.1) 4) (bNot (v_spec_IsHeld x.2.2.2.2.1))))=true→True)∧((bOr (bNot (v_spec_IsKeymap (x.1,x.2.1))) (bOr (iGt (lLen x.2.2.1) 4) (bNot (v_spec_IsHeld x.2.2.2.2.1))))=false→((LoopOk (lc_spec_IsEngine_1 x) lf_spec_IsEngine_1 (lp_spec_IsEngine_1 x) 0)∧(((iLt (loopV (lc_spec_IsEngine_1 x) lf_spec_IsEngine_1 0) (lLen x.2.2.1))=true→True)∧((iLt (loopV (lc_spec_IsEngine_1 x) lf_spec_IsEngine_1 0) (lLen x.2.2.1))=false→((LoopOk (lc_spec_IsEngine_2 x) lf_spec_IsEngine_1 (lp_spec_IsEngine_2 x) 0)∧(((iLt (loopV (lc_spec_IsEngine_2 x) lf_spec_IsEngine_1 0) (lLen x.2.2.2.2.1))=true→True)∧((iLt (loopV (lc_spec_IsEngine_2 x) lf_spec_IsEngine_1 0) (lLen x.2.2.2.2.1))=false→(((0:Int)≤(lLen x.2.1))∧((ok_spec_l1In (x.2.2.2.1,0,(iSub .i64 (iShl .i64 1 (lLen x.2.1)) 1)))∧(((v_spec_l1In (x.2.2.2.1,0,(iSub .i64 (iShl .i64 1 (lLen x.2.1)) 1)))=true→(((2:Int)≠0)∧(((iEq (iRem x.2.2.2.1 2) 0)=true→(ok_spec_l1In (x.2.2.2.2.2.1,0,15)))∧((iEq (iRem x.2.2.2.1 2) 0)=false→True))))∧((v_spec_l1In (x.2.2.2.1,0,(iSub .i64 (iShl .i64 1 (lLen x.2.1)) 1)))=false→True))))))))))))):=(ou_spec_IsEngine x).trans (by kernel_rfl)
noncomputable def lc_impl_IsEngine_1(x:Int×(List (List (Int×Int×Int×Int)))×(List (List (Int×Int×Int)))×Int×(List (Int×Int×Int×Int×Int))×Int×Bool)(x0:Int):Bool:=(bAnd (iLt x0 (lLen x.2.2.1)) (bNot (bNot (v_impl_IsMacro (lGet x.2.2.1 (iNat x0) [])))))
noncomputable def lf_impl_IsEngine_1(x0:Int):Int:=(iAdd .i64 x0 1)
noncomputable def lc_impl_IsEngine_2(x:Int×(List (List (Int×Int×Int×Int)))×(List (List (Int×Int×Int)))×Int×(List (Int×Int×Int×Int×Int))×Int×Bool)(x0:Int):Bool:=(bAnd (iLt x0 (lLen x.2.2.2.2.1)) (bNot (bOr (iGe (lGet x.2.2.2.2.1 (iNat x0) (0,0,0,0,0)).1 x.1) (bAnd (iNe (lGet x.2.2.2.2.1 (iNat x0) (0,0,0,0,0)).2.1 9) (iGe (lGet x.2.2.2.2.1 (iNat x0) (0,0,0,0,0)).2.2.2.2 (lLen x.2.1))))))
noncomputable def lp_impl_IsEngine_1(x:Int×(List (List (Int×Int×Int×Int)))×(List (List (Int×Int×Int)))×Int×(List (Int×Int×Int×Int×Int))×Int×Bool)(x0:Int):Prop:=(((iLt x0 (lLen x.2.2.1))=true→((((0:Int)≤x0)∧(x0<(((List.length x.2.2.1):Int))))∧(((iNat x0)<(List.length x.2.2.1))∧(ok_impl_IsMacro (lGet x.2.2.1 (iNat x0) [])))))∧((iLt x0 (lLen x.2.2.1))=false→True))
noncomputable def lp_impl_IsEngine_2(x:Int×(List (List (Int×Int×Int×Int)))×(List (List (Int×Int×Int)))×Int×(List (Int×Int×Int×Int×Int))×Int×Bool)(x0:Int):Prop:=(((iLt x0 (lLen x.2.2.2.2.1))=true→((((0:Int)≤x0)∧(x0<(((List.length x.2.2.2.2.1):Int))))∧((iNat x0)<(List.length x.2.2.2.2.1))))∧((iLt x0 (lLen x.2.2.2.2.1))=false→True))
theorem ve_impl_IsEngine (x):v_impl_IsEngine x=(bAnd (bNot (bOr (bNot (v_impl_IsKeymap (x.1,x.2.1))) (bOr (iGt (lLen x.2.2.1) 4) (bOr (bNot (v_impl_IsHeld x.2.2.2.2.1)) (bOr (iLt x.2.2.2.2.2.1 0) (iGt x.2.2.2.2.2.1 15)))))) (bAnd (bNot (iLt (loopV (lc_impl_IsEngine_1 x) lf_impl_IsEngine_1 0) (lLen x.2.2.1))) (bAnd (bNot (iLt (loopV (lc_impl_IsEngine_2 x) lf_impl_IsEngine_1 0) (lLen x.2.2.2.2.1))) (bAnd (iGe x.2.2.2.1 0) (bAnd (iEq (iRem x.2.2.2.1 2) 0) (iLt x.2.2.2.1 (iShl .i64 1 (lLen x.2.1)))))))):=(vu_impl_IsEngine x).trans (by kernel_rfl)
theorem oe_impl_IsEngine (x):ok_impl_IsEngine x=(((ok_impl_IsKeymap (x.1,x.2.1))∧(((bNot (v_impl_IsKeymap (x.1,x.2.1)))=true→True)∧((bNot (v_impl_IsKeymap (x.1,x.2.1)))=false→(((iGt (lLen x.2.2.1) 4)=true→True)∧((iGt (lLen x.2.2.1) 4)=false→(ok_impl_IsHeld x.2.2.2.2.1))))))∧(((bOr (bNot (v_impl_IsKeymap (x.1,x.2.1))) (bOr (iGt (lLen x.2.2.1) 4) (bOr (bNot (v_impl_IsHeld x.2.2.2.2.1)) (bOr (iLt x.2.2.2.2.2.1 0) (iGt x.2.2.2.2.2.1 15)))))=true→True)∧((bOr (bNot (v_impl_IsKeymap (x.1,x.2.1))) (bOr (iGt (lLen x.2.2.1) 4) (bOr (bNot (v_impl_IsHeld x.2.2.2.2.1)) (bOr (iLt x.2.2.2.2.2.1 0) (iGt x.2.2.2.2.2.1 15)))))=false→((LoopOk (lc_impl_IsEngine_1 x) lf_impl_IsEngine_1 (lp_impl_IsEngine_1 x) 0)∧(((iLt (loopV (lc_impl_IsEngine_1 x) lf_impl_IsEngine_1 0) (lLen x.2.2.1))=true→True)∧((iLt (loopV (lc_impl_IsEngine_1 x) lf_impl_IsEngine_1 0) (lLen x.2.2.1))=false→((LoopOk (lc_impl_IsEngine_2 x) lf_impl_IsEngine_1 (lp_impl_IsEngine_2 x) 0)∧(((iLt (loopV (lc_impl_IsEngine_2 x) lf_impl_IsEngine_1 0) (lLen x.2.2.2.2.1))=true→True)∧((iLt (loopV (lc_impl_IsEngine_2 x) lf_impl_IsEngine_1 0) (lLen x.2.2.2.2.1))=false→(((iGe x.2.2.2.1 0)=true→(((2:Int)≠0)∧(((iEq (iRem x.2.2.2.1 2) 0)=true→((0:Int)≤(lLen x.2.1)))∧((iEq (iRem x.2.2.2.1 2) 0)=false→True))))∧((iGe x.2.2.2.1 0)=false→True))))))))))):=(ou_impl_IsEngine x).trans (by kernel_rfl)
end
theorem loop_two {X Y:Type} {c:X→Bool} {f:X→X} {p:X→Prop} {d:Y→Bool} {g:Y→Y} {q:Y→Prop} (R:X→Y→Prop) (m:X→Nat)
 (h:∀ x y,R x y→p x∧q y∧c x=d y∧(c x=true→R (f x) (g y)∧m (f x)<m x)) {x0:X} {y0:Y} (h0:R x0 y0) :
 LoopOk c f p x0∧LoopOk d g q y0∧R (loopV c f x0) (loopV d g y0)∧c (loopV c f x0)=false:=by
 have go:∀ (n:Nat) (x:X) (y:Y),m x<n→R x y→∃ u v,LoopTo c f p x u∧LoopTo d g q y v∧R u v∧c u=false:=by
  intro n
  induction n with
  |zero=>intro x y hm;exact absurd hm (Nat.not_lt_zero _)
  | succ n ih=>
    intro x y hm hR
    obtain⟨h1,h2,h3,h4⟩:=h x y hR
    cases hc:c x with
    |false=>exact⟨x,y,.stop h1 hc,.stop h2 (by rw[← h3];exact hc),hR,hc⟩
    | true=>
      obtain⟨h5,h6⟩:=h4 hc
      obtain⟨u,v,a1,a2,a3,a4⟩:=ih _ _ (by omega) h5
      exact⟨u,v,.go h1 hc a1,.go h2 (by rw[← h3];exact hc) a2,a3,a4⟩
 obtain⟨u,v,a1,a2,a3,a4⟩:=go _ x0 y0 (Nat.lt_succ_self _) h0
 exact⟨⟨_,a1⟩,⟨_,a2⟩,by rw[a1.val,a2.val];exact a3,by rw[a1.val];exact a4⟩
theorem scan_st{X:Type}{c:X→Bool}{f:X→X}{p:X→Prop}(n:Nat)(st:Nat→X)(t:Nat→Bool){x0:X}(h0:st 0=x0)(hc:∀ i,i≤n→(∀ j,j<i→t j=true)→c (st i)=(decide (i<n)&&t i))(hf:∀ i,i<n→(∀ j,j≤i→t j=true)→f (st i)=st (i+1))(hp:∀ i,i≤n→(∀ j,j<i→t j=true)→p (st i)) :
 LoopOk c f p x0∧∃ k,k≤n∧loopV c f x0=st k∧(k=n↔∀ i,i<n→t i=true):=by
 have hle:=firstAt_le (fun i=>!t i) n 0
 have hno:∀ j,j<firstAt (fun i=>!t i) n 0→t j=true:=fun j hj=>by
  have:=firstAt_no (fun i=>!t i) n 0 j (by omega) hj
  simpa using this
 have:=loop_for (c:=c) (f:=f) (p:=p) (firstAt (fun i=>!t i) n 0) st h0 (fun k hk=>by
  refine⟨hp k (by omega) (fun j hj=>hno j (by omega)),?_,hf k (by omega) (fun j hj=>hno j (by omega))⟩
  rw[hc k (by omega) (fun j hj=>hno j (by omega)),hno k hk]
  have:k<n:=by omega
  simp[this]) ⟨hp _ (by omega) hno,by
  rw[hc _ (by omega) hno]
  by_cases h:firstAt (fun i=>!t i) n 0<n
  · have:=firstAt_lt (fun i=>!t i) n 0 (by omega)
    simp only[Bool.not_eq_true'] at this
    rw[this];simp
  · simp[h]⟩
 refine⟨this.1,_,by omega,this.2,?_⟩
 rw[firstAt_all]
 simp
theorem shl_i64{a k:Nat}(hk:k≤64)(h:a*2^k<9223372036854775808):iShl .i64 (a:Int) (k:Int)=((a*2^k:Nat):Int):=by
 rw[iShl_u]
 show IntKind.i64.wrap ((a:Int)*2^min (k:Int).toNat 64)=_
 rw[Int.toNat_natCast,Nat.min_eq_left hk]
 have:((a:Int)*2^k)=((a*2^k:Nat):Int):=by norm_cast
 rw[this]
 exact wrap_i64 (by unfold In64;omega)
def Bytes(x:List Int):Prop:=∀ a∈x,0≤a∧a<256
theorem Bytes.get{x:List Int}(h:Bytes x)(i:Nat):∃ n:Nat,n<256∧x.getD i 0=(n:Int):=by
 by_cases hi:i<x.length
 · obtain⟨h0,h1⟩:=h _ (getD_mem x i 0 hi)
   exact⟨(x.getD i 0).toNat,by omega,by omega⟩
 · exact⟨0,by omega,by rw[List.getD_eq_getElem?_getD,List.getElem?_eq_none (by omega)];rfl⟩
theorem Bytes.of{x:List Int}(h:CT.wf (.sl (.one (.int .u8))) x):Bytes x:=by
 intro a ha
 have:=h.2 a ha
 simp only[RT.wf,CT.wf] at this
 have h:IntKind.u8.min≤a∧a≤IntKind.u8.max:=by simpa [Lit.wf] using this
 have e1:IntKind.u8.min=0:=by decide
 have e2:IntKind.u8.max=255:=by decide
 rw[e1,e2] at h
 omega
abbrev EngX:=Int×(List (List (Int×Int×Int×Int)))×(List (List (Int×Int×Int)))×Int×(List (Int×Int×Int×Int×Int))×Int×Bool
theorem scan_two{c c':Int→Bool}{f:Int→Int}{p q:Int→Prop}(n:Nat)(hn:n≤1048576)(hc:∀ i:Nat,i<n→c i=c' i)(hlt:∀ i:Nat,c i=true→i<n)(hlt':∀ i:Nat,c' i=true→i<n)(hf:∀ i,f i=iAdd .i64 i 1)(hp:∀ i:Nat,i≤n→p i∧q i) :
 LoopOk c f p 0∧LoopOk c' f q 0∧loopV c f 0=loopV c' f 0∧0≤loopV c f 0∧loopV c f 0≤n:=by
 obtain⟨b1,b2,⟨k,h1,h2,h3⟩,b4⟩:=loop_two (c:=c) (f:=f) (p:=p) (d:=c') (g:=f) (q:=q) (x0:=0) (y0:=0) (fun x y=>∃ k:Nat,k≤n∧x=k∧y=k) (fun x=>n-x.toNat) (by
  rintro x y ⟨k,hk,rfl,rfl⟩
  refine⟨(hp k hk).1,(hp k hk).2,?_,fun h=>?_⟩
  · by_cases hkn:k<n
    · exact hc k hkn
    · have e1:c (k:Int)=false:=by cases h:c (k:Int) with
       |false=>rfl
       |true=>exact absurd (hlt k h) hkn
      have e2:c' (k:Int)=false:=by cases h:c' (k:Int) with
       |false=>rfl
       |true=>exact absurd (hlt' k h) hkn
      rw[e1,e2]
  · have hkn:=hlt k h
    have e:f (k:Int)=((k+1:Nat):Int):=by rw[hf,iAdd_i64 (by unfold In64;omega)];omega
    exact⟨⟨k+1,hkn,e,e⟩,by rw[e];omega⟩) ⟨0,by omega,rfl,rfl⟩
 exact⟨b1,b2,by rw[h2,h3],by omega,by omega⟩
theorem isEngine_two(x:EngX)(hs:sm_Engine x):ok_spec_IsEngine x∧ok_impl_IsEngine x∧v_impl_IsEngine x=v_spec_IsEngine x:=by
 obtain⟨keys,layers,macros,fixed,held,once,caps⟩:=x
 have hk:sm_Keymap (keys,layers):=hs.1
 have hm:sm_StepSS macros:=hs.2.1
 have hh:sm_HeldS held:=hs.2.2.1
 obtain⟨a1,a2⟩:=ok_IsKeymap_t (keys,layers) hk
 have l1:=scan_two (c:=lc_spec_IsEngine_1 (keys,layers,macros,fixed,held,once,caps)) (c':=lc_impl_IsEngine_1 (keys,layers,macros,fixed,held,once,caps)) (f:=lf_spec_IsEngine_1) (p:=lp_spec_IsEngine_1 (keys,layers,macros,fixed,held,once,caps)) (q:=lp_impl_IsEngine_1 (keys,layers,macros,fixed,held,once,caps)) macros.length hm.1
  (fun i hi=>by
   simp only[lc_spec_IsEngine_1,lc_impl_IsEngine_1]
   rw[lGet_eq,iNat_eq,Int.toNat_natCast,isMacro_eq _ (hm.2 _ (getD_mem macros i [] hi)).1])
  (fun i h=>by simp only[lc_spec_IsEngine_1,bAnd_eq,Bool.and_eq_true,iLt_eq,lLen_eq,decide_eq_true_eq] at h;omega)
  (fun i h=>by simp only[lc_impl_IsEngine_1,bAnd_eq,Bool.and_eq_true,iLt_eq,lLen_eq,decide_eq_true_eq] at h;omega) (fun i=>rfl)
  (fun i hi=>by
   have k:(i:Int)<macros.length→ok_spec_IsMacro (lGet macros (iNat (i:Int)) [])∧ok_impl_IsMacro (lGet macros (iNat (i:Int)) []):=fun h=>by
    rw[lGet_eq,iNat_eq,Int.toNat_natCast]
    have:=(hm.2 _ (getD_mem macros i [] (by omega))).1
    exact⟨ok_specIsMacro _ this,ok_implIsMacro _ this⟩
   simp only[lp_spec_IsEngine_1,lp_impl_IsEngine_1,iLt_eq,lLen_eq,decide_eq_true_eq]
   refine⟨⟨fun h=>⟨⟨by omega,h⟩,by rw[iNat_eq];omega,(k h).1⟩,fun _=>trivial⟩,⟨fun h=>⟨⟨by omega,h⟩,by rw[iNat_eq];omega,(k h).2⟩,fun _=>trivial⟩⟩)
 have l2:=scan_two (c:=lc_spec_IsEngine_2 (keys,layers,macros,fixed,held,once,caps)) (c':=lc_impl_IsEngine_2 (keys,layers,macros,fixed,held,once,caps)) (f:=lf_spec_IsEngine_1) (p:=lp_spec_IsEngine_2 (keys,layers,macros,fixed,held,once,caps)) (q:=lp_impl_IsEngine_2 (keys,layers,macros,fixed,held,once,caps)) held.length hh.1
  (fun i hi=>rfl)
  (fun i h=>by simp only[lc_spec_IsEngine_2,bAnd_eq,Bool.and_eq_true,iLt_eq,lLen_eq,decide_eq_true_eq] at h;omega)
  (fun i h=>by simp only[lc_impl_IsEngine_2,bAnd_eq,Bool.and_eq_true,iLt_eq,lLen_eq,decide_eq_true_eq] at h;omega) (fun i=>rfl)
  (fun i hi=>by
   simp only[lp_spec_IsEngine_2,lp_impl_IsEngine_2,iLt_eq,lLen_eq,decide_eq_true_eq]
   have k:(i:Int)<held.length→iNat (i:Int)<held.length:=fun h=>by rw[iNat_eq];omega
   refine⟨⟨fun h=>⟨⟨by omega,h⟩,k h,fun _=>trivial,fun _=>⟨⟨by omega,h⟩,k h,fun _=>⟨⟨by omega,h⟩,k h⟩,fun _=>trivial⟩⟩,fun _=>trivial⟩,⟨fun h=>⟨⟨by omega,h⟩,k h⟩,fun _=>trivial⟩⟩)
 have ef:lf_impl_IsEngine_1=lf_spec_IsEngine_1:=rfl
 rw[oe_spec_IsEngine,oe_impl_IsEngine,ve_spec_IsEngine,ve_impl_IsEngine,ef]
 obtain⟨p1,p2,p3,_⟩:=l1
 obtain⟨q1,q2,q3,_⟩:=l2
 simp only[← p3,← q3,isKeymap_eq,isHeld_eq]
 have hl:(0:Int)≤lLen layers:=by rw[lLen_eq];omega
 refine⟨?_,?_,?_⟩
 · simp only[a1,ok_spec_IsHeld_t held hh.1,ok_l1In,p1,q1,hl]
   simp
 · simp only[a2,ok_impl_IsHeld_t held hh.1,p2,q2,hl]
   simp
 · cases hv:v_impl_IsKeymap (keys,layers) with
   |false=>simp[bOr_eq,bNot_eq,bAnd_eq]
   | true=>
     have hm:=isKeymap_ok hk hv
     have e1:iShl .i64 1 (lLen layers)=((2^layers.length:Nat):Int):=by
      have h2:2^layers.length≤2^4:=Nat.pow_le_pow_right (by omega) hm.l2
      rw[lLen_eq]
      have:=shl_i64 (a:=1) (k:=layers.length) (by have:=hm.l2;omega) (by omega)
      rw[Nat.one_mul] at this
      exact this
     have h2:2^layers.length≤2^4:=Nat.pow_le_pow_right (by omega) hm.l2
     generalize (2^layers.length:Nat)=M at e1 h2
     have e2:iSub .i64 (M:Int) 1=(M:Int)-1:=iSub_i64 (by unfold In64;omega)
     rw[e1,e2,l1In_eq,l1In_eq]
     generalize iLt (loopV _ _ _) (lLen macros)=A
     generalize iLt (loopV _ _ _) (lLen held)=B
     rw[Bool.eq_iff_iff]
     simp only[bOr_eq,bNot_eq,bAnd_eq,iGt_eq,iLt_eq,iGe_eq,iEq_eq,Bool.and_eq_true,Bool.or_eq_false_iff,Bool.not_eq_true',decide_eq_true_eq,decide_eq_false_iff_not,Bool.not_true]
     constructor
     · rintro⟨⟨_,h1,h3,h4,h5⟩,h6,h7,h8,h9,h10⟩
       exact⟨⟨trivial,h1,h3⟩,h6,h7,⟨h8,by omega⟩,h9,by omega,by omega⟩
     · rintro⟨⟨_,h1,h3⟩,h6,h7,⟨h8,h9⟩,h10,h11,h12⟩
       exact⟨⟨trivial,h1,h3,by omega,by omega⟩,h6,h7,h8,h10,by omega⟩
section
set_option maxRecDepth 8000
noncomputable def dc_laws_szEventS:DCode:=
 (.seq [1,0] (.region [oi 0 4 0])
 (.seq [1] (.region [om 0 5 1,
 on 1 6 0,
 oa 2 7 (.len (.t 6)),
 oa 3 8 (.bin .sub (.t 5) (.t 7)),
 om 4 1 8])
  (.seq [1] (.seq [10,1] (.region [om 0 9 1,
 oa 1 10 (.bin .lss (.t 9) (.c (.int .i64 0)))])
  (.cond (.t 10) (.seq [4] (.region [oi 0 4 (-1)])
  .ret) .skip))
  (.seq [4] (.region [om 0 11 1,
 om 1 4 11])
  .ret))))
noncomputable def df_laws_szEventS:DFun:=⟨2,12,0,true,[.tmp 4],dc_laws_szEventS⟩
noncomputable def pf_laws_szEventS:PFun:=df_laws_szEventS.er
noncomputable def f_laws_szEventS:AFun:=pf_laws_szEventS.er
@[irreducible] noncomputable def s_laws_szEventS:CallSem:=funSem f_laws_szEventS
@[irreducible] noncomputable def p_laws_szEventS:PSem:=pfunSem pf_laws_szEventS
theorem sp_laws_szEventS:SoundP s_laws_szEventS p_laws_szEventS:=by unfold s_laws_szEventS p_laws_szEventS;exact pfun_sound (f:=pf_laws_szEventS) trivial
def h_laws_szEventS:List HT:=[.one .frz (.sl (.cons (.int .i64) (.cons (.int .i64) (.one (.bool))))),.one .frz (.int .i64)]
def q_laws_szEventS:QT:=.one (.one .own (.int .i64))
@[irreducible] noncomputable def v_laws_szEventS(x:(List (Int×Int×Bool))×Int):Int:=(shut fun x=>fnV df_laws_szEventS h_laws_szEventS q_laws_szEventS x).1 x
@[irreducible] noncomputable def ok_laws_szEventS(x:(List (Int×Int×Bool))×Int):Prop:=(shut fun x=>fnOk df_laws_szEventS h_laws_szEventS q_laws_szEventS x).1 x
theorem vu_laws_szEventS (x):v_laws_szEventS x=fnV df_laws_szEventS h_laws_szEventS q_laws_szEventS x:=by unfold v_laws_szEventS;exact congrFun (shut _).2 x
theorem ou_laws_szEventS (x):ok_laws_szEventS x=fnOk df_laws_szEventS h_laws_szEventS q_laws_szEventS x:=by unfold ok_laws_szEventS;exact congrFun (shut _).2 x
noncomputable def D_laws_szEventS:DSem:=DSemOf h_laws_szEventS q_laws_szEventS ok_laws_szEventS v_laws_szEventS
theorem ck_laws_szEventS(x:(List (Int×Int×Bool))×Int):fnChk df_laws_szEventS h_laws_szEventS q_laws_szEventS x=true:=by kernel_rfl
theorem ob_laws_szEventS:AllD df_laws_szEventS.body.obs:=trivial
theorem st_laws_szEventS:fnSt df_laws_szEventS h_laws_szEventS q_laws_szEventS=true:=by kernel_rfl
theorem sd_laws_szEventS:SoundD p_laws_szEventS D_laws_szEventS:=by unfold p_laws_szEventS;exact soundD_of (f:=df_laws_szEventS) (hs:=h_laws_szEventS) (q:=q_laws_szEventS) ob_laws_szEventS st_laws_szEventS ck_laws_szEventS (fun x h=>Eq.mp (ou_laws_szEventS x) h) (fun x=>(vu_laws_szEventS x).symm)
noncomputable def dc_laws_toTiming:DCode:=
 (.seq [2,1] (.region [oa 0 1 (.boxB 0 3 (.t 0)),
 oa 1 2 (.allocB 1 [(.int .i64 0),(.int .i64 0),(.int .i64 0)])])
  (.seq [3,2,1] (.region [oa 0 3 (.allocB 2 [(.int .i64 0),(.int .i64 0),(.int .i64 0)])])
  (.seq [3,2,1] (.region [oa 0 4 (.fieldA 0 (.t 1)),
 ob 1 5 (.loadB 0 none (.t 4)),
 oa 2 6 (.fieldA 0 (.t 3)),
 os 3 (.storeB 2 1 (.t 6) (.t 5))])
  (.seq [3,2,1] (.region [oa 0 7 (.fieldA 1 (.t 1)),
 ob 1 8 (.loadB 0 none (.t 7)),
 oa 2 9 (.fieldA 1 (.t 3)),
 os 3 (.storeB 2 1 (.t 9) (.t 8))])
  (.seq [3,2] (.region [oa 0 10 (.fieldA 2 (.t 1)),
 ob 1 11 (.loadB 0 none (.t 10)),
 oa 2 12 (.fieldA 2 (.t 3)),
 os 3 (.storeB 2 1 (.t 12) (.t 11))])
  (.seq [2] (.region [ob 0 13 (.loadB 2 (some 3) (.t 3)),
 os 1 (.storeB 1 3 (.t 2) (.t 13))])
  .ret))))))
noncomputable def df_laws_toTiming:DFun:=⟨1,14,3,true,[.cell 2 (some 3)],dc_laws_toTiming⟩
noncomputable def pf_laws_toTiming:PFun:=df_laws_toTiming.er
noncomputable def f_laws_toTiming:AFun:=pf_laws_toTiming.er
@[irreducible] noncomputable def s_laws_toTiming:CallSem:=funSem f_laws_toTiming
@[irreducible] noncomputable def p_laws_toTiming:PSem:=pfunSem pf_laws_toTiming
theorem sp_laws_toTiming:SoundP s_laws_toTiming p_laws_toTiming:=by unfold s_laws_toTiming p_laws_toTiming;exact pfun_sound (f:=pf_laws_toTiming) trivial
def h_laws_toTiming:List HT:=[.agg [(.frz,.int .i64),(.frz,.int .i64),(.frz,.int .i64)]]
def q_laws_toTiming:QT:=.one (.agg [(.own,.int .i64),(.own,.int .i64),(.own,.int .i64)])
@[irreducible] noncomputable def v_laws_toTiming(x:Int×Int×Int):Int×Int×Int:=(shut fun x=>fnV df_laws_toTiming h_laws_toTiming q_laws_toTiming x).1 x
@[irreducible] noncomputable def ok_laws_toTiming(x:Int×Int×Int):Prop:=(shut fun x=>fnOk df_laws_toTiming h_laws_toTiming q_laws_toTiming x).1 x
theorem vu_laws_toTiming (x):v_laws_toTiming x=fnV df_laws_toTiming h_laws_toTiming q_laws_toTiming x:=by unfold v_laws_toTiming;exact congrFun (shut _).2 x
theorem ou_laws_toTiming (x):ok_laws_toTiming x=fnOk df_laws_toTiming h_laws_toTiming q_laws_toTiming x:=by unfold ok_laws_toTiming;exact congrFun (shut _).2 x
noncomputable def D_laws_toTiming:DSem:=DSemOf h_laws_toTiming q_laws_toTiming ok_laws_toTiming v_laws_toTiming
theorem ck_laws_toTiming(x:Int×Int×Int):fnChk df_laws_toTiming h_laws_toTiming q_laws_toTiming x=true:=by kernel_rfl
theorem ob_laws_toTiming:AllD df_laws_toTiming.body.obs:=trivial
theorem st_laws_toTiming:fnSt df_laws_toTiming h_laws_toTiming q_laws_toTiming=true:=by kernel_rfl
theorem sd_laws_toTiming:SoundD p_laws_toTiming D_laws_toTiming:=by unfold p_laws_toTiming;exact soundD_of (f:=df_laws_toTiming) (hs:=h_laws_toTiming) (q:=q_laws_toTiming) ob_laws_toTiming st_laws_toTiming ck_laws_toTiming (fun x h=>Eq.mp (ou_laws_toTiming x) h) (fun x=>(vu_laws_toTiming x).symm)
noncomputable def dc_laws_toEvent:DCode:=
 (.seq [2,1] (.region [oa 0 1 (.boxB 0 3 (.t 0)),
 oa 1 2 (.allocB 1 [(.int .i64 0),(.int .i64 0),(.bool false)])])
  (.seq [3,2,1] (.region [oa 0 3 (.allocB 2 [(.int .i64 0),(.int .i64 0),(.bool false)])])
  (.seq [3,2,1] (.region [oa 0 4 (.fieldA 0 (.t 1)),
 ob 1 5 (.loadB 0 none (.t 4)),
 oa 2 6 (.fieldA 0 (.t 3)),
 os 3 (.storeB 2 1 (.t 6) (.t 5))])
  (.seq [3,2,1] (.region [oa 0 7 (.fieldA 1 (.t 1)),
 ob 1 8 (.loadB 0 none (.t 7)),
 oa 2 9 (.fieldA 1 (.t 3)),
 os 3 (.storeB 2 1 (.t 9) (.t 8))])
  (.seq [3,2] (.region [oa 0 10 (.fieldA 2 (.t 1)),
 ob 1 11 (.loadB 0 none (.t 10)),
 oa 2 12 (.fieldA 2 (.t 3)),
 os 3 (.storeB 2 1 (.t 12) (.t 11))])
  (.seq [2] (.region [ob 0 13 (.loadB 2 (some 3) (.t 3)),
 os 1 (.storeB 1 3 (.t 2) (.t 13))])
  .ret))))))
noncomputable def df_laws_toEvent:DFun:=⟨1,14,3,true,[.cell 2 (some 3)],dc_laws_toEvent⟩
noncomputable def pf_laws_toEvent:PFun:=df_laws_toEvent.er
noncomputable def f_laws_toEvent:AFun:=pf_laws_toEvent.er
@[irreducible] noncomputable def s_laws_toEvent:CallSem:=funSem f_laws_toEvent
@[irreducible] noncomputable def p_laws_toEvent:PSem:=pfunSem pf_laws_toEvent
theorem sp_laws_toEvent:SoundP s_laws_toEvent p_laws_toEvent:=by unfold s_laws_toEvent p_laws_toEvent;exact pfun_sound (f:=pf_laws_toEvent) trivial
def h_laws_toEvent:List HT:=[.agg [(.frz,.int .i64),(.frz,.int .i64),(.frz,.bool)]]
def q_laws_toEvent:QT:=.one (.agg [(.own,.int .i64),(.own,.int .i64),(.own,.bool)])
@[irreducible] noncomputable def v_laws_toEvent(x:Int×Int×Bool):Int×Int×Bool:=(shut fun x=>fnV df_laws_toEvent h_laws_toEvent q_laws_toEvent x).1 x
@[irreducible] noncomputable def ok_laws_toEvent(x:Int×Int×Bool):Prop:=(shut fun x=>fnOk df_laws_toEvent h_laws_toEvent q_laws_toEvent x).1 x
theorem vu_laws_toEvent (x):v_laws_toEvent x=fnV df_laws_toEvent h_laws_toEvent q_laws_toEvent x:=by unfold v_laws_toEvent;exact congrFun (shut _).2 x
theorem ou_laws_toEvent (x):ok_laws_toEvent x=fnOk df_laws_toEvent h_laws_toEvent q_laws_toEvent x:=by unfold ok_laws_toEvent;exact congrFun (shut _).2 x
noncomputable def D_laws_toEvent:DSem:=DSemOf h_laws_toEvent q_laws_toEvent ok_laws_toEvent v_laws_toEvent
theorem ck_laws_toEvent(x:Int×Int×Bool):fnChk df_laws_toEvent h_laws_toEvent q_laws_toEvent x=true:=by kernel_rfl
theorem ob_laws_toEvent:AllD df_laws_toEvent.body.obs:=trivial
theorem st_laws_toEvent:fnSt df_laws_toEvent h_laws_toEvent q_laws_toEvent=true:=by kernel_rfl
theorem sd_laws_toEvent:SoundD p_laws_toEvent D_laws_toEvent:=by unfold p_laws_toEvent;exact soundD_of (f:=df_laws_toEvent) (hs:=h_laws_toEvent) (q:=q_laws_toEvent) ob_laws_toEvent st_laws_toEvent ck_laws_toEvent (fun x h=>Eq.mp (ou_laws_toEvent x) h) (fun x=>(vu_laws_toEvent x).symm)
noncomputable def dc_laws_toEventS:DCode:=
 (.seq [0] (.region [oa 0 2 (.mv (.c .nils))])
 (.seq [3,0] (.region [on 0 5 0,
 oa 1 6 (.len (.t 5)),
 ⟨2,some 7,.a false (.mkSlice 3 [(.int .i64 0),(.int .i64 0),(.bool false)] (.t 6)) (some (.cons (.int .i64) (.cons (.int .i64) (.one (.bool))))),none,[]⟩,
 om 3 3 7])
  (.seq [3] (.seq [4,3,0] (.region [oi 0 4 0])
  (.block 0 (.loop [0,3,4] 1 (.seq [4,3,0] (.seq [11,4,3,0] (.region [om 0 8 4,
 on 1 9 0,
 oa 2 10 (.len (.t 9)),
 oa 3 11 (.bin .lss (.t 8) (.t 10))])
  (.cond (.t 11) .skip (.exit 0)))
  (.seq [4,3,0] (.block 1 (.region [on 0 14 3,
 om 1 15 4,
 on 2 16 0,
 om 3 17 4,
 oa 4 18 (.indexA 3 (.t 16) (.t 17)),
 oa 5 19 (.loadH (some 3) (.t 18)),
 oc 6 20 s_laws_toEvent p_laws_toEvent D_laws_toEvent [(.t 19)],
 oa 7 21 (.indexA 3 (.t 14) (.t 15)),
 os 8 (.storeH 3 (.t 21) (.t 20))]))
  (.region [om 0 12 4,
 oa 1 13 (.bin .add (.t 12) (.c (.int .i64 1))),
 om 2 4 13]))))))
  (.seq [2] (.region [om 0 22 3,
 om 1 2 22])
  .ret))))
noncomputable def df_laws_toEventS:DFun:=⟨1,23,0,false,[.tmp 2],dc_laws_toEventS⟩
noncomputable def pf_laws_toEventS:PFun:=df_laws_toEventS.er
noncomputable def f_laws_toEventS:AFun:=pf_laws_toEventS.er
@[irreducible] noncomputable def s_laws_toEventS:CallSem:=funSem f_laws_toEventS
@[irreducible] noncomputable def p_laws_toEventS:PSem:=pfunSem pf_laws_toEventS
theorem sp_laws_toEventS:SoundP s_laws_toEventS p_laws_toEventS:=by unfold s_laws_toEventS p_laws_toEventS;exact pfun_sound (f:=pf_laws_toEventS) ⟨sp_laws_toEvent,trivial⟩
def h_laws_toEventS:List HT:=[.one .frz (.sl (.cons (.int .i64) (.cons (.int .i64) (.one (.bool)))))]
def q_laws_toEventS:QT:=.one (.one .own (.sl (.cons (.int .i64) (.cons (.int .i64) (.one (.bool))))))
@[irreducible] noncomputable def v_laws_toEventS(x:List (Int×Int×Bool)):List (Int×Int×Bool):=(shut fun x=>fnV df_laws_toEventS h_laws_toEventS q_laws_toEventS x).1 x
@[irreducible] noncomputable def ok_laws_toEventS(x:List (Int×Int×Bool)):Prop:=(shut fun x=>fnOk df_laws_toEventS h_laws_toEventS q_laws_toEventS x).1 x
theorem vu_laws_toEventS (x):v_laws_toEventS x=fnV df_laws_toEventS h_laws_toEventS q_laws_toEventS x:=by unfold v_laws_toEventS;exact congrFun (shut _).2 x
theorem ou_laws_toEventS (x):ok_laws_toEventS x=fnOk df_laws_toEventS h_laws_toEventS q_laws_toEventS x:=by unfold ok_laws_toEventS;exact congrFun (shut _).2 x
noncomputable def D_laws_toEventS:DSem:=DSemOf h_laws_toEventS q_laws_toEventS ok_laws_toEventS v_laws_toEventS
theorem ck_laws_toEventS(x:List (Int×Int×Bool)):fnChk df_laws_toEventS h_laws_toEventS q_laws_toEventS x=true:=by kernel_rfl
theorem ob_laws_toEventS:AllD df_laws_toEventS.body.obs:=⟨sd_laws_toEvent,trivial⟩
theorem st_laws_toEventS:fnSt df_laws_toEventS h_laws_toEventS q_laws_toEventS=true:=by kernel_rfl
theorem sd_laws_toEventS:SoundD p_laws_toEventS D_laws_toEventS:=by unfold p_laws_toEventS;exact soundD_of (f:=df_laws_toEventS) (hs:=h_laws_toEventS) (q:=q_laws_toEventS) ob_laws_toEventS st_laws_toEventS ck_laws_toEventS (fun x h=>Eq.mp (ou_laws_toEventS x) h) (fun x=>(vu_laws_toEventS x).symm)
noncomputable def dc_spec_IsTiming:DCode:=
 (.seq [1] (.region [oa 0 1 (.boxB 0 3 (.t 0)),
 oa 1 2 (.mv (.c (.bool false)))])
  (.seq [2] (.region [oa 0 3 (.fieldA 0 (.t 1)),
 oa 1 4 (.loadB 0 none (.t 3)),
 oc 2 5 s_spec_l1In p_spec_l1In D_spec_l1In [(.t 4),(.c (.int .i64 1)),(.c (.int .i64 1000))],
 om 3 6 5,
 og 4 7 (.fieldA 1 (.t 1)) 6 true,
 og 5 8 (.loadB 0 none (.t 7)) 6 true,
 ⟨6,some 9,.call false s_spec_l1In p_spec_l1In D_spec_l1In [(.t 8),(.c (.int .i64 0)),(.c (.int .i64 1000))],(some (6,true)),[]⟩,
 oa 7 10 (.pick (.t 6) (.t 9) (.c (.bool false))),
 om 8 11 10,
 og 9 12 (.fieldA 2 (.t 1)) 11 true,
 og 10 13 (.loadB 0 none (.t 12)) 11 true,
 ⟨11,some 14,.call false s_spec_l1In p_spec_l1In D_spec_l1In [(.t 13),(.c (.int .i64 0)),(.c (.int .i64 2))],(some (11,true)),[]⟩,
 oa 12 15 (.pick (.t 11) (.t 14) (.c (.bool false))),
 om 13 2 15])
  .ret))
noncomputable def df_spec_IsTiming:DFun:=⟨1,16,1,true,[.tmp 2],dc_spec_IsTiming⟩
noncomputable def pf_spec_IsTiming:PFun:=df_spec_IsTiming.er
noncomputable def f_spec_IsTiming:AFun:=pf_spec_IsTiming.er
@[irreducible] noncomputable def s_spec_IsTiming:CallSem:=funSem f_spec_IsTiming
@[irreducible] noncomputable def p_spec_IsTiming:PSem:=pfunSem pf_spec_IsTiming
theorem sp_spec_IsTiming:SoundP s_spec_IsTiming p_spec_IsTiming:=by unfold s_spec_IsTiming p_spec_IsTiming;exact pfun_sound (f:=pf_spec_IsTiming) ⟨sp_spec_l1In,sp_spec_l1In,sp_spec_l1In,trivial⟩
def h_spec_IsTiming:List HT:=[.agg [(.frz,.int .i64),(.frz,.int .i64),(.frz,.int .i64)]]
def q_spec_IsTiming:QT:=.one (.one .own (.bool))
@[irreducible] noncomputable def v_spec_IsTiming(x:Int×Int×Int):Bool:=(shut fun x=>fnV df_spec_IsTiming h_spec_IsTiming q_spec_IsTiming x).1 x
@[irreducible] noncomputable def ok_spec_IsTiming(x:Int×Int×Int):Prop:=(shut fun x=>fnOk df_spec_IsTiming h_spec_IsTiming q_spec_IsTiming x).1 x
theorem vu_spec_IsTiming (x):v_spec_IsTiming x=fnV df_spec_IsTiming h_spec_IsTiming q_spec_IsTiming x:=by unfold v_spec_IsTiming;exact congrFun (shut _).2 x
theorem ou_spec_IsTiming (x):ok_spec_IsTiming x=fnOk df_spec_IsTiming h_spec_IsTiming q_spec_IsTiming x:=by unfold ok_spec_IsTiming;exact congrFun (shut _).2 x
noncomputable def D_spec_IsTiming:DSem:=DSemOf h_spec_IsTiming q_spec_IsTiming ok_spec_IsTiming v_spec_IsTiming
theorem ck_spec_IsTiming(x:Int×Int×Int):fnChk df_spec_IsTiming h_spec_IsTiming q_spec_IsTiming x=true:=by kernel_rfl
theorem ob_spec_IsTiming:AllD df_spec_IsTiming.body.obs:=⟨sd_spec_l1In,sd_spec_l1In,sd_spec_l1In,trivial⟩
theorem st_spec_IsTiming:fnSt df_spec_IsTiming h_spec_IsTiming q_spec_IsTiming=true:=by kernel_rfl
theorem sd_spec_IsTiming:SoundD p_spec_IsTiming D_spec_IsTiming:=by unfold p_spec_IsTiming;exact soundD_of (f:=df_spec_IsTiming) (hs:=h_spec_IsTiming) (q:=q_spec_IsTiming) ob_spec_IsTiming st_spec_IsTiming ck_spec_IsTiming (fun x h=>Eq.mp (ou_spec_IsTiming x) h) (fun x=>(vu_spec_IsTiming x).symm)
noncomputable def dc_spec_IsEvent:DCode:=
 (.seq [1] (.region [oa 0 1 (.boxB 0 3 (.t 0)),
 oa 1 2 (.mv (.c (.bool false)))])
  (.seq [2] (.region [oa 0 3 (.fieldA 0 (.t 1)),
 oa 1 4 (.loadB 0 none (.t 3)),
 oc 2 5 s_spec_l1In p_spec_l1In D_spec_l1In [(.t 4),(.c (.int .i64 0)),(.c (.int .i64 1000000))],
 om 3 6 5,
 og 4 7 (.fieldA 1 (.t 1)) 6 true,
 og 5 8 (.loadB 0 none (.t 7)) 6 true,
 ⟨6,some 9,.call false s_spec_l1In p_spec_l1In D_spec_l1In [(.t 8),(.c (.int .i64 0)),(.c (.int .i64 31))],(some (6,true)),[]⟩,
 oa 7 10 (.pick (.t 6) (.t 9) (.c (.bool false))),
 om 8 2 10])
  .ret))
noncomputable def df_spec_IsEvent:DFun:=⟨1,11,1,true,[.tmp 2],dc_spec_IsEvent⟩
noncomputable def pf_spec_IsEvent:PFun:=df_spec_IsEvent.er
noncomputable def f_spec_IsEvent:AFun:=pf_spec_IsEvent.er
@[irreducible] noncomputable def s_spec_IsEvent:CallSem:=funSem f_spec_IsEvent
@[irreducible] noncomputable def p_spec_IsEvent:PSem:=pfunSem pf_spec_IsEvent
theorem sp_spec_IsEvent:SoundP s_spec_IsEvent p_spec_IsEvent:=by unfold s_spec_IsEvent p_spec_IsEvent;exact pfun_sound (f:=pf_spec_IsEvent) ⟨sp_spec_l1In,sp_spec_l1In,trivial⟩
def h_spec_IsEvent:List HT:=[.agg [(.frz,.int .i64),(.frz,.int .i64),(.frz,.bool)]]
def q_spec_IsEvent:QT:=.one (.one .own (.bool))
@[irreducible] noncomputable def v_spec_IsEvent(x:Int×Int×Bool):Bool:=(shut fun x=>fnV df_spec_IsEvent h_spec_IsEvent q_spec_IsEvent x).1 x
@[irreducible] noncomputable def ok_spec_IsEvent(x:Int×Int×Bool):Prop:=(shut fun x=>fnOk df_spec_IsEvent h_spec_IsEvent q_spec_IsEvent x).1 x
theorem vu_spec_IsEvent (x):v_spec_IsEvent x=fnV df_spec_IsEvent h_spec_IsEvent q_spec_IsEvent x:=by unfold v_spec_IsEvent;exact congrFun (shut _).2 x
theorem ou_spec_IsEvent (x):ok_spec_IsEvent x=fnOk df_spec_IsEvent h_spec_IsEvent q_spec_IsEvent x:=by unfold ok_spec_IsEvent;exact congrFun (shut _).2 x
noncomputable def D_spec_IsEvent:DSem:=DSemOf h_spec_IsEvent q_spec_IsEvent ok_spec_IsEvent v_spec_IsEvent
theorem ck_spec_IsEvent(x:Int×Int×Bool):fnChk df_spec_IsEvent h_spec_IsEvent q_spec_IsEvent x=true:=by kernel_rfl
theorem ob_spec_IsEvent:AllD df_spec_IsEvent.body.obs:=⟨sd_spec_l1In,sd_spec_l1In,trivial⟩
theorem st_spec_IsEvent:fnSt df_spec_IsEvent h_spec_IsEvent q_spec_IsEvent=true:=by kernel_rfl
theorem sd_spec_IsEvent:SoundD p_spec_IsEvent D_spec_IsEvent:=by unfold p_spec_IsEvent;exact soundD_of (f:=df_spec_IsEvent) (hs:=h_spec_IsEvent) (q:=q_spec_IsEvent) ob_spec_IsEvent st_spec_IsEvent ck_spec_IsEvent (fun x h=>Eq.mp (ou_spec_IsEvent x) h) (fun x=>(vu_spec_IsEvent x).symm)
noncomputable def dc_impl_IsTiming:DCode:=
 (.seq [1] (.region [oa 0 1 (.boxB 0 3 (.t 0)),
 oa 1 2 (.mv (.c (.bool false)))])
  (.seq [2] (.region [oa 0 3 (.fieldA 0 (.t 1)),
 oa 1 4 (.loadB 0 none (.t 3)),
 oa 2 5 (.bin .geq (.t 4) (.c (.int .i64 1))),
 om 3 6 5,
 og 4 7 (.fieldA 0 (.t 1)) 6 true,
 og 5 8 (.loadB 0 none (.t 7)) 6 true,
 og 6 9 (.bin .leq (.t 8) (.c (.int .i64 1000))) 6 true,
 oa 7 10 (.pick (.t 6) (.t 9) (.c (.bool false))),
 om 8 11 10,
 og 9 12 (.fieldA 1 (.t 1)) 11 true,
 og 10 13 (.loadB 0 none (.t 12)) 11 true,
 og 11 14 (.bin .geq (.t 13) (.c (.int .i64 0))) 11 true,
 oa 12 15 (.pick (.t 11) (.t 14) (.c (.bool false))),
 om 13 16 15,
 og 14 17 (.fieldA 1 (.t 1)) 16 true,
 og 15 18 (.loadB 0 none (.t 17)) 16 true,
 og 16 19 (.bin .leq (.t 18) (.c (.int .i64 1000))) 16 true,
 oa 17 20 (.pick (.t 16) (.t 19) (.c (.bool false))),
 om 18 21 20,
 og 19 22 (.fieldA 2 (.t 1)) 21 true,
 og 20 23 (.loadB 0 none (.t 22)) 21 true,
 og 21 24 (.bin .geq (.t 23) (.c (.int .i64 0))) 21 true,
 oa 22 25 (.pick (.t 21) (.t 24) (.c (.bool false))),
 om 23 26 25,
 og 24 27 (.fieldA 2 (.t 1)) 26 true,
 og 25 28 (.loadB 0 none (.t 27)) 26 true,
 og 26 29 (.bin .leq (.t 28) (.c (.int .i64 2))) 26 true,
 oa 27 30 (.pick (.t 26) (.t 29) (.c (.bool false))),
 om 28 2 30])
  .ret))
noncomputable def df_impl_IsTiming:DFun:=⟨1,31,1,true,[.tmp 2],dc_impl_IsTiming⟩
noncomputable def pf_impl_IsTiming:PFun:=df_impl_IsTiming.er
noncomputable def f_impl_IsTiming:AFun:=pf_impl_IsTiming.er
@[irreducible] noncomputable def s_impl_IsTiming:CallSem:=funSem f_impl_IsTiming
@[irreducible] noncomputable def p_impl_IsTiming:PSem:=pfunSem pf_impl_IsTiming
theorem sp_impl_IsTiming:SoundP s_impl_IsTiming p_impl_IsTiming:=by unfold s_impl_IsTiming p_impl_IsTiming;exact pfun_sound (f:=pf_impl_IsTiming) trivial
def h_impl_IsTiming:List HT:=[.agg [(.frz,.int .i64),(.frz,.int .i64),(.frz,.int .i64)]]
def q_impl_IsTiming:QT:=.one (.one .own (.bool))
@[irreducible] noncomputable def v_impl_IsTiming(x:Int×Int×Int):Bool:=(shut fun x=>fnV df_impl_IsTiming h_impl_IsTiming q_impl_IsTiming x).1 x
@[irreducible] noncomputable def ok_impl_IsTiming(x:Int×Int×Int):Prop:=(shut fun x=>fnOk df_impl_IsTiming h_impl_IsTiming q_impl_IsTiming x).1 x
theorem vu_impl_IsTiming (x):v_impl_IsTiming x=fnV df_impl_IsTiming h_impl_IsTiming q_impl_IsTiming x:=by unfold v_impl_IsTiming;exact congrFun (shut _).2 x
theorem ou_impl_IsTiming (x):ok_impl_IsTiming x=fnOk df_impl_IsTiming h_impl_IsTiming q_impl_IsTiming x:=by unfold ok_impl_IsTiming;exact congrFun (shut _).2 x
noncomputable def D_impl_IsTiming:DSem:=DSemOf h_impl_IsTiming q_impl_IsTiming ok_impl_IsTiming v_impl_IsTiming
theorem ck_impl_IsTiming(x:Int×Int×Int):fnChk df_impl_IsTiming h_impl_IsTiming q_impl_IsTiming x=true:=by kernel_rfl
theorem ob_impl_IsTiming:AllD df_impl_IsTiming.body.obs:=trivial
theorem st_impl_IsTiming:fnSt df_impl_IsTiming h_impl_IsTiming q_impl_IsTiming=true:=by kernel_rfl
theorem sd_impl_IsTiming:SoundD p_impl_IsTiming D_impl_IsTiming:=by unfold p_impl_IsTiming;exact soundD_of (f:=df_impl_IsTiming) (hs:=h_impl_IsTiming) (q:=q_impl_IsTiming) ob_impl_IsTiming st_impl_IsTiming ck_impl_IsTiming (fun x h=>Eq.mp (ou_impl_IsTiming x) h) (fun x=>(vu_impl_IsTiming x).symm)
noncomputable def dc_impl_IsEvent:DCode:=
 (.seq [1] (.region [oa 0 1 (.boxB 0 3 (.t 0)),
 oa 1 2 (.mv (.c (.bool false)))])
  (.seq [2] (.region [oa 0 3 (.fieldA 0 (.t 1)),
 oa 1 4 (.loadB 0 none (.t 3)),
 oa 2 5 (.bin .geq (.t 4) (.c (.int .i64 0))),
 om 3 6 5,
 og 4 7 (.fieldA 0 (.t 1)) 6 true,
 og 5 8 (.loadB 0 none (.t 7)) 6 true,
 og 6 9 (.bin .leq (.t 8) (.c (.int .i64 1000000))) 6 true,
 oa 7 10 (.pick (.t 6) (.t 9) (.c (.bool false))),
 om 8 11 10,
 og 9 12 (.fieldA 1 (.t 1)) 11 true,
 og 10 13 (.loadB 0 none (.t 12)) 11 true,
 og 11 14 (.bin .geq (.t 13) (.c (.int .i64 0))) 11 true,
 oa 12 15 (.pick (.t 11) (.t 14) (.c (.bool false))),
 om 13 16 15,
 og 14 17 (.fieldA 1 (.t 1)) 16 true,
 og 15 18 (.loadB 0 none (.t 17)) 16 true,
 og 16 19 (.bin .leq (.t 18) (.c (.int .i64 31))) 16 true,
 oa 17 20 (.pick (.t 16) (.t 19) (.c (.bool false))),
 om 18 2 20])
  .ret))
noncomputable def df_impl_IsEvent:DFun:=⟨1,21,1,true,[.tmp 2],dc_impl_IsEvent⟩
noncomputable def pf_impl_IsEvent:PFun:=df_impl_IsEvent.er
noncomputable def f_impl_IsEvent:AFun:=pf_impl_IsEvent.er
@[irreducible] noncomputable def s_impl_IsEvent:CallSem:=funSem f_impl_IsEvent
@[irreducible] noncomputable def p_impl_IsEvent:PSem:=pfunSem pf_impl_IsEvent
theorem sp_impl_IsEvent:SoundP s_impl_IsEvent p_impl_IsEvent:=by unfold s_impl_IsEvent p_impl_IsEvent;exact pfun_sound (f:=pf_impl_IsEvent) trivial
def h_impl_IsEvent:List HT:=[.agg [(.frz,.int .i64),(.frz,.int .i64),(.frz,.bool)]]
def q_impl_IsEvent:QT:=.one (.one .own (.bool))
@[irreducible] noncomputable def v_impl_IsEvent(x:Int×Int×Bool):Bool:=(shut fun x=>fnV df_impl_IsEvent h_impl_IsEvent q_impl_IsEvent x).1 x
@[irreducible] noncomputable def ok_impl_IsEvent(x:Int×Int×Bool):Prop:=(shut fun x=>fnOk df_impl_IsEvent h_impl_IsEvent q_impl_IsEvent x).1 x
theorem vu_impl_IsEvent (x):v_impl_IsEvent x=fnV df_impl_IsEvent h_impl_IsEvent q_impl_IsEvent x:=by unfold v_impl_IsEvent;exact congrFun (shut _).2 x
theorem ou_impl_IsEvent (x):ok_impl_IsEvent x=fnOk df_impl_IsEvent h_impl_IsEvent q_impl_IsEvent x:=by unfold ok_impl_IsEvent;exact congrFun (shut _).2 x
noncomputable def D_impl_IsEvent:DSem:=DSemOf h_impl_IsEvent q_impl_IsEvent ok_impl_IsEvent v_impl_IsEvent
theorem ck_impl_IsEvent(x:Int×Int×Bool):fnChk df_impl_IsEvent h_impl_IsEvent q_impl_IsEvent x=true:=by kernel_rfl
theorem ob_impl_IsEvent:AllD df_impl_IsEvent.body.obs:=trivial
theorem st_impl_IsEvent:fnSt df_impl_IsEvent h_impl_IsEvent q_impl_IsEvent=true:=by kernel_rfl
theorem sd_impl_IsEvent:SoundD p_impl_IsEvent D_impl_IsEvent:=by unfold p_impl_IsEvent;exact soundD_of (f:=df_impl_IsEvent) (hs:=h_impl_IsEvent) (q:=q_impl_IsEvent) ob_impl_IsEvent st_impl_IsEvent ck_impl_IsEvent (fun x h=>Eq.mp (ou_impl_IsEvent x) h) (fun x=>(vu_impl_IsEvent x).symm)
noncomputable def dc_laws_eqEvent:DCode:=
 (.seq [3,2] (.region [oa 0 2 (.boxB 0 3 (.t 0)),
 oa 1 3 (.boxB 1 3 (.t 1)),
 oa 2 4 (.mv (.c (.bool false)))])
  (.seq [3,2] (.seq [9,3,2] (.region [oa 0 5 (.fieldA 0 (.t 2)),
 oa 1 6 (.loadB 0 none (.t 5)),
 oa 2 7 (.fieldA 0 (.t 3)),
 oa 3 8 (.loadB 1 none (.t 7)),
 oa 4 9 (.bin .neq (.t 6) (.t 8))])
  (.cond (.t 9) (.seq [4] (.region [oa 0 4 (.mv (.c (.bool false)))])
  .ret) .skip))
  (.seq [3,2] (.seq [14,3,2] (.region [oa 0 10 (.fieldA 1 (.t 2)),
 oa 1 11 (.loadB 0 none (.t 10)),
 oa 2 12 (.fieldA 1 (.t 3)),
 oa 3 13 (.loadB 1 none (.t 12)),
 oa 4 14 (.bin .neq (.t 11) (.t 13))])
  (.cond (.t 14) (.seq [4] (.region [oa 0 4 (.mv (.c (.bool false)))])
  .ret) .skip))
  (.seq [] (.seq [19] (.region [oa 0 15 (.fieldA 2 (.t 2)),
 oa 1 16 (.loadB 0 none (.t 15)),
 oa 2 17 (.fieldA 2 (.t 3)),
 oa 3 18 (.loadB 1 none (.t 17)),
 oa 4 19 (.eqB true (.t 16) (.t 18))])
  (.cond (.t 19) (.seq [4] (.region [oa 0 4 (.mv (.c (.bool false)))])
  .ret) .skip))
  (.seq [4] (.region [oa 0 4 (.mv (.c (.bool true)))])
  .ret)))))
noncomputable def df_laws_eqEvent:DFun:=⟨2,20,2,true,[.tmp 4],dc_laws_eqEvent⟩
noncomputable def pf_laws_eqEvent:PFun:=df_laws_eqEvent.er
noncomputable def f_laws_eqEvent:AFun:=pf_laws_eqEvent.er
@[irreducible] noncomputable def s_laws_eqEvent:CallSem:=funSem f_laws_eqEvent
@[irreducible] noncomputable def p_laws_eqEvent:PSem:=pfunSem pf_laws_eqEvent
theorem sp_laws_eqEvent:SoundP s_laws_eqEvent p_laws_eqEvent:=by unfold s_laws_eqEvent p_laws_eqEvent;exact pfun_sound (f:=pf_laws_eqEvent) trivial
def h_laws_eqEvent:List HT:=[.agg [(.frz,.int .i64),(.frz,.int .i64),(.frz,.bool)],.agg [(.frz,.int .i64),(.frz,.int .i64),(.frz,.bool)]]
def q_laws_eqEvent:QT:=.one (.one .own (.bool))
@[irreducible] noncomputable def v_laws_eqEvent(x:(Int×Int×Bool)×(Int×Int×Bool)):Bool:=(shut fun x=>fnV df_laws_eqEvent h_laws_eqEvent q_laws_eqEvent x).1 x
@[irreducible] noncomputable def ok_laws_eqEvent(x:(Int×Int×Bool)×(Int×Int×Bool)):Prop:=(shut fun x=>fnOk df_laws_eqEvent h_laws_eqEvent q_laws_eqEvent x).1 x
theorem vu_laws_eqEvent (x):v_laws_eqEvent x=fnV df_laws_eqEvent h_laws_eqEvent q_laws_eqEvent x:=by unfold v_laws_eqEvent;exact congrFun (shut _).2 x
theorem ou_laws_eqEvent (x):ok_laws_eqEvent x=fnOk df_laws_eqEvent h_laws_eqEvent q_laws_eqEvent x:=by unfold ok_laws_eqEvent;exact congrFun (shut _).2 x
noncomputable def D_laws_eqEvent:DSem:=DSemOf h_laws_eqEvent q_laws_eqEvent ok_laws_eqEvent v_laws_eqEvent
theorem ck_laws_eqEvent(x:(Int×Int×Bool)×(Int×Int×Bool)):fnChk df_laws_eqEvent h_laws_eqEvent q_laws_eqEvent x=true:=by kernel_rfl
theorem ob_laws_eqEvent:AllD df_laws_eqEvent.body.obs:=trivial
theorem st_laws_eqEvent:fnSt df_laws_eqEvent h_laws_eqEvent q_laws_eqEvent=true:=by kernel_rfl
theorem sd_laws_eqEvent:SoundD p_laws_eqEvent D_laws_eqEvent:=by unfold p_laws_eqEvent;exact soundD_of (f:=df_laws_eqEvent) (hs:=h_laws_eqEvent) (q:=q_laws_eqEvent) ob_laws_eqEvent st_laws_eqEvent ck_laws_eqEvent (fun x h=>Eq.mp (ou_laws_eqEvent x) h) (fun x=>(vu_laws_eqEvent x).symm)
noncomputable def dc_laws_eqEventS:DCode:=
 (.seq [1,0] (.region [oa 0 4 (.mv (.c (.bool false)))])
 (.seq [1,0] (.seq [10,1,0] (.region [on 0 6 0,
 oa 1 7 (.len (.t 6)),
 on 2 8 1,
 oa 3 9 (.len (.t 8)),
 oa 4 10 (.bin .neq (.t 7) (.t 9))])
  (.cond (.t 10) (.seq [4] (.region [oa 0 4 (.mv (.c (.bool false)))])
  .ret) .skip))
  (.seq [] (.seq [5,1,0] (.region [oi 0 5 0])
  (.block 0 (.loop [0,1,5] 1 (.seq [5,1,0] (.seq [14,5,1,0] (.region [om 0 11 5,
 on 1 12 0,
 oa 2 13 (.len (.t 12)),
 oa 3 14 (.bin .lss (.t 11) (.t 13))])
  (.cond (.t 14) .skip (.exit 0)))
  (.seq [5,1,0] (.block 1 (.seq [26,5,1,0] (.region [on 0 17 0,
 om 1 18 5,
 xA 2 19 (.indexA 3 (.t 17) (.t 18)) (rg 2),
 xA 3 20 (.loadH (some 3) (.t 19)) (rg 3),
 on 4 21 1,
 om 5 22 5,
 xA 6 23 (.indexA 3 (.t 21) (.t 22)) [4,5],
 xA 7 24 (.loadH (some 3) (.t 23)) [4,5,6],
 xC 8 25 s_laws_eqEvent p_laws_eqEvent D_laws_eqEvent [(.t 20),(.t 24)] (rg 8),
 xA 9 26 (.un .not (.t 25)) (rg 9)])
  (.cond (.t 26) (.seq [4] (.region [oa 0 4 (.mv (.c (.bool false)))])
  .ret) .skip)))
  (.region [om 0 15 5,
 oa 1 16 (.bin .add (.t 15) (.c (.int .i64 1))),
 om 2 5 16]))))))
  (.seq [4] (.region [oa 0 4 (.mv (.c (.bool true)))])
  .ret))))
noncomputable def df_laws_eqEventS:DFun:=⟨2,27,0,true,[.tmp 4],dc_laws_eqEventS⟩
noncomputable def pf_laws_eqEventS:PFun:=df_laws_eqEventS.er
noncomputable def f_laws_eqEventS:AFun:=pf_laws_eqEventS.er
@[irreducible] noncomputable def s_laws_eqEventS:CallSem:=funSem f_laws_eqEventS
@[irreducible] noncomputable def p_laws_eqEventS:PSem:=pfunSem pf_laws_eqEventS
theorem sp_laws_eqEventS:SoundP s_laws_eqEventS p_laws_eqEventS:=by unfold s_laws_eqEventS p_laws_eqEventS;exact pfun_sound (f:=pf_laws_eqEventS) ⟨sp_laws_eqEvent,trivial⟩
def h_laws_eqEventS:List HT:=[.one .frz (.sl (.cons (.int .i64) (.cons (.int .i64) (.one (.bool))))),.one .frz (.sl (.cons (.int .i64) (.cons (.int .i64) (.one (.bool)))))]
def q_laws_eqEventS:QT:=.one (.one .own (.bool))
@[irreducible] noncomputable def v_laws_eqEventS(x:(List (Int×Int×Bool))×(List (Int×Int×Bool))):Bool:=(shut fun x=>fnV df_laws_eqEventS h_laws_eqEventS q_laws_eqEventS x).1 x
@[irreducible] noncomputable def ok_laws_eqEventS(x:(List (Int×Int×Bool))×(List (Int×Int×Bool))):Prop:=(shut fun x=>fnOk df_laws_eqEventS h_laws_eqEventS q_laws_eqEventS x).1 x
theorem vu_laws_eqEventS (x):v_laws_eqEventS x=fnV df_laws_eqEventS h_laws_eqEventS q_laws_eqEventS x:=by unfold v_laws_eqEventS;exact congrFun (shut _).2 x
theorem ou_laws_eqEventS (x):ok_laws_eqEventS x=fnOk df_laws_eqEventS h_laws_eqEventS q_laws_eqEventS x:=by unfold ok_laws_eqEventS;exact congrFun (shut _).2 x
noncomputable def D_laws_eqEventS:DSem:=DSemOf h_laws_eqEventS q_laws_eqEventS ok_laws_eqEventS v_laws_eqEventS
theorem ck_laws_eqEventS(x:(List (Int×Int×Bool))×(List (Int×Int×Bool))):fnChk df_laws_eqEventS h_laws_eqEventS q_laws_eqEventS x=true:=by kernel_rfl
theorem ob_laws_eqEventS:AllD df_laws_eqEventS.body.obs:=⟨sd_laws_eqEvent,trivial⟩
theorem st_laws_eqEventS:fnSt df_laws_eqEventS h_laws_eqEventS q_laws_eqEventS=true:=by kernel_rfl
theorem sd_laws_eqEventS:SoundD p_laws_eqEventS D_laws_eqEventS:=by unfold p_laws_eqEventS;exact soundD_of (f:=df_laws_eqEventS) (hs:=h_laws_eqEventS) (q:=q_laws_eqEventS) ob_laws_eqEventS st_laws_eqEventS ck_laws_eqEventS (fun x h=>Eq.mp (ou_laws_eqEventS x) h) (fun x=>(vu_laws_eqEventS x).symm)
end
section
set_option maxRecDepth 100000
theorem ve_laws_szEventS (x):v_laws_szEventS x=(bSel (iLt (iSub .i64 x.2 (lLen x.1)) 0) (-1) (iSub .i64 x.2 (lLen x.1))):=(vu_laws_szEventS x).trans (by kernel_rfl)
theorem oe_laws_szEventS (x):ok_laws_szEventS x=True:=(ou_laws_szEventS x).trans (by kernel_rfl)
theorem ve_laws_toTiming (x):v_laws_toTiming x=(x.1,x.2.1,x.2.2):=(vu_laws_toTiming x).trans (by kernel_rfl)
theorem oe_laws_toTiming (x):ok_laws_toTiming x=True:=(ou_laws_toTiming x).trans (by kernel_rfl)
theorem ve_laws_toEvent (x):v_laws_toEvent x=(x.1,x.2.1,x.2.2):=(vu_laws_toEvent x).trans (by kernel_rfl)
theorem oe_laws_toEvent (x):ok_laws_toEvent x=True:=(ou_laws_toEvent x).trans (by kernel_rfl)
theorem ve_laws_toEventS (x):v_laws_toEventS x=(loopV (fun(x0:((List (Int×(Int×Bool)))×Int))=>(iLt x0.2 (lLen x))) (fun(x0:((List (Int×(Int×Bool)))×Int))=>((lSet x0.1 (iNat x0.2) ((v_laws_toEvent ((lGet x (iNat x0.2) (0,0,false)).1,(lGet x (iNat x0.2) (0,0,false)).2.1,(lGet x (iNat x0.2) (0,0,false)).2.2)).1,(v_laws_toEvent ((lGet x (iNat x0.2) (0,0,false)).1,(lGet x (iNat x0.2) (0,0,false)).2.1,(lGet x (iNat x0.2) (0,0,false)).2.2)).2.1,(v_laws_toEvent ((lGet x (iNat x0.2) (0,0,false)).1,(lGet x (iNat x0.2) (0,0,false)).2.1,(lGet x (iNat x0.2) (0,0,false)).2.2)).2.2)),(iAdd .i64 x0.2 1))) ((lRep (lLen x) (0,0,false)),0)).1:=(vu_laws_toEventS x).trans (by kernel_rfl)
theorem oe_laws_toEventS (x):ok_laws_toEventS x=((((0:Int)≤(lLen x))∧(roomy ((Int.toNat (lLen x))*3)))∧(LoopOk (fun(x0:((List (Int×(Int×Bool)))×Int))=>(iLt x0.2 (lLen x))) (fun(x0:((List (Int×(Int×Bool)))×Int))=>((lSet x0.1 (iNat x0.2) ((v_laws_toEvent ((lGet x (iNat x0.2) (0,0,false)).1,(lGet x (iNat x0.2) (0,0,false)).2.1,(lGet x (iNat x0.2) (0,0,false)).2.2)).1,(v_laws_toEvent ((lGet x (iNat x0.2) (0,0,false)).1,(lGet x (iNat x0.2) (0,0,false)).2.1,(lGet x (iNat x0.2) (0,0,false)).2.2)).2.1,(v_laws_toEvent ((lGet x (iNat x0.2) (0,0,false)).1,(lGet x (iNat x0.2) (0,0,false)).2.1,(lGet x (iNat x0.2) (0,0,false)).2.2)).2.2)),(iAdd .i64 x0.2 1))) (fun(x0:((List (Int×(Int×Bool)))×Int))=>(((iLt x0.2 (lLen x))=true→((((0:Int)≤x0.2)∧(x0.2<(((List.length x):Int))))∧(((iNat x0.2)<(List.length x))∧((ok_laws_toEvent ((lGet x (iNat x0.2) (0,0,false)).1,(lGet x (iNat x0.2) (0,0,false)).2.1,(lGet x (iNat x0.2) (0,0,false)).2.2))∧((((0:Int)≤x0.2)∧(x0.2<(((List.length x0.1):Int))))∧((iNat x0.2)<(List.length x0.1)))))))∧((iLt x0.2 (lLen x))=false→True))) ((lRep (lLen x) (0,0,false)),0))):=(ou_laws_toEventS x).trans (by kernel_rfl)
theorem ve_spec_IsTiming (x):v_spec_IsTiming x=(bAnd (v_spec_l1In (x.1,1,1000)) (bAnd (v_spec_l1In (x.2.1,0,1000)) (v_spec_l1In (x.2.2,0,2)))):=(vu_spec_IsTiming x).trans (by kernel_rfl)
theorem oe_spec_IsTiming (x):ok_spec_IsTiming x=((ok_spec_l1In (x.1,1,1000))∧(((v_spec_l1In (x.1,1,1000))=true→((ok_spec_l1In (x.2.1,0,1000))∧(((v_spec_l1In (x.2.1,0,1000))=true→(ok_spec_l1In (x.2.2,0,2)))∧((v_spec_l1In (x.2.1,0,1000))=false→True))))∧((v_spec_l1In (x.1,1,1000))=false→True))):=(ou_spec_IsTiming x).trans (by kernel_rfl)
theorem ve_spec_IsEvent (x):v_spec_IsEvent x=(bAnd (v_spec_l1In (x.1,0,1000000)) (v_spec_l1In (x.2.1,0,31))):=(vu_spec_IsEvent x).trans (by kernel_rfl)
theorem oe_spec_IsEvent (x):ok_spec_IsEvent x=((ok_spec_l1In (x.1,0,1000000))∧(((v_spec_l1In (x.1,0,1000000))=true→(ok_spec_l1In (x.2.1,0,31)))∧((v_spec_l1In (x.1,0,1000000))=false→True))):=(ou_spec_IsEvent x).trans (by kernel_rfl)
theorem ve_impl_IsTiming (x):v_impl_IsTiming x=(bAnd (iGe x.1 1) (bAnd (iLe x.1 1000) (bAnd (iGe x.2.1 0) (bAnd (iLe x.2.1 1000) (bAnd (iGe x.2.2 0) (iLe x.2.2 2)))))):=(vu_impl_IsTiming x).trans (by kernel_rfl)
theorem oe_impl_IsTiming (x):ok_impl_IsTiming x=True:=(ou_impl_IsTiming x).trans (by kernel_rfl)
theorem ve_impl_IsEvent (x):v_impl_IsEvent x=(bAnd (iGe x.1 0) (bAnd (iLe x.1 1000000) (bAnd (iGe x.2.1 0) (iLe x.2.1 31)))):=(vu_impl_IsEvent x).trans (by kernel_rfl)
theorem oe_impl_IsEvent (x):ok_impl_IsEvent x=True:=(ou_impl_IsEvent x).trans (by kernel_rfl)
theorem ve_laws_eqEvent (x):v_laws_eqEvent x=(bAnd (bNot (iNe x.1.1 x.2.1)) (bAnd (bNot (iNe x.1.2.1 x.2.2.1)) (bNot (bNot (bIff x.1.2.2 x.2.2.2))))):=(vu_laws_eqEvent x).trans (by kernel_rfl)
theorem oe_laws_eqEvent (x):ok_laws_eqEvent x=True:=(ou_laws_eqEvent x).trans (by kernel_rfl)
theorem ve_laws_eqEventS (x):v_laws_eqEventS x=(bAnd (bNot (iNe (lLen x.1) (lLen x.2))) (bNot (iLt (loopV (fun(x0:Int)=>(bAnd (iLt x0 (lLen x.1)) (bNot (bNot (v_laws_eqEvent (((lGet x.1 (iNat x0) (0,0,false)).1,(lGet x.1 (iNat x0) (0,0,false)).2.1,(lGet x.1 (iNat x0) (0,0,false)).2.2),(lGet x.2 (iNat x0) (0,0,false)).1,(lGet x.2 (iNat x0) (0,0,false)).2.1,(lGet x.2 (iNat x0) (0,0,false)).2.2)))))) (fun(x0:Int)=>(iAdd .i64 x0 1)) 0) (lLen x.1)))):=(vu_laws_eqEventS x).trans (by kernel_rfl)
theorem oe_laws_eqEventS (x):ok_laws_eqEventS x=(((iNe (lLen x.1) (lLen x.2))=true→True)∧((iNe (lLen x.1) (lLen x.2))=false→(LoopOk (fun(x0:Int)=>(bAnd (iLt x0 (lLen x.1)) (bNot (bNot (v_laws_eqEvent (((lGet x.1 (iNat x0) (0,0,false)).1,(lGet x.1 (iNat x0) (0,0,false)).2.1,(lGet x.1 (iNat x0) (0,0,false)).2.2),(lGet x.2 (iNat x0) (0,0,false)).1,(lGet x.2 (iNat x0) (0,0,false)).2.1,(lGet x.2 (iNat x0) (0,0,false)).2.2)))))) (fun(x0:Int)=>(iAdd .i64 x0 1)) (fun(x0:Int)=>(((iLt x0 (lLen x.1))=true→((((0:Int)≤x0)∧(x0<(((List.length x.1):Int))))∧(((iNat x0)<(List.length x.1))∧((((0:Int)≤x0)∧(x0<(((List.length x.2):Int))))∧(((iNat x0)<(List.length x.2))∧(ok_laws_eqEvent (((lGet x.1 (iNat x0) (0,0,false)).1,(lGet x.1 (iNat x0) (0,0,false)).2.1,(lGet x.1 (iNat x0) (0,0,false)).2.2),(lGet x.2 (iNat x0) (0,0,false)).1,(lGet x.2 (iNat x0) (0,0,false)).2.1,(lGet x.2 (iNat x0) (0,0,false)).2.2)))))))∧((iLt x0 (lLen x.1))=false→True))) 0))):=(ou_laws_eqEventS x).trans (by kernel_rfl)
end
def sm_Event(_:Int×Int×Bool):Prop:=True
def wl_Event(_:Int×Int×Bool):Prop:=True
def sm_EventS(x:List (Int×Int×Bool)):Prop:=x.length≤1048576∧∀ a∈x,sm_Event a
def wl_EventS(x:List (Int×Int×Bool)):Prop:=x.length≤9223372036854775807∧∀ a∈x,wl_Event a
theorem sz_EventS(x:List (Int×Int×Bool))(hw:wl_EventS x)(l:Int)(h0:0≤l)(h1:l≤1048576):ok_laws_szEventS (x,l)∧(v_laws_szEventS (x,l)<0∨(0≤v_laws_szEventS (x,l)∧v_laws_szEventS (x,l)≤l∧sm_EventS x)):=by
 rw[oe_laws_szEventS,ve_laws_szEventS]
 have hl:x.length≤9223372036854775807:=hw.1
 have hs:iSub .i64 l (lLen x)=l-x.length:=by rw[lLen_eq];exact iSub_i64 (by unfold In64;omega)
 refine⟨trivial,?_⟩
 simp only[hs,iLt_eq,bSel_eq,decide_eq_true_eq]
 split
 · left;omega
 · right;exact⟨by omega,by omega,⟨by omega,fun a _=>by simp[sm_Event]⟩⟩
def sm_Timing(_:Int×Int×Int):Prop:=True
def wl_Timing(_:Int×Int×Int):Prop:=True
theorem to_Timing(x:Int×Int×Int)(h:sm_Timing x):ok_laws_toTiming x∧v_laws_toTiming x=x:=by
 rw[oe_laws_toTiming,ve_laws_toTiming]
 exact⟨trivial,rfl⟩
theorem to_Event(x:Int×Int×Bool)(h:sm_Event x):ok_laws_toEvent x∧v_laws_toEvent x=x:=by
 rw[oe_laws_toEvent,ve_laws_toEvent]
 exact⟨trivial,rfl⟩
theorem to_EventS(x:List (Int×Int×Bool))(h:sm_EventS x):ok_laws_toEventS x∧v_laws_toEventS x=x:=by
 rw[oe_laws_toEventS,ve_laws_toEventS]
 obtain⟨h1,h2⟩:=h
 have hY:∀ i:Nat,i<x.length→ok_laws_toEvent ((x.getD i (0,0,false)).1,(x.getD i (0,0,false)).2.1,(x.getD i (0,0,false)).2.2)∧v_laws_toEvent ((x.getD i (0,0,false)).1,(x.getD i (0,0,false)).2.1,(x.getD i (0,0,false)).2.2)=x.getD i (0,0,false):=fun i hi=>to_Event _ (h2 _ (getD_mem x i (0,0,false) hi))
 refine⟨⟨⟨by rw[lLen_eq];omega,roomy_of (by rw[lLen_eq];omega) (by rw[lLen_eq];omega) (by omega)⟩,copyg_ok x (0,0,false) (0,0,false) h1 (fun _=>rfl) (fun l i hi=>by simp only[lSet_eq,lGet_eq,iNat_eq,Int.toNat_natCast];rw[(hY i hi).2]) (fun l i hl hi=>?_)⟩,copyg_v x (0,0,false) (0,0,false) h1 (fun _=>rfl) (fun l i hi=>by simp only[lSet_eq,lGet_eq,iNat_eq,Int.toNat_natCast];rw[(hY i hi).2])⟩
 simp only[iLt_eq,lLen_eq,iNat_eq,lGet_eq,decide_eq_true_eq,Int.toNat_natCast]
 exact⟨fun hh=>⟨by omega,by omega,(hY i (by omega)).1,by omega,by omega⟩,fun _=>trivial⟩
theorem eq_Event(a b:Int×Int×Bool)(h:sm_Event a):ok_laws_eqEvent (a,b)∧(v_laws_eqEvent (a,b)=true↔a=b):=by
 obtain⟨a0,a1,a2⟩:=a
 obtain⟨b0,b1,b2⟩:=b
 rw[oe_laws_eqEvent,ve_laws_eqEvent]
 refine⟨by simp,?_⟩
 simp only[bNot_eq,bAnd_eq,bIff_eq,iNe_eq,Bool.and_eq_true,Bool.not_not,decide_eq_true_eq,Prod.mk.injEq,beq_iff_eq]
 try (constructor<;>intro h<;>simp_all)
theorem eq_EventS(a b:List (Int×Int×Bool))(h:sm_EventS a):ok_laws_eqEventS (a,b)∧(v_laws_eqEventS (a,b)=true↔a=b):=by
 rw[oe_laws_eqEventS,ve_laws_eqEventS]
 obtain⟨h1,h2⟩:=h
 have hY:∀ i:Nat,i<a.length→ok_laws_eqEvent (((lGet a i (0,0,false)).1,(lGet a i (0,0,false)).2.1,(lGet a i (0,0,false)).2.2),((lGet b i (0,0,false)).1,(lGet b i (0,0,false)).2.1,(lGet b i (0,0,false)).2.2))∧(v_laws_eqEvent (((lGet a i (0,0,false)).1,(lGet a i (0,0,false)).2.1,(lGet a i (0,0,false)).2.2),((lGet b i (0,0,false)).1,(lGet b i (0,0,false)).2.1,(lGet b i (0,0,false)).2.2))=true↔a.getD i (0,0,false)=b.getD i (0,0,false)):=fun i hi=>by
  have:=eq_Event (a.getD i (0,0,false)) (b.getD i (0,0,false)) (h2 _ (getD_mem a i (0,0,false) hi))
  rw[lGet_eq,lGet_eq];exact this
 by_cases hl:a.length=b.length
 · refine⟨⟨fun _=>trivial,fun _=>eq_ok a b (0,0,false) (fun i=>bNot (v_laws_eqEvent (((lGet a i (0,0,false)).1,(lGet a i (0,0,false)).2.1,(lGet a i (0,0,false)).2.2),((lGet b i (0,0,false)).1,(lGet b i (0,0,false)).2.1,(lGet b i (0,0,false)).2.2)))) hl (fun i hi=>by simp only[bNot_eq,Bool.not_eq_false',(hY i hi).2]) (by omega) (fun i hi=>by simp only[bAnd_eq,iLt_eq,lLen_eq,iNat_eq,bNot_eq,Int.toNat_natCast,Int.ofNat_lt]) (fun i hi=>rfl) (fun i hi=>?_)⟩,?_⟩
   · simp only[iLt_eq,lLen_eq,iNat_eq,decide_eq_true_eq,Int.toNat_natCast]
     exact⟨fun hh=>⟨by omega,by omega,by omega,by omega,(hY i (by omega)).1⟩,fun _=>trivial⟩
   · have hv:=eq_v (c:=fun i:Int=>bAnd (iLt i (lLen a)) (bNot ((fun i=>bNot (v_laws_eqEvent (((lGet a i (0,0,false)).1,(lGet a i (0,0,false)).2.1,(lGet a i (0,0,false)).2.2),((lGet b i (0,0,false)).1,(lGet b i (0,0,false)).2.1,(lGet b i (0,0,false)).2.2)))) i.toNat))) (f:=fun i=>iAdd .i64 i 1) a b (0,0,false) (fun i=>bNot (v_laws_eqEvent (((lGet a i (0,0,false)).1,(lGet a i (0,0,false)).2.1,(lGet a i (0,0,false)).2.2),((lGet b i (0,0,false)).1,(lGet b i (0,0,false)).2.1,(lGet b i (0,0,false)).2.2)))) hl (fun i hi=>by simp only[bNot_eq,Bool.not_eq_false',(hY i hi).2]) (by omega) (fun i hi=>by simp only[bAnd_eq,iLt_eq,lLen_eq,bNot_eq,Int.toNat_natCast,Int.ofNat_lt]) (fun i hi=>rfl)
     have e1:bNot (iNe (lLen a) (lLen b))=true:=by rw[bNot_eq,iNe_eq,lLen_eq,lLen_eq,hl];simp
     rw[e1,bAnd_eq true,Bool.true_and,bNot_eq (iLt _ (lLen a)),iLt_eq _ (lLen a)]
     simp only[← iNat_eq,lLen_eq] at hv ⊢
     simp only[Bool.not_eq_true',decide_eq_false_iff_not]
     rw[hv];simp
 · have e1:bNot (iNe (lLen a) (lLen b))=false:=by rw[bNot_eq,iNe_eq,lLen_eq,lLen_eq];simp;omega
   refine⟨⟨fun _=>trivial,fun h=>?_⟩,?_⟩
   · rw[bNot_eq] at e1;rw[h] at e1;cases e1
   · rw[e1,bAnd_eq,Bool.false_and];constructor
     · intro h;cases h
     · intro e;subst e;exact absurd rfl hl
theorem isTiming_eq(x:Int×Int×Int):v_spec_IsTiming x=v_impl_IsTiming x:=by
 rw[ve_spec_IsTiming,ve_impl_IsTiming];simp only[ve_spec_l1In,bAnd_eq,Bool.and_assoc]
theorem isEvent_eq(x:Int×Int×Bool):v_spec_IsEvent x=v_impl_IsEvent x:=by
 rw[ve_spec_IsEvent,ve_impl_IsEvent];simp only[ve_spec_l1In,bAnd_eq,Bool.and_assoc]
theorem ok_isTiming(x:Int×Int×Int):ok_spec_IsTiming x∧ok_impl_IsTiming x:=by
 rw[oe_spec_IsTiming,oe_impl_IsTiming];simp[oe_spec_l1In]
theorem ok_isEvent(x:Int×Int×Bool):ok_spec_IsEvent x∧ok_impl_IsEvent x:=by
 rw[oe_spec_IsEvent,oe_impl_IsEvent];simp[oe_spec_l1In]
section
set_option maxRecDepth 8000
noncomputable def dc_laws_szDecider:DCode:=
 (.seq [2,1] (.region [oa 0 2 (.boxB 0 15 (.t 0)),
 oi 1 4 0])
  (.seq [2,1] (.region [oa 0 5 (.fieldA 0 (.t 2)),
 oa 1 6 (.loadB 0 (some 7) (.t 5)),
 om 2 7 1,
 oc 3 8 s_laws_szEngine p_laws_szEngine D_laws_szEngine [(.t 6),(.t 7)],
 om 4 1 8])
  (.seq [2,1] (.seq [10,2,1] (.region [om 0 9 1,
 oa 1 10 (.bin .lss (.t 9) (.c (.int .i64 0)))])
  (.cond (.t 10) (.seq [4] (.region [oi 0 4 (-1)])
  .ret) .skip))
  (.seq [1] (.region [oa 0 11 (.fieldA 10 (.t 2)),
 oa 1 12 (.loadB 0 none (.t 11)),
 om 2 13 1,
 oc 3 14 s_laws_szEventS p_laws_szEventS D_laws_szEventS [(.t 12),(.t 13)],
 om 4 1 14])
  (.seq [1] (.seq [16,1] (.region [om 0 15 1,
 oa 1 16 (.bin .lss (.t 15) (.c (.int .i64 0)))])
  (.cond (.t 16) (.seq [4] (.region [oi 0 4 (-1)])
  .ret) .skip))
  (.seq [4] (.region [om 0 17 1,
 om 1 4 17])
  .ret))))))
noncomputable def df_laws_szDecider:DFun:=⟨2,18,1,true,[.tmp 4],dc_laws_szDecider⟩
noncomputable def pf_laws_szDecider:PFun:=df_laws_szDecider.er
noncomputable def f_laws_szDecider:AFun:=pf_laws_szDecider.er
@[irreducible] noncomputable def s_laws_szDecider:CallSem:=funSem f_laws_szDecider
@[irreducible] noncomputable def p_laws_szDecider:PSem:=pfunSem pf_laws_szDecider
theorem sp_laws_szDecider:SoundP s_laws_szDecider p_laws_szDecider:=by unfold s_laws_szDecider p_laws_szDecider;exact pfun_sound (f:=pf_laws_szDecider) ⟨sp_laws_szEngine,sp_laws_szEventS,trivial⟩
def h_laws_szDecider:List HT:=[.agg [(.frz,.int .i64),(.frz,.sl (.one (.sl rI4))),(.frz,.sl (.one (.sl rI3))),(.frz,.int .i64),(.frz,.sl rI5),(.frz,.int .i64),(.frz,.bool),(.frz,.int .i64),(.frz,.int .i64),(.frz,.int .i64),(.frz,.sl (.cons (.int .i64) (.cons (.int .i64) (.one (.bool))))),(.frz,.int .i64),(.frz,.int .i64),(.frz,.int .i64),(.frz,.int .i64)],.one .frz (.int .i64)]
def q_laws_szDecider:QT:=.one (.one .own (.int .i64))
@[irreducible] noncomputable def v_laws_szDecider(x:(Int×(List (List (Int×Int×Int×Int)))×(List (List (Int×Int×Int)))×Int×(List (Int×Int×Int×Int×Int))×Int×Bool×Int×Int×Int×(List (Int×Int×Bool))×Int×Int×Int×Int)×Int):Int:=(shut fun x=>fnV df_laws_szDecider h_laws_szDecider q_laws_szDecider x).1 x
@[irreducible] noncomputable def ok_laws_szDecider(x:(Int×(List (List (Int×Int×Int×Int)))×(List (List (Int×Int×Int)))×Int×(List (Int×Int×Int×Int×Int))×Int×Bool×Int×Int×Int×(List (Int×Int×Bool))×Int×Int×Int×Int)×Int):Prop:=(shut fun x=>fnOk df_laws_szDecider h_laws_szDecider q_laws_szDecider x).1 x
theorem vu_laws_szDecider (x):v_laws_szDecider x=fnV df_laws_szDecider h_laws_szDecider q_laws_szDecider x:=by unfold v_laws_szDecider;exact congrFun (shut _).2 x
theorem ou_laws_szDecider (x):ok_laws_szDecider x=fnOk df_laws_szDecider h_laws_szDecider q_laws_szDecider x:=by unfold ok_laws_szDecider;exact congrFun (shut _).2 x
noncomputable def D_laws_szDecider:DSem:=DSemOf h_laws_szDecider q_laws_szDecider ok_laws_szDecider v_laws_szDecider
theorem ck_laws_szDecider(x:(Int×(List (List (Int×Int×Int×Int)))×(List (List (Int×Int×Int)))×Int×(List (Int×Int×Int×Int×Int))×Int×Bool×Int×Int×Int×(List (Int×Int×Bool))×Int×Int×Int×Int)×Int):fnChk df_laws_szDecider h_laws_szDecider q_laws_szDecider x=true:=by kernel_rfl
theorem ob_laws_szDecider:AllD df_laws_szDecider.body.obs:=⟨sd_laws_szEngine,sd_laws_szEventS,trivial⟩
theorem st_laws_szDecider:fnSt df_laws_szDecider h_laws_szDecider q_laws_szDecider=true:=by kernel_rfl
theorem sd_laws_szDecider:SoundD p_laws_szDecider D_laws_szDecider:=by unfold p_laws_szDecider;exact soundD_of (f:=df_laws_szDecider) (hs:=h_laws_szDecider) (q:=q_laws_szDecider) ob_laws_szDecider st_laws_szDecider ck_laws_szDecider (fun x h=>Eq.mp (ou_laws_szDecider x) h) (fun x=>(vu_laws_szDecider x).symm)
noncomputable def dc_laws_toDecider:DCode:=
 (.seq [2,1] (.region [oa 0 1 (.boxB 0 15 (.t 0)),
 oa 1 2 (.allocB 1 [(.int .i64 0),.nils,.nils,(.int .i64 0),.nils,(.int .i64 0),(.bool false),(.int .i64 0),(.int .i64 0),(.int .i64 0),.nils,(.int .i64 0),(.int .i64 0),(.int .i64 0),(.int .i64 0)])])
  (.seq [3,2,1] (.region [oa 0 3 (.allocB 2 [(.int .i64 0),.nils,.nils,(.int .i64 0),.nils,(.int .i64 0),(.bool false),(.int .i64 0),(.int .i64 0),(.int .i64 0),.nils,(.int .i64 0),(.int .i64 0),(.int .i64 0),(.int .i64 0)])])
  (.seq [3,2,1] (.region [oa 0 4 (.fieldA 0 (.t 1)),
 oa 1 5 (.loadB 0 (some 7) (.t 4)),
 oc 2 6 s_laws_toEngine p_laws_toEngine D_laws_toEngine [(.t 5)],
 oa 3 7 (.fieldA 0 (.t 3)),
 os 4 (.storeB 2 7 (.t 7) (.t 6))])
  (.seq [3,2,1] (.region [oa 0 8 (.fieldA 7 (.t 1)),
 oa 1 9 (.loadB 0 (some 3) (.t 8)),
 oc 2 10 s_laws_toTiming p_laws_toTiming D_laws_toTiming [(.t 9)],
 oa 3 11 (.fieldA 7 (.t 3)),
 os 4 (.storeB 2 3 (.t 11) (.t 10))])
  (.seq [3,2,1] (.region [oa 0 12 (.fieldA 10 (.t 1)),
 oa 1 13 (.loadB 0 none (.t 12)),
 oc 2 14 s_laws_toEventS p_laws_toEventS D_laws_toEventS [(.t 13)],
 oa 3 15 (.fieldA 10 (.t 3)),
 os 4 (.storeB 2 1 (.t 15) (.t 14))])
  (.seq [3,2,1] (.region [oa 0 16 (.fieldA 11 (.t 1)),
 ob 1 17 (.loadB 0 none (.t 16)),
 oa 2 18 (.fieldA 11 (.t 3)),
 os 3 (.storeB 2 1 (.t 18) (.t 17))])
  (.seq [3,2,1] (.region [oa 0 19 (.fieldA 12 (.t 1)),
 ob 1 20 (.loadB 0 none (.t 19)),
 oa 2 21 (.fieldA 12 (.t 3)),
 os 3 (.storeB 2 1 (.t 21) (.t 20))])
  (.seq [3,2,1] (.region [oa 0 22 (.fieldA 13 (.t 1)),
 ob 1 23 (.loadB 0 none (.t 22)),
 oa 2 24 (.fieldA 13 (.t 3)),
 os 3 (.storeB 2 1 (.t 24) (.t 23))])
  (.seq [3,2] (.region [oa 0 25 (.fieldA 14 (.t 1)),
 ob 1 26 (.loadB 0 none (.t 25)),
 oa 2 27 (.fieldA 14 (.t 3)),
 os 3 (.storeB 2 1 (.t 27) (.t 26))])
  (.seq [2] (.region [ob 0 28 (.loadB 2 (some 15) (.t 3)),
 os 1 (.storeB 1 15 (.t 2) (.t 28))])
  .ret))))))))))
noncomputable def df_laws_toDecider:DFun:=⟨1,29,3,false,[.cell 2 (some 15)],dc_laws_toDecider⟩
noncomputable def pf_laws_toDecider:PFun:=df_laws_toDecider.er
noncomputable def f_laws_toDecider:AFun:=pf_laws_toDecider.er
@[irreducible] noncomputable def s_laws_toDecider:CallSem:=funSem f_laws_toDecider
@[irreducible] noncomputable def p_laws_toDecider:PSem:=pfunSem pf_laws_toDecider
theorem sp_laws_toDecider:SoundP s_laws_toDecider p_laws_toDecider:=by unfold s_laws_toDecider p_laws_toDecider;exact pfun_sound (f:=pf_laws_toDecider) ⟨sp_laws_toEngine,sp_laws_toTiming,sp_laws_toEventS,trivial⟩
def h_laws_toDecider:List HT:=[.agg [(.frz,.int .i64),(.frz,.sl (.one (.sl rI4))),(.frz,.sl (.one (.sl rI3))),(.frz,.int .i64),(.frz,.sl rI5),(.frz,.int .i64),(.frz,.bool),(.frz,.int .i64),(.frz,.int .i64),(.frz,.int .i64),(.frz,.sl (.cons (.int .i64) (.cons (.int .i64) (.one (.bool))))),(.frz,.int .i64),(.frz,.int .i64),(.frz,.int .i64),(.frz,.int .i64)]]
def q_laws_toDecider:QT:=.one (.agg [(.own,.int .i64),(.own,.sl (.one (.sl rI4))),(.own,.sl (.one (.sl rI3))),(.own,.int .i64),(.own,.sl rI5),(.own,.int .i64),(.own,.bool),(.own,.int .i64),(.own,.int .i64),(.own,.int .i64),(.own,.sl (.cons (.int .i64) (.cons (.int .i64) (.one (.bool))))),(.own,.int .i64),(.own,.int .i64),(.own,.int .i64),(.own,.int .i64)])
@[irreducible] noncomputable def v_laws_toDecider(x:Int×(List (List (Int×Int×Int×Int)))×(List (List (Int×Int×Int)))×Int×(List (Int×Int×Int×Int×Int))×Int×Bool×Int×Int×Int×(List (Int×Int×Bool))×Int×Int×Int×Int):Int×(List (List (Int×Int×Int×Int)))×(List (List (Int×Int×Int)))×Int×(List (Int×Int×Int×Int×Int))×Int×Bool×Int×Int×Int×(List (Int×Int×Bool))×Int×Int×Int×Int:=(shut fun x=>fnV df_laws_toDecider h_laws_toDecider q_laws_toDecider x).1 x
@[irreducible] noncomputable def ok_laws_toDecider(x:Int×(List (List (Int×Int×Int×Int)))×(List (List (Int×Int×Int)))×Int×(List (Int×Int×Int×Int×Int))×Int×Bool×Int×Int×Int×(List (Int×Int×Bool))×Int×Int×Int×Int):Prop:=(shut fun x=>fnOk df_laws_toDecider h_laws_toDecider q_laws_toDecider x).1 x
theorem vu_laws_toDecider (x):v_laws_toDecider x=fnV df_laws_toDecider h_laws_toDecider q_laws_toDecider x:=by unfold v_laws_toDecider;exact congrFun (shut _).2 x
theorem ou_laws_toDecider (x):ok_laws_toDecider x=fnOk df_laws_toDecider h_laws_toDecider q_laws_toDecider x:=by unfold ok_laws_toDecider;exact congrFun (shut _).2 x
noncomputable def D_laws_toDecider:DSem:=DSemOf h_laws_toDecider q_laws_toDecider ok_laws_toDecider v_laws_toDecider
theorem ck_laws_toDecider(x:Int×(List (List (Int×Int×Int×Int)))×(List (List (Int×Int×Int)))×Int×(List (Int×Int×Int×Int×Int))×Int×Bool×Int×Int×Int×(List (Int×Int×Bool))×Int×Int×Int×Int):fnChk df_laws_toDecider h_laws_toDecider q_laws_toDecider x=true:=by kernel_rfl
theorem ob_laws_toDecider:AllD df_laws_toDecider.body.obs:=⟨sd_laws_toEngine,sd_laws_toTiming,sd_laws_toEventS,trivial⟩
theorem st_laws_toDecider:fnSt df_laws_toDecider h_laws_toDecider q_laws_toDecider=true:=by kernel_rfl
theorem sd_laws_toDecider:SoundD p_laws_toDecider D_laws_toDecider:=by unfold p_laws_toDecider;exact soundD_of (f:=df_laws_toDecider) (hs:=h_laws_toDecider) (q:=q_laws_toDecider) ob_laws_toDecider st_laws_toDecider ck_laws_toDecider (fun x h=>Eq.mp (ou_laws_toDecider x) h) (fun x=>(vu_laws_toDecider x).symm)
noncomputable def dc_spec_l10Bit:DCode:=
 (.seq [0] (.region [oi 0 2 0])
 (.seq [0] (.seq [5,0] (.region [om 0 3 0,
 oc 1 4 s_spec_l1In p_spec_l1In D_spec_l1In [(.t 3),(.c (.int .i64 0)),(.c (.int .i64 31))],
 oa 2 5 (.un .not (.t 4))])
  (.cond (.t 5) (.seq [2] (.region [oi 0 2 0])
  .ret) .skip))
  (.seq [2] (.region [om 0 6 0,
 oa 1 7 (.bin .shl (.c (.int .i64 1)) (.t 6)),
 om 2 2 7])
  .ret)))
noncomputable def df_spec_l10Bit:DFun:=⟨1,8,0,true,[.tmp 2],dc_spec_l10Bit⟩
noncomputable def pf_spec_l10Bit:PFun:=df_spec_l10Bit.er
noncomputable def f_spec_l10Bit:AFun:=pf_spec_l10Bit.er
@[irreducible] noncomputable def s_spec_l10Bit:CallSem:=funSem f_spec_l10Bit
@[irreducible] noncomputable def p_spec_l10Bit:PSem:=pfunSem pf_spec_l10Bit
theorem sp_spec_l10Bit:SoundP s_spec_l10Bit p_spec_l10Bit:=by unfold s_spec_l10Bit p_spec_l10Bit;exact pfun_sound (f:=pf_spec_l10Bit) ⟨sp_spec_l1In,trivial⟩
def h_spec_l10Bit:List HT:=[.one .frz (.int .i64)]
def q_spec_l10Bit:QT:=.one (.one .own (.int .i64))
@[irreducible] noncomputable def v_spec_l10Bit(x:Int):Int:=(shut fun x=>fnV df_spec_l10Bit h_spec_l10Bit q_spec_l10Bit x).1 x
@[irreducible] noncomputable def ok_spec_l10Bit(x:Int):Prop:=(shut fun x=>fnOk df_spec_l10Bit h_spec_l10Bit q_spec_l10Bit x).1 x
theorem vu_spec_l10Bit (x):v_spec_l10Bit x=fnV df_spec_l10Bit h_spec_l10Bit q_spec_l10Bit x:=by unfold v_spec_l10Bit;exact congrFun (shut _).2 x
theorem ou_spec_l10Bit (x):ok_spec_l10Bit x=fnOk df_spec_l10Bit h_spec_l10Bit q_spec_l10Bit x:=by unfold ok_spec_l10Bit;exact congrFun (shut _).2 x
noncomputable def D_spec_l10Bit:DSem:=DSemOf h_spec_l10Bit q_spec_l10Bit ok_spec_l10Bit v_spec_l10Bit
theorem ck_spec_l10Bit(x:Int):fnChk df_spec_l10Bit h_spec_l10Bit q_spec_l10Bit x=true:=by kernel_rfl
theorem ob_spec_l10Bit:AllD df_spec_l10Bit.body.obs:=⟨sd_spec_l1In,trivial⟩
theorem st_spec_l10Bit:fnSt df_spec_l10Bit h_spec_l10Bit q_spec_l10Bit=true:=by kernel_rfl
theorem sd_spec_l10Bit:SoundD p_spec_l10Bit D_spec_l10Bit:=by unfold p_spec_l10Bit;exact soundD_of (f:=df_spec_l10Bit) (hs:=h_spec_l10Bit) (q:=q_spec_l10Bit) ob_spec_l10Bit st_spec_l10Bit ck_spec_l10Bit (fun x h=>Eq.mp (ou_spec_l10Bit x) h) (fun x=>(vu_spec_l10Bit x).symm)
noncomputable def dc_spec_l10Held:DCode:=
 (.seq [1] (.region [oa 0 1 (.boxB 0 7 (.t 0)),
 oi 1 2 0])
  (.seq [3,1] (.region [oi 0 3 0])
  (.seq [3] (.seq [4,3,1] (.region [oi 0 4 0])
  (.block 0 (.loop [1,3,4] 1 (.seq [4,3,1] (.seq [9,4,3,1] (.region [om 0 5 4,
 oa 1 6 (.fieldA 4 (.t 1)),
 oa 2 7 (.loadB 0 none (.t 6)),
 oa 3 8 (.len (.t 7)),
 oa 4 9 (.bin .lss (.t 5) (.t 8))])
  (.cond (.t 9) .skip (.exit 0)))
  (.seq [4,3,1] (.block 1 (.region [om 0 12 3,
 oa 1 13 (.fieldA 4 (.t 1)),
 oa 2 14 (.loadB 0 none (.t 13)),
 om 3 15 4,
 oa 4 16 (.indexA 5 (.t 14) (.t 15)),
 oa 5 17 (.fieldA 0 (.t 16)),
 oa 6 18 (.loadH none (.t 17)),
 oc 7 19 s_spec_l10Bit p_spec_l10Bit D_spec_l10Bit [(.t 18)],
 oa 8 20 (.bin .or (.t 12) (.t 19)),
 om 9 3 20]))
  (.region [om 0 10 4,
 oa 1 11 (.bin .add (.t 10) (.c (.int .i64 1))),
 om 2 4 11]))))))
  (.seq [2] (.region [om 0 21 3,
 om 1 2 21])
  .ret))))
noncomputable def df_spec_l10Held:DFun:=⟨1,22,1,true,[.tmp 2],dc_spec_l10Held⟩
noncomputable def pf_spec_l10Held:PFun:=df_spec_l10Held.er
noncomputable def f_spec_l10Held:AFun:=pf_spec_l10Held.er
@[irreducible] noncomputable def s_spec_l10Held:CallSem:=funSem f_spec_l10Held
@[irreducible] noncomputable def p_spec_l10Held:PSem:=pfunSem pf_spec_l10Held
theorem sp_spec_l10Held:SoundP s_spec_l10Held p_spec_l10Held:=by unfold s_spec_l10Held p_spec_l10Held;exact pfun_sound (f:=pf_spec_l10Held) ⟨sp_spec_l10Bit,trivial⟩
def h_spec_l10Held:List HT:=[.agg [(.frz,.int .i64),(.frz,.sl (.one (.sl rI4))),(.frz,.sl (.one (.sl rI3))),(.frz,.int .i64),(.frz,.sl rI5),(.frz,.int .i64),(.frz,.bool)]]
def q_spec_l10Held:QT:=.one (.one .own (.int .i64))
@[irreducible] noncomputable def v_spec_l10Held(x:Int×(List (List (Int×Int×Int×Int)))×(List (List (Int×Int×Int)))×Int×(List (Int×Int×Int×Int×Int))×Int×Bool):Int:=(shut fun x=>fnV df_spec_l10Held h_spec_l10Held q_spec_l10Held x).1 x
@[irreducible] noncomputable def ok_spec_l10Held(x:Int×(List (List (Int×Int×Int×Int)))×(List (List (Int×Int×Int)))×Int×(List (Int×Int×Int×Int×Int))×Int×Bool):Prop:=(shut fun x=>fnOk df_spec_l10Held h_spec_l10Held q_spec_l10Held x).1 x
theorem vu_spec_l10Held (x):v_spec_l10Held x=fnV df_spec_l10Held h_spec_l10Held q_spec_l10Held x:=by unfold v_spec_l10Held;exact congrFun (shut _).2 x
theorem ou_spec_l10Held (x):ok_spec_l10Held x=fnOk df_spec_l10Held h_spec_l10Held q_spec_l10Held x:=by unfold ok_spec_l10Held;exact congrFun (shut _).2 x
noncomputable def D_spec_l10Held:DSem:=DSemOf h_spec_l10Held q_spec_l10Held ok_spec_l10Held v_spec_l10Held
theorem ck_spec_l10Held(x:Int×(List (List (Int×Int×Int×Int)))×(List (List (Int×Int×Int)))×Int×(List (Int×Int×Int×Int×Int))×Int×Bool):fnChk df_spec_l10Held h_spec_l10Held q_spec_l10Held x=true:=by kernel_rfl
theorem ob_spec_l10Held:AllD df_spec_l10Held.body.obs:=⟨sd_spec_l10Bit,trivial⟩
theorem st_spec_l10Held:fnSt df_spec_l10Held h_spec_l10Held q_spec_l10Held=true:=by kernel_rfl
theorem sd_spec_l10Held:SoundD p_spec_l10Held D_spec_l10Held:=by unfold p_spec_l10Held;exact soundD_of (f:=df_spec_l10Held) (hs:=h_spec_l10Held) (q:=q_spec_l10Held) ob_spec_l10Held st_spec_l10Held ck_spec_l10Held (fun x h=>Eq.mp (ou_spec_l10Held x) h) (fun x=>(vu_spec_l10Held x).symm)
noncomputable def dc_spec_l10Follows:DCode:=
 (.seq [3,2,1,0] (.region [oa 0 8 (.mv (.c (.bool false)))])
 (.seq [0] (.seq [9,3,2,1,0] (.region [oi 0 9 0])
 (.block 0 (.loop [0,1,2,3,9] 1 (.seq [9,3,2,1,0] (.seq [13,9,3,2,1,0] (.region [om 0 10 9,
 on 1 11 0,
 oa 2 12 (.len (.t 11)),
 oa 3 13 (.bin .lss (.t 10) (.t 12))])
  (.cond (.t 13) .skip (.exit 0)))
  (.seq [9,3,2,1,0] (.block 1 (.seq [9,2,1,0] (.seq [56,9,2,1,0] (.region [on 0 16 0,
 om 1 17 9,
 xA 2 18 (.indexA 3 (.t 16) (.t 17)) (rg 2),
 xA 3 19 (.loadH (some 3) (.t 18)) (rg 3),
 xC 4 20 s_spec_IsEvent p_spec_IsEvent D_spec_IsEvent [(.t 19)] (rg 4),
 xA 5 21 (.un .not (.t 20)) (rg 5),
 xA 6 22 (.mv (.t 21)) (rg 6),
 ⟨7,some 23,.a true (.mv (.t 0)) none,(some (22,false)),[0,1,2,3,4,5,6]⟩,
 ⟨8,some 24,.a false (.mv (.t 9)) none,(some (22,false)),[0,1,2,3,4,5,6]⟩,
 ⟨9,some 25,.a false (.indexA 3 (.t 23) (.t 24)) none,(some (22,false)),[0,1,2,3,4,5,6,7,8]⟩,
 ⟨10,some 26,.a false (.fieldA 1 (.t 25)) none,(some (22,false)),[0,1,2,3,4,5,6,7,8,9]⟩,
 ⟨11,some 27,.a false (.loadH none (.t 26)) none,(some (22,false)),[0,1,2,3,4,5,6,7,8,9,10]⟩,
 ⟨12,some 28,.a false (.mv (.t 2)) none,(some (22,false)),[0,1,2,3,4,5,6]⟩,
 ⟨13,some 29,.a false (.bin .geq (.t 27) (.t 28)) none,(some (22,false)),[0,1,2,3,4,5,6,7,8,9,10,11,12]⟩,
 xA 14 30 (.pick (.t 22) (.c (.bool true)) (.t 29)) (rg 14),
 xA 15 31 (.mv (.t 30)) (rg 15),
 ⟨16,some 32,.a true (.mv (.t 0)) none,(some (31,false)),[0,1,2,3,4,5,6,7,8,9,10,11,12,13,14,15]⟩,
 ⟨17,some 33,.a false (.mv (.t 9)) none,(some (31,false)),[0,1,2,3,4,5,6,7,8,9,10,11,12,13,14,15]⟩,
 ⟨18,some 34,.a false (.indexA 3 (.t 32) (.t 33)) none,(some (31,false)),[0,1,2,3,4,5,6,7,8,9,10,11,12,13,14,15,16,17]⟩,
 ⟨19,some 35,.a false (.fieldA 0 (.t 34)) none,(some (31,false)),[0,1,2,3,4,5,6,7,8,9,10,11,12,13,14,15,16,17,18]⟩,
 ⟨20,some 36,.a false (.loadH none (.t 35)) none,(some (31,false)),[0,1,2,3,4,5,6,7,8,9,10,11,12,13,14,15,16,17,18,19]⟩,
 ⟨21,some 37,.a false (.mv (.t 3)) none,(some (31,false)),[0,1,2,3,4,5,6,7,8,9,10,11,12,13,14,15]⟩,
 ⟨22,some 38,.a false (.bin .lss (.t 36) (.t 37)) none,(some (31,false)),[0,1,2,3,4,5,6,7,8,9,10,11,12,13,14,15,16,17,18,19,20,21]⟩,
 xA 23 39 (.pick (.t 31) (.c (.bool true)) (.t 38)) (rg 23),
 xA 24 40 (.mv (.t 39)) (rg 24),
 ⟨25,some 41,.a true (.mv (.t 0)) none,(some (40,false)),[0,1,2,3,4,5,6,7,8,9,10,11,12,13,14,15,16,17,18,19,20,21,22,23,24]⟩,
 ⟨26,some 42,.a false (.mv (.t 9)) none,(some (40,false)),[0,1,2,3,4,5,6,7,8,9,10,11,12,13,14,15,16,17,18,19,20,21,22,23,24]⟩,
 ⟨27,some 43,.a false (.indexA 3 (.t 41) (.t 42)) none,(some (40,false)),[0,1,2,3,4,5,6,7,8,9,10,11,12,13,14,15,16,17,18,19,20,21,22,23,24,25,26]⟩,
 ⟨28,some 44,.a false (.fieldA 2 (.t 43)) none,(some (40,false)),[0,1,2,3,4,5,6,7,8,9,10,11,12,13,14,15,16,17,18,19,20,21,22,23,24,25,26,27]⟩,
 ⟨29,some 45,.a false (.loadH none (.t 44)) none,(some (40,false)),[0,1,2,3,4,5,6,7,8,9,10,11,12,13,14,15,16,17,18,19,20,21,22,23,24,25,26,27,28]⟩,
 ⟨30,some 46,.a false (.mv (.t 1)) none,(some (40,false)),[0,1,2,3,4,5,6,7,8,9,10,11,12,13,14,15,16,17,18,19,20,21,22,23,24]⟩,
 ⟨31,some 47,.a true (.mv (.t 0)) none,(some (40,false)),[0,1,2,3,4,5,6,7,8,9,10,11,12,13,14,15,16,17,18,19,20,21,22,23,24]⟩,
 ⟨32,some 48,.a false (.mv (.t 9)) none,(some (40,false)),[0,1,2,3,4,5,6,7,8,9,10,11,12,13,14,15,16,17,18,19,20,21,22,23,24]⟩,
 ⟨33,some 49,.a false (.indexA 3 (.t 47) (.t 48)) none,(some (40,false)),[0,1,2,3,4,5,6,7,8,9,10,11,12,13,14,15,16,17,18,19,20,21,22,23,24,31,32]⟩,
 ⟨34,some 50,.a false (.fieldA 1 (.t 49)) none,(some (40,false)),[0,1,2,3,4,5,6,7,8,9,10,11,12,13,14,15,16,17,18,19,20,21,22,23,24,31,32,33]⟩,
 ⟨35,some 51,.a false (.loadH none (.t 50)) none,(some (40,false)),[0,1,2,3,4,5,6,7,8,9,10,11,12,13,14,15,16,17,18,19,20,21,22,23,24,31,32,33,34]⟩,
 ⟨36,some 52,.a false (.bin .shr (.t 46) (.t 51)) none,(some (40,false)),[0,1,2,3,4,5,6,7,8,9,10,11,12,13,14,15,16,17,18,19,20,21,22,23,24,30,31,32,33,34,35]⟩,
 ⟨37,some 53,.a false (.bin .and (.t 52) (.c (.int .i64 1))) none,(some (40,false)),[0,1,2,3,4,5,6,7,8,9,10,11,12,13,14,15,16,17,18,19,20,21,22,23,24,30,31,32,33,34,35,36]⟩,
 ⟨38,some 54,.a false (.bin .eql (.t 53) (.c (.int .i64 1))) none,(some (40,false)),[0,1,2,3,4,5,6,7,8,9,10,11,12,13,14,15,16,17,18,19,20,21,22,23,24,30,31,32,33,34,35,36,37]⟩,
 ⟨39,some 55,.a false (.eqB false (.t 45) (.t 54)) none,(some (40,false)),[0,1,2,3,4,5,6,7,8,9,10,11,12,13,14,15,16,17,18,19,20,21,22,23,24,25,26,27,28,29,30,31,32,33,34,35,36,37,38]⟩,
 xA 40 56 (.pick (.t 40) (.c (.bool true)) (.t 55)) (rg 40)])
  (.cond (.t 56) (.seq [8] (.region [oa 0 8 (.mv (.c (.bool false)))])
  .ret) .skip))
  (.seq [9,3,2,1,0] (.region [on 0 57 0,
 om 1 58 9,
 oa 2 59 (.indexA 3 (.t 57) (.t 58)),
 oa 3 60 (.fieldA 0 (.t 59)),
 oa 4 61 (.loadH none (.t 60)),
 om 5 3 61])
  (.region [om 0 62 1,
 on 1 63 0,
 om 2 64 9,
 oa 3 65 (.indexA 3 (.t 63) (.t 64)),
 oa 4 66 (.fieldA 1 (.t 65)),
 oa 5 67 (.loadH none (.t 66)),
 oa 6 68 (.bin .shl (.c (.int .i64 1)) (.t 67)),
 oa 7 69 (.bin .xor (.t 62) (.t 68)),
 om 8 1 69]))))
  (.region [om 0 14 9,
 oa 1 15 (.bin .add (.t 14) (.c (.int .i64 1))),
 om 2 9 15]))))))
  (.seq [8] (.region [on 0 70 0,
 oa 1 71 (.len (.t 70)),
 oa 2 72 (.bin .leq (.t 71) (.c (.int .i64 64))),
 om 3 8 72])
  .ret)))
noncomputable def df_spec_l10Follows:DFun:=⟨4,73,0,true,[.tmp 8],dc_spec_l10Follows⟩
noncomputable def pf_spec_l10Follows:PFun:=df_spec_l10Follows.er
noncomputable def f_spec_l10Follows:AFun:=pf_spec_l10Follows.er
@[irreducible] noncomputable def s_spec_l10Follows:CallSem:=funSem f_spec_l10Follows
@[irreducible] noncomputable def p_spec_l10Follows:PSem:=pfunSem pf_spec_l10Follows
theorem sp_spec_l10Follows:SoundP s_spec_l10Follows p_spec_l10Follows:=by unfold s_spec_l10Follows p_spec_l10Follows;exact pfun_sound (f:=pf_spec_l10Follows) ⟨sp_spec_IsEvent,trivial⟩
def h_spec_l10Follows:List HT:=[.one .frz (.sl (.cons (.int .i64) (.cons (.int .i64) (.one (.bool))))),.one .frz (.int .i64),.one .frz (.int .i64),.one .frz (.int .i64)]
def q_spec_l10Follows:QT:=.one (.one .own (.bool))
@[irreducible] noncomputable def v_spec_l10Follows(x:(List (Int×Int×Bool))×Int×Int×Int):Bool:=(shut fun x=>fnV df_spec_l10Follows h_spec_l10Follows q_spec_l10Follows x).1 x
@[irreducible] noncomputable def ok_spec_l10Follows(x:(List (Int×Int×Bool))×Int×Int×Int):Prop:=(shut fun x=>fnOk df_spec_l10Follows h_spec_l10Follows q_spec_l10Follows x).1 x
theorem vu_spec_l10Follows (x):v_spec_l10Follows x=fnV df_spec_l10Follows h_spec_l10Follows q_spec_l10Follows x:=by unfold v_spec_l10Follows;exact congrFun (shut _).2 x
theorem ou_spec_l10Follows (x):ok_spec_l10Follows x=fnOk df_spec_l10Follows h_spec_l10Follows q_spec_l10Follows x:=by unfold ok_spec_l10Follows;exact congrFun (shut _).2 x
noncomputable def D_spec_l10Follows:DSem:=DSemOf h_spec_l10Follows q_spec_l10Follows ok_spec_l10Follows v_spec_l10Follows
theorem ck_spec_l10Follows(x:(List (Int×Int×Bool))×Int×Int×Int):fnChk df_spec_l10Follows h_spec_l10Follows q_spec_l10Follows x=true:=by kernel_rfl
theorem ob_spec_l10Follows:AllD df_spec_l10Follows.body.obs:=⟨sd_spec_IsEvent,trivial⟩
theorem st_spec_l10Follows:fnSt df_spec_l10Follows h_spec_l10Follows q_spec_l10Follows=true:=by kernel_rfl
theorem sd_spec_l10Follows:SoundD p_spec_l10Follows D_spec_l10Follows:=by unfold p_spec_l10Follows;exact soundD_of (f:=df_spec_l10Follows) (hs:=h_spec_l10Follows) (q:=q_spec_l10Follows) ob_spec_l10Follows st_spec_l10Follows ck_spec_l10Follows (fun x h=>Eq.mp (ou_spec_l10Follows x) h) (fun x=>(vu_spec_l10Follows x).symm)
noncomputable def dc_spec_IsDecider:DCode:=
 (.seq [1] (.region [oa 0 1 (.boxB 0 15 (.t 0)),
 oa 1 2 (.mv (.c (.bool false)))])
  (.seq [1] (.seq [26,1] (.region [oa 0 3 (.fieldA 0 (.t 1)),
 oa 1 4 (.loadB 0 (some 7) (.t 3)),
 oc 2 5 s_spec_IsEngine p_spec_IsEngine D_spec_IsEngine [(.t 4)],
 oa 3 6 (.un .not (.t 5)),
 om 4 7 6,
 og 5 8 (.fieldA 7 (.t 1)) 7 false,
 og 6 9 (.loadB 0 (some 3) (.t 8)) 7 false,
 ⟨7,some 10,.call false s_spec_IsTiming p_spec_IsTiming D_spec_IsTiming [(.t 9)],(some (7,false)),[]⟩,
 og 8 11 (.un .not (.t 10)) 7 false,
 oa 9 12 (.pick (.t 7) (.c (.bool true)) (.t 11)),
 om 10 13 12,
 og 11 14 (.fieldA 11 (.t 1)) 13 false,
 og 12 15 (.loadB 0 none (.t 14)) 13 false,
 ⟨13,some 16,.call false s_spec_l1In p_spec_l1In D_spec_l1In [(.t 15),(.c (.int .i64 0)),(.c (.int .i64 1000000))],(some (13,false)),[]⟩,
 og 14 17 (.un .not (.t 16)) 13 false,
 oa 15 18 (.pick (.t 13) (.c (.bool true)) (.t 17)),
 om 16 19 18,
 og 17 20 (.fieldA 12 (.t 1)) 19 false,
 og 18 21 (.loadB 0 none (.t 20)) 19 false,
 og 19 22 (.fieldA 11 (.t 1)) 19 false,
 og 20 23 (.loadB 0 none (.t 22)) 19 false,
 ⟨21,some 24,.call false s_spec_l1In p_spec_l1In D_spec_l1In [(.t 21),(.c (.int .i64 0)),(.t 23)],(some (19,false)),[]⟩,
 og 22 25 (.un .not (.t 24)) 19 false,
 oa 23 26 (.pick (.t 19) (.c (.bool true)) (.t 25))])
  (.cond (.t 26) (.seq [2] (.region [oa 0 2 (.mv (.c (.bool false)))])
  .ret) .skip))
  (.seq [1] (.seq [57,1] (.region [oa 0 27 (.fieldA 10 (.t 1)),
 xA 1 28 (.loadB 0 none (.t 27)) (rg 1),
 oa 2 29 (.fieldA 0 (.t 1)),
 xA 3 30 (.loadB 0 (some 7) (.t 29)) [2],
 oa 5 32 (.fieldA 0 (.t 1)),
 xA 6 33 (.fieldA 0 (.t 32)) [5],
 xA 7 34 (.fieldA 0 (.t 33)) [5,6],
 xA 8 35 (.loadB 0 none (.t 34)) [5,6,7],
 xC 4 31 s_spec_l10Held p_spec_l10Held D_spec_l10Held [(.t 30)] [2,3],
 xC 9 36 s_spec_l10Follows p_spec_l10Follows D_spec_l10Follows [(.t 28),(.t 31),(.t 35),(.c (.int .i64 0))] (rg 9),
 xA 10 37 (.un .not (.t 36)) (rg 10),
 xA 11 38 (.mv (.t 37)) (rg 11),
 ⟨12,some 39,.a false (.fieldA 10 (.t 1)) none,(some (38,false)),[0,1,2,3,4,5,6,7,8,9,10,11]⟩,
 ⟨13,some 40,.a false (.loadB 0 none (.t 39)) none,(some (38,false)),[0,1,2,3,4,5,6,7,8,9,10,11,12]⟩,
 ⟨14,some 41,.a false (.len (.t 40)) none,(some (38,false)),[0,1,2,3,4,5,6,7,8,9,10,11,12,13]⟩,
 ⟨15,some 42,.a false (.bin .gtr (.t 41) (.c (.int .i64 0))) none,(some (38,false)),[0,1,2,3,4,5,6,7,8,9,10,11,12,13,14]⟩,
 ⟨16,some 43,.a false (.mv (.t 42)) none,(some (38,false)),[0,1,2,3,4,5,6,7,8,9,10,11,12,13,14,15]⟩,
 ⟨17,some 44,.a false (.fieldA 10 (.t 1)) none,(some (43,true)),[0,1,2,3,4,5,6,7,8,9,10,11,12,13,14,15,16]⟩,
 ⟨18,some 45,.a false (.loadB 0 none (.t 44)) none,(some (43,true)),[0,1,2,3,4,5,6,7,8,9,10,11,12,13,14,15,16,17]⟩,
 ⟨19,some 46,.a false (.fieldA 10 (.t 1)) none,(some (43,true)),[0,1,2,3,4,5,6,7,8,9,10,11,12,13,14,15,16]⟩,
 ⟨20,some 47,.a false (.loadB 0 none (.t 46)) none,(some (43,true)),[0,1,2,3,4,5,6,7,8,9,10,11,12,13,14,15,16,19]⟩,
 ⟨21,some 48,.a false (.len (.t 47)) none,(some (43,true)),[0,1,2,3,4,5,6,7,8,9,10,11,12,13,14,15,16,19,20]⟩,
 ⟨22,some 49,.a false (.bin .sub (.t 48) (.c (.int .i64 1))) none,(some (43,true)),[0,1,2,3,4,5,6,7,8,9,10,11,12,13,14,15,16,19,20,21]⟩,
 ⟨23,some 50,.a false (.indexA 3 (.t 45) (.t 49)) none,(some (43,true)),[0,1,2,3,4,5,6,7,8,9,10,11,12,13,14,15,16,17,18,19,20,21,22]⟩,
 ⟨24,some 51,.a false (.fieldA 0 (.t 50)) none,(some (43,true)),[0,1,2,3,4,5,6,7,8,9,10,11,12,13,14,15,16,17,18,19,20,21,22,23]⟩,
 ⟨25,some 52,.a false (.loadH none (.t 51)) none,(some (43,true)),[0,1,2,3,4,5,6,7,8,9,10,11,12,13,14,15,16,17,18,19,20,21,22,23,24]⟩,
 ⟨26,some 53,.a false (.fieldA 11 (.t 1)) none,(some (43,true)),[0,1,2,3,4,5,6,7,8,9,10,11,12,13,14,15,16]⟩,
 ⟨27,some 54,.a false (.loadB 0 none (.t 53)) none,(some (43,true)),[0,1,2,3,4,5,6,7,8,9,10,11,12,13,14,15,16,26]⟩,
 ⟨28,some 55,.a false (.bin .gtr (.t 52) (.t 54)) none,(some (43,true)),[0,1,2,3,4,5,6,7,8,9,10,11,12,13,14,15,16,17,18,19,20,21,22,23,24,25,26,27]⟩,
 ⟨29,some 56,.a false (.pick (.t 43) (.t 55) (.c (.bool false))) none,(some (38,false)),[0,1,2,3,4,5,6,7,8,9,10,11,12,13,14,15,16,17,18,19,20,21,22,23,24,25,26,27,28]⟩,
 xA 30 57 (.pick (.t 38) (.c (.bool true)) (.t 56)) (rg 30)])
  (.cond (.t 57) (.seq [2] (.region [oa 0 2 (.mv (.c (.bool false)))])
  .ret) .skip))
  (.seq [2] (.region [oa 0 58 (.fieldA 13 (.t 1)),
 oa 1 59 (.loadB 0 none (.t 58)),
 oa 2 60 (.fieldA 0 (.t 1)),
 oa 3 61 (.fieldA 0 (.t 60)),
 oa 4 62 (.fieldA 0 (.t 61)),
 oa 5 63 (.loadB 0 none (.t 62)),
 oc 6 64 s_spec_l1In p_spec_l1In D_spec_l1In [(.t 59),(.c (.int .i64 0)),(.t 63)],
 om 7 65 64,
 og 8 66 (.fieldA 14 (.t 1)) 65 true,
 og 9 67 (.loadB 0 none (.t 66)) 65 true,
 og 10 68 (.fieldA 11 (.t 1)) 65 true,
 og 11 69 (.loadB 0 none (.t 68)) 65 true,
 ⟨12,some 70,.call false s_spec_l1In p_spec_l1In D_spec_l1In [(.t 67),(.c (.int .i64 0)),(.t 69)],(some (65,true)),[]⟩,
 oa 13 71 (.pick (.t 65) (.t 70) (.c (.bool false))),
 om 14 2 71])
  .ret))))
noncomputable def df_spec_IsDecider:DFun:=⟨1,72,1,true,[.tmp 2],dc_spec_IsDecider⟩
noncomputable def pf_spec_IsDecider:PFun:=df_spec_IsDecider.er
noncomputable def f_spec_IsDecider:AFun:=pf_spec_IsDecider.er
@[irreducible] noncomputable def s_spec_IsDecider:CallSem:=funSem f_spec_IsDecider
@[irreducible] noncomputable def p_spec_IsDecider:PSem:=pfunSem pf_spec_IsDecider
theorem sp_spec_IsDecider:SoundP s_spec_IsDecider p_spec_IsDecider:=by unfold s_spec_IsDecider p_spec_IsDecider;exact pfun_sound (f:=pf_spec_IsDecider) ⟨sp_spec_IsEngine,sp_spec_IsTiming,sp_spec_l1In,sp_spec_l1In,sp_spec_l10Held,sp_spec_l10Follows,sp_spec_l1In,sp_spec_l1In,trivial⟩
def h_spec_IsDecider:List HT:=[.agg [(.frz,.int .i64),(.frz,.sl (.one (.sl rI4))),(.frz,.sl (.one (.sl rI3))),(.frz,.int .i64),(.frz,.sl rI5),(.frz,.int .i64),(.frz,.bool),(.frz,.int .i64),(.frz,.int .i64),(.frz,.int .i64),(.frz,.sl (.cons (.int .i64) (.cons (.int .i64) (.one (.bool))))),(.frz,.int .i64),(.frz,.int .i64),(.frz,.int .i64),(.frz,.int .i64)]]
def q_spec_IsDecider:QT:=.one (.one .own (.bool))
@[irreducible] noncomputable def v_spec_IsDecider(x:Int×(List (List (Int×Int×Int×Int)))×(List (List (Int×Int×Int)))×Int×(List (Int×Int×Int×Int×Int))×Int×Bool×Int×Int×Int×(List (Int×Int×Bool))×Int×Int×Int×Int):Bool:=(shut fun x=>fnV df_spec_IsDecider h_spec_IsDecider q_spec_IsDecider x).1 x
@[irreducible] noncomputable def ok_spec_IsDecider(x:Int×(List (List (Int×Int×Int×Int)))×(List (List (Int×Int×Int)))×Int×(List (Int×Int×Int×Int×Int))×Int×Bool×Int×Int×Int×(List (Int×Int×Bool))×Int×Int×Int×Int):Prop:=(shut fun x=>fnOk df_spec_IsDecider h_spec_IsDecider q_spec_IsDecider x).1 x
theorem vu_spec_IsDecider (x):v_spec_IsDecider x=fnV df_spec_IsDecider h_spec_IsDecider q_spec_IsDecider x:=by unfold v_spec_IsDecider;exact congrFun (shut _).2 x
theorem ou_spec_IsDecider (x):ok_spec_IsDecider x=fnOk df_spec_IsDecider h_spec_IsDecider q_spec_IsDecider x:=by unfold ok_spec_IsDecider;exact congrFun (shut _).2 x
noncomputable def D_spec_IsDecider:DSem:=DSemOf h_spec_IsDecider q_spec_IsDecider ok_spec_IsDecider v_spec_IsDecider
theorem ck_spec_IsDecider(x:Int×(List (List (Int×Int×Int×Int)))×(List (List (Int×Int×Int)))×Int×(List (Int×Int×Int×Int×Int))×Int×Bool×Int×Int×Int×(List (Int×Int×Bool))×Int×Int×Int×Int):fnChk df_spec_IsDecider h_spec_IsDecider q_spec_IsDecider x=true:=by kernel_rfl
theorem ob_spec_IsDecider:AllD df_spec_IsDecider.body.obs:=⟨sd_spec_IsEngine,sd_spec_IsTiming,sd_spec_l1In,sd_spec_l1In,sd_spec_l10Held,sd_spec_l10Follows,sd_spec_l1In,sd_spec_l1In,trivial⟩
theorem st_spec_IsDecider:fnSt df_spec_IsDecider h_spec_IsDecider q_spec_IsDecider=true:=by kernel_rfl
theorem sd_spec_IsDecider:SoundD p_spec_IsDecider D_spec_IsDecider:=by unfold p_spec_IsDecider;exact soundD_of (f:=df_spec_IsDecider) (hs:=h_spec_IsDecider) (q:=q_spec_IsDecider) ob_spec_IsDecider st_spec_IsDecider ck_spec_IsDecider (fun x h=>Eq.mp (ou_spec_IsDecider x) h) (fun x=>(vu_spec_IsDecider x).symm)
noncomputable def dc_impl_heldMask:DCode:=
 (.seq [0] (.region [oi 0 2 0])
 (.seq [3,0] (.region [oi 0 3 0])
 (.seq [3] (.seq [8,7,6,3] (.region [on 0 6 0,
 oa 1 7 (.len (.t 6)),
 oi 2 8 0])
  (.block 0 (.loop [3,6,7,8] 1 (.seq [9,8,7,6,3] (.region [oa 0 9 (.bin .lss (.t 8) (.t 7))])
  (.seq [8,7,6,3] (.cond (.t 9) .skip (.exit 0))
  (.seq [8,7,6,3] (.block 1 (.seq [8,7,6,5,3] (.region [oa 0 10 (.indexA 5 (.t 6) (.t 8)),
 ob 1 11 (.loadH (some 5) (.t 10)),
 oa 2 5 (.allocB 0 [(.int .i64 0),(.int .i64 0),(.int .i64 0),(.int .i64 0),(.int .i64 0)]),
 os 3 (.storeB 0 5 (.t 5) (.t 11))])
  (.region [om 0 12 3,
 oa 1 13 (.fieldA 0 (.t 5)),
 oa 2 14 (.loadB 0 none (.t 13)),
 oa 3 15 (.bin .shl (.c (.int .i64 1)) (.t 14)),
 oa 4 16 (.bin .or (.t 12) (.t 15)),
 om 5 3 16])))
  (.region [oa 0 17 (.bin .add (.t 8) (.c (.int .i64 1))),
 om 1 8 17])))))))
  (.seq [2] (.region [om 0 18 3,
 om 1 2 18])
  .ret))))
noncomputable def df_impl_heldMask:DFun:=⟨1,19,1,true,[.tmp 2],dc_impl_heldMask⟩
noncomputable def pf_impl_heldMask:PFun:=df_impl_heldMask.er
noncomputable def f_impl_heldMask:AFun:=pf_impl_heldMask.er
@[irreducible] noncomputable def s_impl_heldMask:CallSem:=funSem f_impl_heldMask
@[irreducible] noncomputable def p_impl_heldMask:PSem:=pfunSem pf_impl_heldMask
theorem sp_impl_heldMask:SoundP s_impl_heldMask p_impl_heldMask:=by unfold s_impl_heldMask p_impl_heldMask;exact pfun_sound (f:=pf_impl_heldMask) trivial
def h_impl_heldMask:List HT:=[.one .frz (.sl rI5)]
def q_impl_heldMask:QT:=.one (.one .own (.int .i64))
@[irreducible] noncomputable def v_impl_heldMask(x:List (Int×Int×Int×Int×Int)):Int:=(shut fun x=>fnV df_impl_heldMask h_impl_heldMask q_impl_heldMask x).1 x
@[irreducible] noncomputable def ok_impl_heldMask(x:List (Int×Int×Int×Int×Int)):Prop:=(shut fun x=>fnOk df_impl_heldMask h_impl_heldMask q_impl_heldMask x).1 x
theorem vu_impl_heldMask (x):v_impl_heldMask x=fnV df_impl_heldMask h_impl_heldMask q_impl_heldMask x:=by unfold v_impl_heldMask;exact congrFun (shut _).2 x
theorem ou_impl_heldMask (x):ok_impl_heldMask x=fnOk df_impl_heldMask h_impl_heldMask q_impl_heldMask x:=by unfold ok_impl_heldMask;exact congrFun (shut _).2 x
noncomputable def D_impl_heldMask:DSem:=DSemOf h_impl_heldMask q_impl_heldMask ok_impl_heldMask v_impl_heldMask
theorem ck_impl_heldMask(x:List (Int×Int×Int×Int×Int)):fnChk df_impl_heldMask h_impl_heldMask q_impl_heldMask x=true:=by kernel_rfl
theorem ob_impl_heldMask:AllD df_impl_heldMask.body.obs:=trivial
theorem st_impl_heldMask:fnSt df_impl_heldMask h_impl_heldMask q_impl_heldMask=true:=by kernel_rfl
theorem sd_impl_heldMask:SoundD p_impl_heldMask D_impl_heldMask:=by unfold p_impl_heldMask;exact soundD_of (f:=df_impl_heldMask) (hs:=h_impl_heldMask) (q:=q_impl_heldMask) ob_impl_heldMask st_impl_heldMask ck_impl_heldMask (fun x h=>Eq.mp (ou_impl_heldMask x) h) (fun x=>(vu_impl_heldMask x).symm)
noncomputable def dc_impl_follow:DCode:=
 (.seq [1,0] (.region [oi 0 4 0,
 oa 1 5 (.mv (.c (.bool false)))])
  (.seq [1,0] (.seq [10,1,0] (.region [on 0 8 0,
 oa 1 9 (.len (.t 8)),
 oa 2 10 (.bin .gtr (.t 9) (.c (.int .i64 64)))])
  (.cond (.t 10) (.seq [5,4] (.region [oi 0 4 0,
 oa 1 5 (.mv (.c (.bool false)))])
  .ret) .skip))
  (.seq [1] (.seq [13,12,11,1,0] (.region [on 0 11 0,
 oa 1 12 (.len (.t 11)),
 oi 2 13 0])
  (.block 0 (.loop [0,1,11,12,13] 1 (.seq [14,13,12,11,1,0] (.region [oa 0 14 (.bin .lss (.t 13) (.t 12))])
  (.seq [13,12,11,1,0] (.cond (.t 14) .skip (.exit 0))
  (.seq [13,12,11,1,0] (.block 1 (.seq [13,12,11,7,6,1,0] (.region [om 0 15 13,
 oa 1 16 (.indexA 3 (.t 11) (.t 13)),
 ob 2 17 (.loadH (some 3) (.t 16)),
 oa 3 7 (.allocB 0 [(.int .i64 0),(.int .i64 0),(.bool false)]),
 om 4 6 15,
 os 5 (.storeB 0 3 (.t 7) (.t 17))])
  (.seq [13,12,11,7,1,0] (.seq [45,13,12,11,7,1,0] (.region [oa 0 18 (.loadB 0 (some 3) (.t 7)),
 xC 1 19 s_impl_IsEvent p_impl_IsEvent D_impl_IsEvent [(.t 18)] (rg 1),
 xA 2 20 (.un .not (.t 19)) (rg 2),
 xA 3 21 (.mv (.t 20)) (rg 3),
 ⟨4,some 22,.a false (.mv (.t 6)) none,(some (21,false)),[0,1,2,3]⟩,
 ⟨5,some 23,.a false (.bin .gtr (.t 22) (.c (.int .i64 0))) none,(some (21,false)),[0,1,2,3,4]⟩,
 ⟨6,some 24,.a false (.mv (.t 23)) none,(some (21,false)),[0,1,2,3,4,5]⟩,
 ⟨7,some 25,.a true (.mv (.t 0)) none,(some (24,true)),[0,1,2,3,4,5,6]⟩,
 ⟨8,some 26,.a false (.mv (.t 6)) none,(some (24,true)),[0,1,2,3,4,5,6]⟩,
 ⟨9,some 27,.a false (.bin .sub (.t 26) (.c (.int .i64 1))) none,(some (24,true)),[0,1,2,3,4,5,6,8]⟩,
 ⟨10,some 28,.a false (.indexA 3 (.t 25) (.t 27)) none,(some (24,true)),[0,1,2,3,4,5,6,7,8,9]⟩,
 ⟨11,some 29,.a false (.fieldA 0 (.t 28)) none,(some (24,true)),[0,1,2,3,4,5,6,7,8,9,10]⟩,
 ⟨12,some 30,.a false (.loadH none (.t 29)) none,(some (24,true)),[0,1,2,3,4,5,6,7,8,9,10,11]⟩,
 ⟨13,some 31,.a false (.fieldA 0 (.t 7)) none,(some (24,true)),[0,1,2,3,4,5,6]⟩,
 ⟨14,some 32,.a false (.loadB 0 none (.t 31)) none,(some (24,true)),[0,1,2,3,4,5,6,13]⟩,
 ⟨15,some 33,.a false (.bin .gtr (.t 30) (.t 32)) none,(some (24,true)),[0,1,2,3,4,5,6,7,8,9,10,11,12,13,14]⟩,
 ⟨16,some 34,.a false (.pick (.t 24) (.t 33) (.c (.bool false))) none,(some (21,false)),[0,1,2,3,4,5,6,7,8,9,10,11,12,13,14,15]⟩,
 xA 17 35 (.pick (.t 21) (.c (.bool true)) (.t 34)) (rg 17),
 xA 18 36 (.mv (.t 35)) (rg 18),
 ⟨19,some 37,.a false (.fieldA 2 (.t 7)) none,(some (36,false)),[0,1,2,3,4,5,6,7,8,9,10,11,12,13,14,15,16,17,18]⟩,
 ⟨20,some 38,.a false (.loadB 0 none (.t 37)) none,(some (36,false)),[0,1,2,3,4,5,6,7,8,9,10,11,12,13,14,15,16,17,18,19]⟩,
 ⟨21,some 39,.a false (.mv (.t 1)) none,(some (36,false)),[0,1,2,3,4,5,6,7,8,9,10,11,12,13,14,15,16,17,18]⟩,
 ⟨22,some 40,.a false (.fieldA 1 (.t 7)) none,(some (36,false)),[0,1,2,3,4,5,6,7,8,9,10,11,12,13,14,15,16,17,18]⟩,
 ⟨23,some 41,.a false (.loadB 0 none (.t 40)) none,(some (36,false)),[0,1,2,3,4,5,6,7,8,9,10,11,12,13,14,15,16,17,18,22]⟩,
 ⟨24,some 42,.call false s_impl_bit p_impl_bit D_impl_bit [(.t 39),(.t 41)],(some (36,false)),[0,1,2,3,4,5,6,7,8,9,10,11,12,13,14,15,16,17,18,21,22,23]⟩,
 ⟨25,some 43,.a false (.bin .eql (.t 42) (.c (.int .i64 1))) none,(some (36,false)),[0,1,2,3,4,5,6,7,8,9,10,11,12,13,14,15,16,17,18,21,22,23,24]⟩,
 ⟨26,some 44,.a false (.eqB false (.t 38) (.t 43)) none,(some (36,false)),[0,1,2,3,4,5,6,7,8,9,10,11,12,13,14,15,16,17,18,19,20,21,22,23,24,25]⟩,
 xA 27 45 (.pick (.t 36) (.c (.bool true)) (.t 44)) (rg 27)])
  (.cond (.t 45) (.seq [5,4] (.region [oi 0 4 0,
 oa 1 5 (.mv (.c (.bool false)))])
  .ret) .skip))
  (.region [om 0 46 1,
 oa 1 47 (.fieldA 1 (.t 7)),
 oa 2 48 (.loadB 0 none (.t 47)),
 oa 3 49 (.bin .shl (.c (.int .i64 1)) (.t 48)),
 oa 4 50 (.bin .xor (.t 46) (.t 49)),
 om 5 1 50]))))
  (.region [oa 0 51 (.bin .add (.t 13) (.c (.int .i64 1))),
 om 1 13 51])))))))
  (.seq [5,4] (.region [om 0 52 1,
 om 1 4 52,
 oa 2 5 (.mv (.c (.bool true)))])
  .ret))))
noncomputable def df_impl_follow:DFun:=⟨2,53,1,true,[.tmp 4,.tmp 5],dc_impl_follow⟩
noncomputable def pf_impl_follow:PFun:=df_impl_follow.er
noncomputable def f_impl_follow:AFun:=pf_impl_follow.er
@[irreducible] noncomputable def s_impl_follow:CallSem:=funSem f_impl_follow
@[irreducible] noncomputable def p_impl_follow:PSem:=pfunSem pf_impl_follow
theorem sp_impl_follow:SoundP s_impl_follow p_impl_follow:=by unfold s_impl_follow p_impl_follow;exact pfun_sound (f:=pf_impl_follow) ⟨sp_impl_IsEvent,sp_impl_bit,trivial⟩
def h_impl_follow:List HT:=[.one .frz (.sl (.cons (.int .i64) (.cons (.int .i64) (.one (.bool))))),.one .frz (.int .i64)]
def q_impl_follow:QT:=.tup [.one .own (.int .i64),.one .own (.bool)]
@[irreducible] noncomputable def v_impl_follow(x:(List (Int×Int×Bool))×Int):Int×Bool:=(shut fun x=>fnV df_impl_follow h_impl_follow q_impl_follow x).1 x
@[irreducible] noncomputable def ok_impl_follow(x:(List (Int×Int×Bool))×Int):Prop:=(shut fun x=>fnOk df_impl_follow h_impl_follow q_impl_follow x).1 x
theorem vu_impl_follow (x):v_impl_follow x=fnV df_impl_follow h_impl_follow q_impl_follow x:=by unfold v_impl_follow;exact congrFun (shut _).2 x
theorem ou_impl_follow (x):ok_impl_follow x=fnOk df_impl_follow h_impl_follow q_impl_follow x:=by unfold ok_impl_follow;exact congrFun (shut _).2 x
noncomputable def D_impl_follow:DSem:=DSemOf h_impl_follow q_impl_follow ok_impl_follow v_impl_follow
theorem ck_impl_follow(x:(List (Int×Int×Bool))×Int):fnChk df_impl_follow h_impl_follow q_impl_follow x=true:=by kernel_rfl
theorem ob_impl_follow:AllD df_impl_follow.body.obs:=⟨sd_impl_IsEvent,sd_impl_bit,trivial⟩
theorem st_impl_follow:fnSt df_impl_follow h_impl_follow q_impl_follow=true:=by kernel_rfl
theorem sd_impl_follow:SoundD p_impl_follow D_impl_follow:=by unfold p_impl_follow;exact soundD_of (f:=df_impl_follow) (hs:=h_impl_follow) (q:=q_impl_follow) ob_impl_follow st_impl_follow ck_impl_follow (fun x h=>Eq.mp (ou_impl_follow x) h) (fun x=>(vu_impl_follow x).symm)
noncomputable def dc_impl_queueFits:DCode:=
 (.seq [2,1,0] (.region [oa 0 6 (.mv (.c (.bool false)))])
 (.seq [1,0] (.seq [13,12,11,2,1,0] (.region [on 0 11 0,
 oa 1 12 (.len (.t 11)),
 oi 2 13 0])
  (.block 0 (.loop [0,1,2,11,12,13] 1 (.seq [14,13,12,11,2,1,0] (.region [oa 0 14 (.bin .lss (.t 13) (.t 12))])
  (.seq [13,12,11,2,1,0] (.cond (.t 14) .skip (.exit 0))
  (.seq [13,12,11,2,1,0] (.block 1 (.seq [13,12,11,8,2,1,0] (.region [oa 0 15 (.indexA 3 (.t 11) (.t 13)),
 ob 1 16 (.loadH (some 3) (.t 15)),
 oa 2 8 (.allocB 0 [(.int .i64 0),(.int .i64 0),(.bool false)]),
 os 3 (.storeB 0 3 (.t 8) (.t 16))])
  (.seq [20,13,12,11,2,1,0] (.region [oa 0 17 (.fieldA 1 (.t 8)),
 oa 1 18 (.loadB 0 none (.t 17)),
 om 2 19 2,
 oa 3 20 (.bin .geq (.t 18) (.t 19))])
  (.cond (.t 20) (.seq [6] (.region [oa 0 6 (.mv (.c (.bool false)))])
  .ret) .skip))))
  (.region [oa 0 21 (.bin .add (.t 13) (.c (.int .i64 1))),
 om 1 13 21])))))))
  (.seq [10] (.region [on 0 23 0,
 om 1 24 1,
 oc 2 25 s_impl_follow p_impl_follow D_impl_follow [(.t 23),(.t 24)],
 om 3 22 25,
 oa 4 26 (.extract (.t 22) 0),
 oa 5 27 (.extract (.t 22) 1),
 om 6 9 26,
 om 7 10 27])
  (.seq [6] (.region [om 0 28 10,
 om 1 6 28])
  .ret))))
noncomputable def df_impl_queueFits:DFun:=⟨3,29,1,true,[.tmp 6],dc_impl_queueFits⟩
noncomputable def pf_impl_queueFits:PFun:=df_impl_queueFits.er
noncomputable def f_impl_queueFits:AFun:=pf_impl_queueFits.er
@[irreducible] noncomputable def s_impl_queueFits:CallSem:=funSem f_impl_queueFits
@[irreducible] noncomputable def p_impl_queueFits:PSem:=pfunSem pf_impl_queueFits
theorem sp_impl_queueFits:SoundP s_impl_queueFits p_impl_queueFits:=by unfold s_impl_queueFits p_impl_queueFits;exact pfun_sound (f:=pf_impl_queueFits) ⟨sp_impl_follow,trivial⟩
def h_impl_queueFits:List HT:=[.one .frz (.sl (.cons (.int .i64) (.cons (.int .i64) (.one (.bool))))),.one .frz (.int .i64),.one .frz (.int .i64)]
def q_impl_queueFits:QT:=.one (.one .own (.bool))
@[irreducible] noncomputable def v_impl_queueFits(x:(List (Int×Int×Bool))×Int×Int):Bool:=(shut fun x=>fnV df_impl_queueFits h_impl_queueFits q_impl_queueFits x).1 x
@[irreducible] noncomputable def ok_impl_queueFits(x:(List (Int×Int×Bool))×Int×Int):Prop:=(shut fun x=>fnOk df_impl_queueFits h_impl_queueFits q_impl_queueFits x).1 x
theorem vu_impl_queueFits (x):v_impl_queueFits x=fnV df_impl_queueFits h_impl_queueFits q_impl_queueFits x:=by unfold v_impl_queueFits;exact congrFun (shut _).2 x
theorem ou_impl_queueFits (x):ok_impl_queueFits x=fnOk df_impl_queueFits h_impl_queueFits q_impl_queueFits x:=by unfold ok_impl_queueFits;exact congrFun (shut _).2 x
noncomputable def D_impl_queueFits:DSem:=DSemOf h_impl_queueFits q_impl_queueFits ok_impl_queueFits v_impl_queueFits
theorem ck_impl_queueFits(x:(List (Int×Int×Bool))×Int×Int):fnChk df_impl_queueFits h_impl_queueFits q_impl_queueFits x=true:=by kernel_rfl
theorem ob_impl_queueFits:AllD df_impl_queueFits.body.obs:=⟨sd_impl_follow,trivial⟩
theorem st_impl_queueFits:fnSt df_impl_queueFits h_impl_queueFits q_impl_queueFits=true:=by kernel_rfl
theorem sd_impl_queueFits:SoundD p_impl_queueFits D_impl_queueFits:=by unfold p_impl_queueFits;exact soundD_of (f:=df_impl_queueFits) (hs:=h_impl_queueFits) (q:=q_impl_queueFits) ob_impl_queueFits st_impl_queueFits ck_impl_queueFits (fun x h=>Eq.mp (ou_impl_queueFits x) h) (fun x=>(vu_impl_queueFits x).symm)
noncomputable def dc_impl_notBehind:DCode:=
 (.seq [1,0] (.region [oa 0 4 (.mv (.c (.bool false)))])
 (.seq [4] (.region [on 0 5 0,
 oa 1 6 (.len (.t 5)),
 oa 2 7 (.bin .eql (.t 6) (.c (.int .i64 0))),
 om 3 8 7,
 ⟨4,some 9,.a true (.mv (.t 0)) none,(some (8,false)),[]⟩,
 ⟨5,some 10,.a true (.mv (.t 0)) none,(some (8,false)),[]⟩,
 og 6 11 (.len (.t 10)) 8 false,
 og 7 12 (.bin .sub (.t 11) (.c (.int .i64 1))) 8 false,
 og 8 13 (.indexA 3 (.t 9) (.t 12)) 8 false,
 og 9 14 (.fieldA 0 (.t 13)) 8 false,
 og 10 15 (.loadH none (.t 14)) 8 false,
 og 11 16 (.mv (.t 1)) 8 false,
 og 12 17 (.bin .leq (.t 15) (.t 16)) 8 false,
 oa 13 18 (.pick (.t 8) (.c (.bool true)) (.t 17)),
 om 14 4 18])
  .ret))
noncomputable def df_impl_notBehind:DFun:=⟨2,19,0,true,[.tmp 4],dc_impl_notBehind⟩
noncomputable def pf_impl_notBehind:PFun:=df_impl_notBehind.er
noncomputable def f_impl_notBehind:AFun:=pf_impl_notBehind.er
@[irreducible] noncomputable def s_impl_notBehind:CallSem:=funSem f_impl_notBehind
@[irreducible] noncomputable def p_impl_notBehind:PSem:=pfunSem pf_impl_notBehind
theorem sp_impl_notBehind:SoundP s_impl_notBehind p_impl_notBehind:=by unfold s_impl_notBehind p_impl_notBehind;exact pfun_sound (f:=pf_impl_notBehind) trivial
def h_impl_notBehind:List HT:=[.one .frz (.sl (.cons (.int .i64) (.cons (.int .i64) (.one (.bool))))),.one .frz (.int .i64)]
def q_impl_notBehind:QT:=.one (.one .own (.bool))
@[irreducible] noncomputable def v_impl_notBehind(x:(List (Int×Int×Bool))×Int):Bool:=(shut fun x=>fnV df_impl_notBehind h_impl_notBehind q_impl_notBehind x).1 x
@[irreducible] noncomputable def ok_impl_notBehind(x:(List (Int×Int×Bool))×Int):Prop:=(shut fun x=>fnOk df_impl_notBehind h_impl_notBehind q_impl_notBehind x).1 x
theorem vu_impl_notBehind (x):v_impl_notBehind x=fnV df_impl_notBehind h_impl_notBehind q_impl_notBehind x:=by unfold v_impl_notBehind;exact congrFun (shut _).2 x
theorem ou_impl_notBehind (x):ok_impl_notBehind x=fnOk df_impl_notBehind h_impl_notBehind q_impl_notBehind x:=by unfold ok_impl_notBehind;exact congrFun (shut _).2 x
noncomputable def D_impl_notBehind:DSem:=DSemOf h_impl_notBehind q_impl_notBehind ok_impl_notBehind v_impl_notBehind
theorem ck_impl_notBehind(x:(List (Int×Int×Bool))×Int):fnChk df_impl_notBehind h_impl_notBehind q_impl_notBehind x=true:=by kernel_rfl
theorem ob_impl_notBehind:AllD df_impl_notBehind.body.obs:=trivial
theorem st_impl_notBehind:fnSt df_impl_notBehind h_impl_notBehind q_impl_notBehind=true:=by kernel_rfl
theorem sd_impl_notBehind:SoundD p_impl_notBehind D_impl_notBehind:=by unfold p_impl_notBehind;exact soundD_of (f:=df_impl_notBehind) (hs:=h_impl_notBehind) (q:=q_impl_notBehind) ob_impl_notBehind st_impl_notBehind ck_impl_notBehind (fun x h=>Eq.mp (ou_impl_notBehind x) h) (fun x=>(vu_impl_notBehind x).symm)
noncomputable def dc_impl_IsDecider:DCode:=
 (.seq [1] (.region [oa 0 1 (.boxB 0 15 (.t 0)),
 oa 1 2 (.mv (.c (.bool false)))])
  (.seq [1] (.seq [34,1] (.region [oa 0 3 (.fieldA 0 (.t 1)),
 oa 1 4 (.loadB 0 (some 7) (.t 3)),
 oc 2 5 s_impl_IsEngine p_impl_IsEngine D_impl_IsEngine [(.t 4)],
 oa 3 6 (.un .not (.t 5)),
 om 4 7 6,
 og 5 8 (.fieldA 7 (.t 1)) 7 false,
 og 6 9 (.loadB 0 (some 3) (.t 8)) 7 false,
 ⟨7,some 10,.call false s_impl_IsTiming p_impl_IsTiming D_impl_IsTiming [(.t 9)],(some (7,false)),[]⟩,
 og 8 11 (.un .not (.t 10)) 7 false,
 oa 9 12 (.pick (.t 7) (.c (.bool true)) (.t 11)),
 om 10 13 12,
 og 11 14 (.fieldA 11 (.t 1)) 13 false,
 og 12 15 (.loadB 0 none (.t 14)) 13 false,
 og 13 16 (.bin .lss (.t 15) (.c (.int .i64 0))) 13 false,
 oa 14 17 (.pick (.t 13) (.c (.bool true)) (.t 16)),
 om 15 18 17,
 og 16 19 (.fieldA 11 (.t 1)) 18 false,
 og 17 20 (.loadB 0 none (.t 19)) 18 false,
 og 18 21 (.bin .gtr (.t 20) (.c (.int .i64 1000000))) 18 false,
 oa 19 22 (.pick (.t 18) (.c (.bool true)) (.t 21)),
 om 20 23 22,
 og 21 24 (.fieldA 12 (.t 1)) 23 false,
 og 22 25 (.loadB 0 none (.t 24)) 23 false,
 og 23 26 (.bin .lss (.t 25) (.c (.int .i64 0))) 23 false,
 oa 24 27 (.pick (.t 23) (.c (.bool true)) (.t 26)),
 om 25 28 27,
 og 26 29 (.fieldA 12 (.t 1)) 28 false,
 og 27 30 (.loadB 0 none (.t 29)) 28 false,
 og 28 31 (.fieldA 11 (.t 1)) 28 false,
 og 29 32 (.loadB 0 none (.t 31)) 28 false,
 og 30 33 (.bin .gtr (.t 30) (.t 32)) 28 false,
 oa 31 34 (.pick (.t 28) (.c (.bool true)) (.t 33))])
  (.cond (.t 34) (.seq [2] (.region [oa 0 2 (.mv (.c (.bool false)))])
  .ret) .skip))
  (.seq [1] (.seq [54,1] (.region [oa 0 35 (.fieldA 10 (.t 1)),
 xA 1 36 (.loadB 0 none (.t 35)) (rg 1),
 oa 2 37 (.fieldA 0 (.t 1)),
 xA 3 38 (.fieldA 4 (.t 37)) [2],
 xA 4 39 (.loadB 0 none (.t 38)) [2,3],
 oa 6 41 (.fieldA 0 (.t 1)),
 xA 7 42 (.fieldA 0 (.t 41)) [6],
 xA 8 43 (.fieldA 0 (.t 42)) [6,7],
 xA 9 44 (.loadB 0 none (.t 43)) [6,7,8],
 xC 5 40 s_impl_heldMask p_impl_heldMask D_impl_heldMask [(.t 39)] [2,3,4],
 xC 10 45 s_impl_queueFits p_impl_queueFits D_impl_queueFits [(.t 36),(.t 40),(.t 44)] (rg 10),
 xA 11 46 (.un .not (.t 45)) (rg 11),
 xA 12 47 (.mv (.t 46)) (rg 12),
 ⟨13,some 48,.a false (.fieldA 10 (.t 1)) none,(some (47,false)),[0,1,2,3,4,5,6,7,8,9,10,11,12]⟩,
 ⟨14,some 49,.a false (.loadB 0 none (.t 48)) none,(some (47,false)),[0,1,2,3,4,5,6,7,8,9,10,11,12,13]⟩,
 ⟨15,some 50,.a false (.fieldA 11 (.t 1)) none,(some (47,false)),[0,1,2,3,4,5,6,7,8,9,10,11,12]⟩,
 ⟨16,some 51,.a false (.loadB 0 none (.t 50)) none,(some (47,false)),[0,1,2,3,4,5,6,7,8,9,10,11,12,15]⟩,
 ⟨17,some 52,.call false s_impl_notBehind p_impl_notBehind D_impl_notBehind [(.t 49),(.t 51)],(some (47,false)),[0,1,2,3,4,5,6,7,8,9,10,11,12,13,14,15,16]⟩,
 ⟨18,some 53,.a false (.un .not (.t 52)) none,(some (47,false)),[0,1,2,3,4,5,6,7,8,9,10,11,12,13,14,15,16,17]⟩,
 xA 19 54 (.pick (.t 47) (.c (.bool true)) (.t 53)) (rg 19)])
  (.cond (.t 54) (.seq [2] (.region [oa 0 2 (.mv (.c (.bool false)))])
  .ret) .skip))
  (.seq [2] (.region [oa 0 55 (.fieldA 13 (.t 1)),
 oa 1 56 (.loadB 0 none (.t 55)),
 oa 2 57 (.bin .geq (.t 56) (.c (.int .i64 0))),
 om 3 58 57,
 og 4 59 (.fieldA 13 (.t 1)) 58 true,
 og 5 60 (.loadB 0 none (.t 59)) 58 true,
 og 6 61 (.fieldA 0 (.t 1)) 58 true,
 og 7 62 (.fieldA 0 (.t 61)) 58 true,
 og 8 63 (.fieldA 0 (.t 62)) 58 true,
 og 9 64 (.loadB 0 none (.t 63)) 58 true,
 og 10 65 (.bin .leq (.t 60) (.t 64)) 58 true,
 oa 11 66 (.pick (.t 58) (.t 65) (.c (.bool false))),
 om 12 67 66,
 og 13 68 (.fieldA 14 (.t 1)) 67 true,
 og 14 69 (.loadB 0 none (.t 68)) 67 true,
 og 15 70 (.bin .geq (.t 69) (.c (.int .i64 0))) 67 true,
 oa 16 71 (.pick (.t 67) (.t 70) (.c (.bool false))),
 om 17 72 71,
 og 18 73 (.fieldA 14 (.t 1)) 72 true,
 og 19 74 (.loadB 0 none (.t 73)) 72 true,
 og 20 75 (.fieldA 11 (.t 1)) 72 true,
 og 21 76 (.loadB 0 none (.t 75)) 72 true,
 og 22 77 (.bin .leq (.t 74) (.t 76)) 72 true,
 oa 23 78 (.pick (.t 72) (.t 77) (.c (.bool false))),
 om 24 2 78])
  .ret))))
noncomputable def df_impl_IsDecider:DFun:=⟨1,79,1,true,[.tmp 2],dc_impl_IsDecider⟩
noncomputable def pf_impl_IsDecider:PFun:=df_impl_IsDecider.er
noncomputable def f_impl_IsDecider:AFun:=pf_impl_IsDecider.er
@[irreducible] noncomputable def s_impl_IsDecider:CallSem:=funSem f_impl_IsDecider
@[irreducible] noncomputable def p_impl_IsDecider:PSem:=pfunSem pf_impl_IsDecider
theorem sp_impl_IsDecider:SoundP s_impl_IsDecider p_impl_IsDecider:=by unfold s_impl_IsDecider p_impl_IsDecider;exact pfun_sound (f:=pf_impl_IsDecider) ⟨sp_impl_IsEngine,sp_impl_IsTiming,sp_impl_heldMask,sp_impl_queueFits,sp_impl_notBehind,trivial⟩
def h_impl_IsDecider:List HT:=[.agg [(.frz,.int .i64),(.frz,.sl (.one (.sl rI4))),(.frz,.sl (.one (.sl rI3))),(.frz,.int .i64),(.frz,.sl rI5),(.frz,.int .i64),(.frz,.bool),(.frz,.int .i64),(.frz,.int .i64),(.frz,.int .i64),(.frz,.sl (.cons (.int .i64) (.cons (.int .i64) (.one (.bool))))),(.frz,.int .i64),(.frz,.int .i64),(.frz,.int .i64),(.frz,.int .i64)]]
def q_impl_IsDecider:QT:=.one (.one .own (.bool))
@[irreducible] noncomputable def v_impl_IsDecider(x:Int×(List (List (Int×Int×Int×Int)))×(List (List (Int×Int×Int)))×Int×(List (Int×Int×Int×Int×Int))×Int×Bool×Int×Int×Int×(List (Int×Int×Bool))×Int×Int×Int×Int):Bool:=(shut fun x=>fnV df_impl_IsDecider h_impl_IsDecider q_impl_IsDecider x).1 x
@[irreducible] noncomputable def ok_impl_IsDecider(x:Int×(List (List (Int×Int×Int×Int)))×(List (List (Int×Int×Int)))×Int×(List (Int×Int×Int×Int×Int))×Int×Bool×Int×Int×Int×(List (Int×Int×Bool))×Int×Int×Int×Int):Prop:=(shut fun x=>fnOk df_impl_IsDecider h_impl_IsDecider q_impl_IsDecider x).1 x
theorem vu_impl_IsDecider (x):v_impl_IsDecider x=fnV df_impl_IsDecider h_impl_IsDecider q_impl_IsDecider x:=by unfold v_impl_IsDecider;exact congrFun (shut _).2 x
theorem ou_impl_IsDecider (x):ok_impl_IsDecider x=fnOk df_impl_IsDecider h_impl_IsDecider q_impl_IsDecider x:=by unfold ok_impl_IsDecider;exact congrFun (shut _).2 x
noncomputable def D_impl_IsDecider:DSem:=DSemOf h_impl_IsDecider q_impl_IsDecider ok_impl_IsDecider v_impl_IsDecider
theorem ck_impl_IsDecider(x:Int×(List (List (Int×Int×Int×Int)))×(List (List (Int×Int×Int)))×Int×(List (Int×Int×Int×Int×Int))×Int×Bool×Int×Int×Int×(List (Int×Int×Bool))×Int×Int×Int×Int):fnChk df_impl_IsDecider h_impl_IsDecider q_impl_IsDecider x=true:=by kernel_rfl
theorem ob_impl_IsDecider:AllD df_impl_IsDecider.body.obs:=⟨sd_impl_IsEngine,sd_impl_IsTiming,sd_impl_heldMask,sd_impl_queueFits,sd_impl_notBehind,trivial⟩
theorem st_impl_IsDecider:fnSt df_impl_IsDecider h_impl_IsDecider q_impl_IsDecider=true:=by kernel_rfl
theorem sd_impl_IsDecider:SoundD p_impl_IsDecider D_impl_IsDecider:=by unfold p_impl_IsDecider;exact soundD_of (f:=df_impl_IsDecider) (hs:=h_impl_IsDecider) (q:=q_impl_IsDecider) ob_impl_IsDecider st_impl_IsDecider ck_impl_IsDecider (fun x h=>Eq.mp (ou_impl_IsDecider x) h) (fun x=>(vu_impl_IsDecider x).symm)
noncomputable def dc_laws_eqTiming:DCode:=
 (.seq [3,2] (.region [oa 0 2 (.boxB 0 3 (.t 0)),
 oa 1 3 (.boxB 1 3 (.t 1)),
 oa 2 4 (.mv (.c (.bool false)))])
  (.seq [3,2] (.seq [9,3,2] (.region [oa 0 5 (.fieldA 0 (.t 2)),
 oa 1 6 (.loadB 0 none (.t 5)),
 oa 2 7 (.fieldA 0 (.t 3)),
 oa 3 8 (.loadB 1 none (.t 7)),
 oa 4 9 (.bin .neq (.t 6) (.t 8))])
  (.cond (.t 9) (.seq [4] (.region [oa 0 4 (.mv (.c (.bool false)))])
  .ret) .skip))
  (.seq [3,2] (.seq [14,3,2] (.region [oa 0 10 (.fieldA 1 (.t 2)),
 oa 1 11 (.loadB 0 none (.t 10)),
 oa 2 12 (.fieldA 1 (.t 3)),
 oa 3 13 (.loadB 1 none (.t 12)),
 oa 4 14 (.bin .neq (.t 11) (.t 13))])
  (.cond (.t 14) (.seq [4] (.region [oa 0 4 (.mv (.c (.bool false)))])
  .ret) .skip))
  (.seq [] (.seq [19] (.region [oa 0 15 (.fieldA 2 (.t 2)),
 oa 1 16 (.loadB 0 none (.t 15)),
 oa 2 17 (.fieldA 2 (.t 3)),
 oa 3 18 (.loadB 1 none (.t 17)),
 oa 4 19 (.bin .neq (.t 16) (.t 18))])
  (.cond (.t 19) (.seq [4] (.region [oa 0 4 (.mv (.c (.bool false)))])
  .ret) .skip))
  (.seq [4] (.region [oa 0 4 (.mv (.c (.bool true)))])
  .ret)))))
noncomputable def df_laws_eqTiming:DFun:=⟨2,20,2,true,[.tmp 4],dc_laws_eqTiming⟩
noncomputable def pf_laws_eqTiming:PFun:=df_laws_eqTiming.er
noncomputable def f_laws_eqTiming:AFun:=pf_laws_eqTiming.er
@[irreducible] noncomputable def s_laws_eqTiming:CallSem:=funSem f_laws_eqTiming
@[irreducible] noncomputable def p_laws_eqTiming:PSem:=pfunSem pf_laws_eqTiming
theorem sp_laws_eqTiming:SoundP s_laws_eqTiming p_laws_eqTiming:=by unfold s_laws_eqTiming p_laws_eqTiming;exact pfun_sound (f:=pf_laws_eqTiming) trivial
def h_laws_eqTiming:List HT:=[.agg [(.frz,.int .i64),(.frz,.int .i64),(.frz,.int .i64)],.agg [(.frz,.int .i64),(.frz,.int .i64),(.frz,.int .i64)]]
def q_laws_eqTiming:QT:=.one (.one .own (.bool))
@[irreducible] noncomputable def v_laws_eqTiming(x:(Int×Int×Int)×(Int×Int×Int)):Bool:=(shut fun x=>fnV df_laws_eqTiming h_laws_eqTiming q_laws_eqTiming x).1 x
@[irreducible] noncomputable def ok_laws_eqTiming(x:(Int×Int×Int)×(Int×Int×Int)):Prop:=(shut fun x=>fnOk df_laws_eqTiming h_laws_eqTiming q_laws_eqTiming x).1 x
theorem vu_laws_eqTiming (x):v_laws_eqTiming x=fnV df_laws_eqTiming h_laws_eqTiming q_laws_eqTiming x:=by unfold v_laws_eqTiming;exact congrFun (shut _).2 x
theorem ou_laws_eqTiming (x):ok_laws_eqTiming x=fnOk df_laws_eqTiming h_laws_eqTiming q_laws_eqTiming x:=by unfold ok_laws_eqTiming;exact congrFun (shut _).2 x
noncomputable def D_laws_eqTiming:DSem:=DSemOf h_laws_eqTiming q_laws_eqTiming ok_laws_eqTiming v_laws_eqTiming
theorem ck_laws_eqTiming(x:(Int×Int×Int)×(Int×Int×Int)):fnChk df_laws_eqTiming h_laws_eqTiming q_laws_eqTiming x=true:=by kernel_rfl
theorem ob_laws_eqTiming:AllD df_laws_eqTiming.body.obs:=trivial
theorem st_laws_eqTiming:fnSt df_laws_eqTiming h_laws_eqTiming q_laws_eqTiming=true:=by kernel_rfl
theorem sd_laws_eqTiming:SoundD p_laws_eqTiming D_laws_eqTiming:=by unfold p_laws_eqTiming;exact soundD_of (f:=df_laws_eqTiming) (hs:=h_laws_eqTiming) (q:=q_laws_eqTiming) ob_laws_eqTiming st_laws_eqTiming ck_laws_eqTiming (fun x h=>Eq.mp (ou_laws_eqTiming x) h) (fun x=>(vu_laws_eqTiming x).symm)
noncomputable def dc_laws_eqDecider:DCode:=
 (.seq [3,2] (.region [oa 0 2 (.boxB 0 15 (.t 0)),
 oa 1 3 (.boxB 1 15 (.t 1)),
 oa 2 4 (.mv (.c (.bool false)))])
  (.seq [3,2] (.seq [10,3,2] (.region [oa 0 5 (.fieldA 0 (.t 2)),
 oa 1 6 (.loadB 0 (some 7) (.t 5)),
 oa 2 7 (.fieldA 0 (.t 3)),
 oa 3 8 (.loadB 1 (some 7) (.t 7)),
 oc 4 9 s_laws_eqEngine p_laws_eqEngine D_laws_eqEngine [(.t 6),(.t 8)],
 oa 5 10 (.un .not (.t 9))])
  (.cond (.t 10) (.seq [4] (.region [oa 0 4 (.mv (.c (.bool false)))])
  .ret) .skip))
  (.seq [3,2] (.seq [16,3,2] (.region [oa 0 11 (.fieldA 7 (.t 2)),
 oa 1 12 (.loadB 0 (some 3) (.t 11)),
 oa 2 13 (.fieldA 7 (.t 3)),
 oa 3 14 (.loadB 1 (some 3) (.t 13)),
 oc 4 15 s_laws_eqTiming p_laws_eqTiming D_laws_eqTiming [(.t 12),(.t 14)],
 oa 5 16 (.un .not (.t 15))])
  (.cond (.t 16) (.seq [4] (.region [oa 0 4 (.mv (.c (.bool false)))])
  .ret) .skip))
  (.seq [3,2] (.seq [22,3,2] (.region [oa 0 17 (.fieldA 10 (.t 2)),
 oa 1 18 (.loadB 0 none (.t 17)),
 oa 2 19 (.fieldA 10 (.t 3)),
 oa 3 20 (.loadB 1 none (.t 19)),
 oc 4 21 s_laws_eqEventS p_laws_eqEventS D_laws_eqEventS [(.t 18),(.t 20)],
 oa 5 22 (.un .not (.t 21))])
  (.cond (.t 22) (.seq [4] (.region [oa 0 4 (.mv (.c (.bool false)))])
  .ret) .skip))
  (.seq [3,2] (.seq [27,3,2] (.region [oa 0 23 (.fieldA 11 (.t 2)),
 oa 1 24 (.loadB 0 none (.t 23)),
 oa 2 25 (.fieldA 11 (.t 3)),
 oa 3 26 (.loadB 1 none (.t 25)),
 oa 4 27 (.bin .neq (.t 24) (.t 26))])
  (.cond (.t 27) (.seq [4] (.region [oa 0 4 (.mv (.c (.bool false)))])
  .ret) .skip))
  (.seq [3,2] (.seq [32,3,2] (.region [oa 0 28 (.fieldA 12 (.t 2)),
 oa 1 29 (.loadB 0 none (.t 28)),
 oa 2 30 (.fieldA 12 (.t 3)),
 oa 3 31 (.loadB 1 none (.t 30)),
 oa 4 32 (.bin .neq (.t 29) (.t 31))])
  (.cond (.t 32) (.seq [4] (.region [oa 0 4 (.mv (.c (.bool false)))])
  .ret) .skip))
  (.seq [3,2] (.seq [37,3,2] (.region [oa 0 33 (.fieldA 13 (.t 2)),
 oa 1 34 (.loadB 0 none (.t 33)),
 oa 2 35 (.fieldA 13 (.t 3)),
 oa 3 36 (.loadB 1 none (.t 35)),
 oa 4 37 (.bin .neq (.t 34) (.t 36))])
  (.cond (.t 37) (.seq [4] (.region [oa 0 4 (.mv (.c (.bool false)))])
  .ret) .skip))
  (.seq [] (.seq [42] (.region [oa 0 38 (.fieldA 14 (.t 2)),
 oa 1 39 (.loadB 0 none (.t 38)),
 oa 2 40 (.fieldA 14 (.t 3)),
 oa 3 41 (.loadB 1 none (.t 40)),
 oa 4 42 (.bin .neq (.t 39) (.t 41))])
  (.cond (.t 42) (.seq [4] (.region [oa 0 4 (.mv (.c (.bool false)))])
  .ret) .skip))
  (.seq [4] (.region [oa 0 4 (.mv (.c (.bool true)))])
  .ret)))))))))
noncomputable def df_laws_eqDecider:DFun:=⟨2,43,2,true,[.tmp 4],dc_laws_eqDecider⟩
noncomputable def pf_laws_eqDecider:PFun:=df_laws_eqDecider.er
noncomputable def f_laws_eqDecider:AFun:=pf_laws_eqDecider.er
@[irreducible] noncomputable def s_laws_eqDecider:CallSem:=funSem f_laws_eqDecider
@[irreducible] noncomputable def p_laws_eqDecider:PSem:=pfunSem pf_laws_eqDecider
theorem sp_laws_eqDecider:SoundP s_laws_eqDecider p_laws_eqDecider:=by unfold s_laws_eqDecider p_laws_eqDecider;exact pfun_sound (f:=pf_laws_eqDecider) ⟨sp_laws_eqEngine,sp_laws_eqTiming,sp_laws_eqEventS,trivial⟩
def h_laws_eqDecider:List HT:=[.agg [(.frz,.int .i64),(.frz,.sl (.one (.sl rI4))),(.frz,.sl (.one (.sl rI3))),(.frz,.int .i64),(.frz,.sl rI5),(.frz,.int .i64),(.frz,.bool),(.frz,.int .i64),(.frz,.int .i64),(.frz,.int .i64),(.frz,.sl (.cons (.int .i64) (.cons (.int .i64) (.one (.bool))))),(.frz,.int .i64),(.frz,.int .i64),(.frz,.int .i64),(.frz,.int .i64)],.agg [(.frz,.int .i64),(.frz,.sl (.one (.sl rI4))),(.frz,.sl (.one (.sl rI3))),(.frz,.int .i64),(.frz,.sl rI5),(.frz,.int .i64),(.frz,.bool),(.frz,.int .i64),(.frz,.int .i64),(.frz,.int .i64),(.frz,.sl (.cons (.int .i64) (.cons (.int .i64) (.one (.bool))))),(.frz,.int .i64),(.frz,.int .i64),(.frz,.int .i64),(.frz,.int .i64)]]
def q_laws_eqDecider:QT:=.one (.one .own (.bool))
@[irreducible] noncomputable def v_laws_eqDecider(x:(Int×(List (List (Int×Int×Int×Int)))×(List (List (Int×Int×Int)))×Int×(List (Int×Int×Int×Int×Int))×Int×Bool×Int×Int×Int×(List (Int×Int×Bool))×Int×Int×Int×Int)×(Int×(List (List (Int×Int×Int×Int)))×(List (List (Int×Int×Int)))×Int×(List (Int×Int×Int×Int×Int))×Int×Bool×Int×Int×Int×(List (Int×Int×Bool))×Int×Int×Int×Int)):Bool:=(shut fun x=>fnV df_laws_eqDecider h_laws_eqDecider q_laws_eqDecider x).1 x
@[irreducible] noncomputable def ok_laws_eqDecider(x:(Int×(List (List (Int×Int×Int×Int)))×(List (List (Int×Int×Int)))×Int×(List (Int×Int×Int×Int×Int))×Int×Bool×Int×Int×Int×(List (Int×Int×Bool))×Int×Int×Int×Int)×(Int×(List (List (Int×Int×Int×Int)))×(List (List (Int×Int×Int)))×Int×(List (Int×Int×Int×Int×Int))×Int×Bool×Int×Int×Int×(List (Int×Int×Bool))×Int×Int×Int×Int)):Prop:=(shut fun x=>fnOk df_laws_eqDecider h_laws_eqDecider q_laws_eqDecider x).1 x
theorem vu_laws_eqDecider (x):v_laws_eqDecider x=fnV df_laws_eqDecider h_laws_eqDecider q_laws_eqDecider x:=by unfold v_laws_eqDecider;exact congrFun (shut _).2 x
theorem ou_laws_eqDecider (x):ok_laws_eqDecider x=fnOk df_laws_eqDecider h_laws_eqDecider q_laws_eqDecider x:=by unfold ok_laws_eqDecider;exact congrFun (shut _).2 x
noncomputable def D_laws_eqDecider:DSem:=DSemOf h_laws_eqDecider q_laws_eqDecider ok_laws_eqDecider v_laws_eqDecider
theorem ck_laws_eqDecider(x:(Int×(List (List (Int×Int×Int×Int)))×(List (List (Int×Int×Int)))×Int×(List (Int×Int×Int×Int×Int))×Int×Bool×Int×Int×Int×(List (Int×Int×Bool))×Int×Int×Int×Int)×(Int×(List (List (Int×Int×Int×Int)))×(List (List (Int×Int×Int)))×Int×(List (Int×Int×Int×Int×Int))×Int×Bool×Int×Int×Int×(List (Int×Int×Bool))×Int×Int×Int×Int)):fnChk df_laws_eqDecider h_laws_eqDecider q_laws_eqDecider x=true:=by kernel_rfl
theorem ob_laws_eqDecider:AllD df_laws_eqDecider.body.obs:=⟨sd_laws_eqEngine,sd_laws_eqTiming,sd_laws_eqEventS,trivial⟩
theorem st_laws_eqDecider:fnSt df_laws_eqDecider h_laws_eqDecider q_laws_eqDecider=true:=by kernel_rfl
theorem sd_laws_eqDecider:SoundD p_laws_eqDecider D_laws_eqDecider:=by unfold p_laws_eqDecider;exact soundD_of (f:=df_laws_eqDecider) (hs:=h_laws_eqDecider) (q:=q_laws_eqDecider) ob_laws_eqDecider st_laws_eqDecider ck_laws_eqDecider (fun x h=>Eq.mp (ou_laws_eqDecider x) h) (fun x=>(vu_laws_eqDecider x).symm)
noncomputable def dc_laws_FnExactIsDecider:DCode:=
 (.seq [1] (.region [oa 0 1 (.boxB 0 15 (.t 0)),
 oa 1 2 (.mv (.c (.bool false)))])
  (.seq [3,1] (.region [oi 0 3 1048576])
  (.seq [3,1] (.region [oa 0 7 (.loadB 0 (some 15) (.t 1)),
 om 1 8 3,
 oc 2 9 s_laws_szDecider p_laws_szDecider D_laws_szDecider [(.t 7),(.t 8)],
 om 3 3 9])
  (.seq [1] (.seq [11,1] (.region [om 0 10 3,
 oa 1 11 (.bin .lss (.t 10) (.c (.int .i64 0)))])
  (.cond (.t 11) (.seq [2] (.region [oa 0 2 (.mv (.c (.bool true)))])
  .ret) .skip))
  (.seq [4,1] (.region [oa 0 12 (.loadB 0 (some 15) (.t 1)),
 oc 1 13 s_laws_toDecider p_laws_toDecider D_laws_toDecider [(.t 12)],
 oc 2 14 s_spec_IsDecider p_spec_IsDecider D_spec_IsDecider [(.t 13)],
 om 3 4 14])
  (.seq [5,4,1] (.region [oa 0 15 (.loadB 0 (some 15) (.t 1)),
 oc 1 16 s_laws_toDecider p_laws_toDecider D_laws_toDecider [(.t 15)],
 oa 2 5 (.allocB 1 [(.int .i64 0),.nils,.nils,(.int .i64 0),.nils,(.int .i64 0),(.bool false),(.int .i64 0),(.int .i64 0),(.int .i64 0),.nils,(.int .i64 0),(.int .i64 0),(.int .i64 0),(.int .i64 0)]),
 os 3 (.storeB 1 15 (.t 5) (.t 16))])
  (.seq [6,5,4,1] (.region [oa 0 17 (.loadB 1 (some 15) (.t 5)),
 oc 1 18 s_impl_IsDecider p_impl_IsDecider D_impl_IsDecider [(.t 17)],
 om 2 6 18])
  (.seq [5,1] (.seq [21,5,1] (.region [om 0 19 6,
 om 1 20 4,
 oa 2 21 (.eqB true (.t 19) (.t 20))])
  (.cond (.t 21) (.seq [2] (.region [oa 0 2 (.mv (.c (.bool false)))])
  .ret) .skip))
  (.seq [] (.seq [26] (.region [oa 0 22 (.loadB 1 (some 15) (.t 5)),
 oa 1 23 (.loadB 0 (some 15) (.t 1)),
 xC 2 24 s_laws_toDecider p_laws_toDecider D_laws_toDecider [(.t 23)] [1],
 xC 3 25 s_laws_eqDecider p_laws_eqDecider D_laws_eqDecider [(.t 22),(.t 24)] (rg 3),
 xA 4 26 (.un .not (.t 25)) (rg 4)])
  (.cond (.t 26) (.seq [2] (.region [oa 0 2 (.mv (.c (.bool false)))])
  .ret) .skip))
  (.seq [2] (.region [oa 0 2 (.mv (.c (.bool true)))])
  .ret))))))))))
noncomputable def df_laws_FnExactIsDecider:DFun:=⟨1,27,2,true,[.tmp 2],dc_laws_FnExactIsDecider⟩
noncomputable def pf_laws_FnExactIsDecider:PFun:=df_laws_FnExactIsDecider.er
noncomputable def f_laws_FnExactIsDecider:AFun:=pf_laws_FnExactIsDecider.er
@[irreducible] noncomputable def s_laws_FnExactIsDecider:CallSem:=funSem f_laws_FnExactIsDecider
@[irreducible] noncomputable def p_laws_FnExactIsDecider:PSem:=pfunSem pf_laws_FnExactIsDecider
theorem sp_laws_FnExactIsDecider:SoundP s_laws_FnExactIsDecider p_laws_FnExactIsDecider:=by unfold s_laws_FnExactIsDecider p_laws_FnExactIsDecider;exact pfun_sound (f:=pf_laws_FnExactIsDecider) ⟨sp_laws_szDecider,sp_laws_toDecider,sp_spec_IsDecider,sp_laws_toDecider,sp_impl_IsDecider,sp_laws_toDecider,sp_laws_eqDecider,trivial⟩
def h_laws_FnExactIsDecider:List HT:=[.agg [(.frz,.int .i64),(.frz,.sl (.one (.sl rI4))),(.frz,.sl (.one (.sl rI3))),(.frz,.int .i64),(.frz,.sl rI5),(.frz,.int .i64),(.frz,.bool),(.frz,.int .i64),(.frz,.int .i64),(.frz,.int .i64),(.frz,.sl (.cons (.int .i64) (.cons (.int .i64) (.one (.bool))))),(.frz,.int .i64),(.frz,.int .i64),(.frz,.int .i64),(.frz,.int .i64)]]
def q_laws_FnExactIsDecider:QT:=.one (.one .own (.bool))
@[irreducible] noncomputable def v_laws_FnExactIsDecider(x:Int×(List (List (Int×Int×Int×Int)))×(List (List (Int×Int×Int)))×Int×(List (Int×Int×Int×Int×Int))×Int×Bool×Int×Int×Int×(List (Int×Int×Bool))×Int×Int×Int×Int):Bool:=(shut fun x=>fnV df_laws_FnExactIsDecider h_laws_FnExactIsDecider q_laws_FnExactIsDecider x).1 x
@[irreducible] noncomputable def ok_laws_FnExactIsDecider(x:Int×(List (List (Int×Int×Int×Int)))×(List (List (Int×Int×Int)))×Int×(List (Int×Int×Int×Int×Int))×Int×Bool×Int×Int×Int×(List (Int×Int×Bool))×Int×Int×Int×Int):Prop:=(shut fun x=>fnOk df_laws_FnExactIsDecider h_laws_FnExactIsDecider q_laws_FnExactIsDecider x).1 x
theorem vu_laws_FnExactIsDecider (x):v_laws_FnExactIsDecider x=fnV df_laws_FnExactIsDecider h_laws_FnExactIsDecider q_laws_FnExactIsDecider x:=by unfold v_laws_FnExactIsDecider;exact congrFun (shut _).2 x
theorem ou_laws_FnExactIsDecider (x):ok_laws_FnExactIsDecider x=fnOk df_laws_FnExactIsDecider h_laws_FnExactIsDecider q_laws_FnExactIsDecider x:=by unfold ok_laws_FnExactIsDecider;exact congrFun (shut _).2 x
theorem ck_laws_FnExactIsDecider(x:Int×(List (List (Int×Int×Int×Int)))×(List (List (Int×Int×Int)))×Int×(List (Int×Int×Int×Int×Int))×Int×Bool×Int×Int×Int×(List (Int×Int×Bool))×Int×Int×Int×Int):fnChk df_laws_FnExactIsDecider h_laws_FnExactIsDecider q_laws_FnExactIsDecider x=true:=by kernel_rfl
theorem ob_laws_FnExactIsDecider:AllD df_laws_FnExactIsDecider.body.obs:=⟨sd_laws_szDecider,sd_laws_toDecider,sd_spec_IsDecider,sd_laws_toDecider,sd_impl_IsDecider,sd_laws_toDecider,sd_laws_eqDecider,trivial⟩
theorem st_laws_FnExactIsDecider:fnSt df_laws_FnExactIsDecider h_laws_FnExactIsDecider q_laws_FnExactIsDecider=true:=by kernel_rfl
end
section
set_option maxRecDepth 100000
theorem ve_laws_szDecider (x):v_laws_szDecider x=(bSel (iLt (v_laws_szEngine ((x.1.1,x.1.2.1,x.1.2.2.1,x.1.2.2.2.1,x.1.2.2.2.2.1,x.1.2.2.2.2.2.1,x.1.2.2.2.2.2.2.1),x.2)) 0) (-1) (bSel (iLt (v_laws_szEventS (x.1.2.2.2.2.2.2.2.2.2.2.1,(v_laws_szEngine ((x.1.1,x.1.2.1,x.1.2.2.1,x.1.2.2.2.1,x.1.2.2.2.2.1,x.1.2.2.2.2.2.1,x.1.2.2.2.2.2.2.1),x.2)))) 0) (-1) (v_laws_szEventS (x.1.2.2.2.2.2.2.2.2.2.2.1,(v_laws_szEngine ((x.1.1,x.1.2.1,x.1.2.2.1,x.1.2.2.2.1,x.1.2.2.2.2.1,x.1.2.2.2.2.2.1,x.1.2.2.2.2.2.2.1),x.2)))))):=(vu_laws_szDecider x).trans (by kernel_rfl)
theorem oe_laws_szDecider (x):ok_laws_szDecider x=((ok_laws_szEngine ((x.1.1,x.1.2.1,x.1.2.2.1,x.1.2.2.2.1,x.1.2.2.2.2.1,x.1.2.2.2.2.2.1,x.1.2.2.2.2.2.2.1),x.2))∧(((iLt (v_laws_szEngine ((x.1.1,x.1.2.1,x.1.2.2.1,x.1.2.2.2.1,x.1.2.2.2.2.1,x.1.2.2.2.2.2.1,x.1.2.2.2.2.2.2.1),x.2)) 0)=true→True)∧((iLt (v_laws_szEngine ((x.1.1,x.1.2.1,x.1.2.2.1,x.1.2.2.2.1,x.1.2.2.2.2.1,x.1.2.2.2.2.2.1,x.1.2.2.2.2.2.2.1),x.2)) 0)=false→(ok_laws_szEventS (x.1.2.2.2.2.2.2.2.2.2.2.1,(v_laws_szEngine ((x.1.1,x.1.2.1,x.1.2.2.1,x.1.2.2.2.1,x.1.2.2.2.2.1,x.1.2.2.2.2.2.1,x.1.2.2.2.2.2.2.1),x.2))))))):=(ou_laws_szDecider x).trans (by kernel_rfl)
theorem ve_laws_toDecider (x):v_laws_toDecider x=((v_laws_toEngine (x.1,x.2.1,x.2.2.1,x.2.2.2.1,x.2.2.2.2.1,x.2.2.2.2.2.1,x.2.2.2.2.2.2.1)).1,(v_laws_toEngine (x.1,x.2.1,x.2.2.1,x.2.2.2.1,x.2.2.2.2.1,x.2.2.2.2.2.1,x.2.2.2.2.2.2.1)).2.1,(v_laws_toEngine (x.1,x.2.1,x.2.2.1,x.2.2.2.1,x.2.2.2.2.1,x.2.2.2.2.2.1,x.2.2.2.2.2.2.1)).2.2.1,(v_laws_toEngine (x.1,x.2.1,x.2.2.1,x.2.2.2.1,x.2.2.2.2.1,x.2.2.2.2.2.1,x.2.2.2.2.2.2.1)).2.2.2.1,(v_laws_toEngine (x.1,x.2.1,x.2.2.1,x.2.2.2.1,x.2.2.2.2.1,x.2.2.2.2.2.1,x.2.2.2.2.2.2.1)).2.2.2.2.1,(v_laws_toEngine (x.1,x.2.1,x.2.2.1,x.2.2.2.1,x.2.2.2.2.1,x.2.2.2.2.2.1,x.2.2.2.2.2.2.1)).2.2.2.2.2.1,(v_laws_toEngine (x.1,x.2.1,x.2.2.1,x.2.2.2.1,x.2.2.2.2.1,x.2.2.2.2.2.1,x.2.2.2.2.2.2.1)).2.2.2.2.2.2,(v_laws_toTiming (x.2.2.2.2.2.2.2.1,x.2.2.2.2.2.2.2.2.1,x.2.2.2.2.2.2.2.2.2.1)).1,(v_laws_toTiming (x.2.2.2.2.2.2.2.1,x.2.2.2.2.2.2.2.2.1,x.2.2.2.2.2.2.2.2.2.1)).2.1,(v_laws_toTiming (x.2.2.2.2.2.2.2.1,x.2.2.2.2.2.2.2.2.1,x.2.2.2.2.2.2.2.2.2.1)).2.2,(v_laws_toEventS x.2.2.2.2.2.2.2.2.2.2.1),x.2.2.2.2.2.2.2.2.2.2.2.1,x.2.2.2.2.2.2.2.2.2.2.2.2.1,x.2.2.2.2.2.2.2.2.2.2.2.2.2.1,x.2.2.2.2.2.2.2.2.2.2.2.2.2.2):=(vu_laws_toDecider x).trans (by kernel_rfl)
theorem oe_laws_toDecider (x):ok_laws_toDecider x=((ok_laws_toEngine (x.1,x.2.1,x.2.2.1,x.2.2.2.1,x.2.2.2.2.1,x.2.2.2.2.2.1,x.2.2.2.2.2.2.1))∧((ok_laws_toTiming (x.2.2.2.2.2.2.2.1,x.2.2.2.2.2.2.2.2.1,x.2.2.2.2.2.2.2.2.2.1))∧(ok_laws_toEventS x.2.2.2.2.2.2.2.2.2.2.1))):=(ou_laws_toDecider x).trans (by kernel_rfl)
theorem ve_spec_l10Bit (x):v_spec_l10Bit x=(bSel (bNot (v_spec_l1In (x,0,31))) 0 (iShl .i64 1 x)):=(vu_spec_l10Bit x).trans (by kernel_rfl)
theorem oe_spec_l10Bit (x):ok_spec_l10Bit x=((ok_spec_l1In (x,0,31))∧(((bNot (v_spec_l1In (x,0,31)))=true→True)∧((bNot (v_spec_l1In (x,0,31)))=false→((0:Int)≤x)))):=(ou_spec_l10Bit x).trans (by kernel_rfl)
noncomputable def lc_spec_l10Held_1(x:Int×(List (List (Int×Int×Int×Int)))×(List (List (Int×Int×Int)))×Int×(List (Int×Int×Int×Int×Int))×Int×Bool)(x0:(Int×Int)):Bool:=(iLt x0.2 (lLen x.2.2.2.2.1))
noncomputable def lf_spec_l10Held_1(x:Int×(List (List (Int×Int×Int×Int)))×(List (List (Int×Int×Int)))×Int×(List (Int×Int×Int×Int×Int))×Int×Bool)(x0:(Int×Int)):(Int×Int):=((iOr .i64 x0.1 (v_spec_l10Bit (lGet x.2.2.2.2.1 (iNat x0.2) (0,0,0,0,0)).1)),(iAdd .i64 x0.2 1))
noncomputable def lp_spec_l10Held_1(x:Int×(List (List (Int×Int×Int×Int)))×(List (List (Int×Int×Int)))×Int×(List (Int×Int×Int×Int×Int))×Int×Bool)(x0:(Int×Int)):Prop:=(((iLt x0.2 (lLen x.2.2.2.2.1))=true→((((0:Int)≤x0.2)∧(x0.2<(((List.length x.2.2.2.2.1):Int))))∧(((iNat x0.2)<(List.length x.2.2.2.2.1))∧(ok_spec_l10Bit (lGet x.2.2.2.2.1 (iNat x0.2) (0,0,0,0,0)).1))))∧((iLt x0.2 (lLen x.2.2.2.2.1))=false→True))
theorem ve_spec_l10Held (x):v_spec_l10Held x=(loopV (lc_spec_l10Held_1 x) (lf_spec_l10Held_1 x) (0,0)).1:=(vu_spec_l10Held x).trans (by kernel_rfl)
theorem oe_spec_l10Held (x):ok_spec_l10Held x=(LoopOk (lc_spec_l10Held_1 x) (lf_spec_l10Held_1 x) (lp_spec_l10Held_1 x) (0,0)):=(ou_spec_l10Held x).trans (by kernel_rfl)
noncomputable def lc_spec_l10Follows_1(x:(List (Int×Int×Bool))×Int×Int×Int)(x0:(Int×(Int×Int))):Bool:=(bAnd (iLt x0.2.2 (lLen x.1)) (bNot (bOr (bNot (v_spec_IsEvent (lGet x.1 (iNat x0.2.2) (0,0,false)))) (bOr (iGe (lGet x.1 (iNat x0.2.2) (0,0,false)).2.1 x.2.2.1) (bOr (iLt (lGet x.1 (iNat x0.2.2) (0,0,false)).1 x0.2.1) (bIff (lGet x.1 (iNat x0.2.2) (0,0,false)).2.2 (iEq (iAnd .i64 (iShr .i64 x0.1 (lGet x.1 (iNat x0.2.2) (0,0,false)).2.1) 1) 1)))))))
noncomputable def lf_spec_l10Follows_1(x:(List (Int×Int×Bool))×Int×Int×Int)(x0:(Int×(Int×Int))):(Int×(Int×Int)):=((iXor .i64 x0.1 (iShl .i64 1 (lGet x.1 (iNat x0.2.2) (0,0,false)).2.1)),(lGet x.1 (iNat x0.2.2) (0,0,false)).1,(iAdd .i64 x0.2.2 1))
noncomputable def lp_spec_l10Follows_1(x:(List (Int×Int×Bool))×Int×Int×Int)(x0:(Int×(Int×Int))):Prop:=(((iLt x0.2.2 (lLen x.1))=true→(((((0:Int)≤x0.2.2)∧(x0.2.2<(((List.length x.1):Int))))∧(((iNat x0.2.2)<(List.length x.1))∧((ok_spec_IsEvent (lGet x.1 (iNat x0.2.2) (0,0,false)))∧(((bNot (v_spec_IsEvent (lGet x.1 (iNat x0.2.2) (0,0,false))))=true→True)∧((bNot (v_spec_IsEvent (lGet x.1 (iNat x0.2.2) (0,0,false))))=false→((((0:Int)≤x0.2.2)∧(x0.2.2<(((List.length x.1):Int))))∧(((iNat x0.2.2)<(List.length x.1))∧(((iGe (lGet x.1 (iNat x0.2.2) (0,0,false)).2.1 x.2.2.1)=true→True)∧((iGe (lGet x.1 (iNat x0.2.2) (0,0,false)).2.1 x.2.2.1)=false→((((0:Int)≤x0.2.2)∧(x0.2.2<(((List.length x.1):Int))))∧(((iNat x0.2.2)<(List.length x.1))∧(((iLt (lGet x.1 (iNat x0.2.2) (0,0,false)).1 x0.2.1)=true→True)∧((iLt (lGet x.1 (iNat x0.2.2) (0,0,false)).1 x0.2.1)=false→((((0:Int)≤x0.2.2)∧(x0.2.2<(((List.length x.1):Int))))∧(((iNat x0.2.2)<(List.length x.1))∧((((0:Int)≤x0.2.2)∧(x0.2.2<(((List.length x.1):Int))))∧(((iNat x0.2.2)<(List.length x.1))∧((0:Int)≤(lGet x.1 (iNat x0.2.2) (0,0,false)).2.1))))))))))))))))))∧(((bOr (bNot (v_spec_IsEvent (lGet x.1 (iNat x0.2.2) (0,0,false)))) (bOr (iGe (lGet x.1 (iNat x0.2.2) (0,0,false)).2.1 x.2.2.1) (bOr (iLt (lGet x.1 (iNat x0.2.2) (0,0,false)).1 x0.2.1) (bIff (lGet x.1 (iNat x0.2.2) (0,0,false)).2.2 (iEq (iAnd .i64 (iShr .i64 x0.1 (lGet x.1 (iNat x0.2.2) (0,0,false)).2.1) 1) 1)))))=true→True)∧((bOr (bNot (v_spec_IsEvent (lGet x.1 (iNat x0.2.2) (0,0,false)))) (bOr (iGe (lGet x.1 (iNat x0.2.2) (0,0,false)).2.1 x.2.2.1) (bOr (iLt (lGet x.1 (iNat x0.2.2) (0,0,false)).1 x0.2.1) (bIff (lGet x.1 (iNat x0.2.2) (0,0,false)).2.2 (iEq (iAnd .i64 (iShr .i64 x0.1 (lGet x.1 (iNat x0.2.2) (0,0,false)).2.1) 1) 1)))))=false→((((0:Int)≤x0.2.2)∧(x0.2.2<(((List.length x.1):Int))))∧(((iNat x0.2.2)<(List.length x.1))∧((((0:Int)≤x0.2.2)∧(x0.2.2<(((List.length x.1):Int))))∧(((iNat x0.2.2)<(List.length x.1))∧((0:Int)≤(lGet x.1 (iNat x0.2.2) (0,0,false)).2.1)))))))))∧((iLt x0.2.2 (lLen x.1))=false→True))
theorem ve_spec_l10Follows (x):v_spec_l10Follows x=(bAnd (bNot (iLt (loopV (lc_spec_l10Follows_1 x) (lf_spec_l10Follows_1 x) (x.2.1,x.2.2.2,0)).2.2 (lLen x.1))) (iLe (lLen x.1) 64)):=(vu_spec_l10Follows x).trans (by kernel_rfl)
theorem oe_spec_l10Follows (x):ok_spec_l10Follows x=(LoopOk (lc_spec_l10Follows_1 x) (lf_spec_l10Follows_1 x) (lp_spec_l10Follows_1 x) (x.2.1,x.2.2.2,0)):=(ou_spec_l10Follows x).trans (by kernel_rfl)
theorem ve_spec_IsDecider (x):v_spec_IsDecider x=(bAnd (bNot (bOr (bNot (v_spec_IsEngine (x.1,x.2.1,x.2.2.1,x.2.2.2.1,x.2.2.2.2.1,x.2.2.2.2.2.1,x.2.2.2.2.2.2.1))) (bOr (bNot (v_spec_IsTiming (x.2.2.2.2.2.2.2.1,x.2.2.2.2.2.2.2.2.1,x.2.2.2.2.2.2.2.2.2.1))) (bOr (bNot (v_spec_l1In (x.2.2.2.2.2.2.2.2.2.2.2.1,0,1000000))) (bNot (v_spec_l1In (x.2.2.2.2.2.2.2.2.2.2.2.2.1,0,x.2.2.2.2.2.2.2.2.2.2.2.1))))))) (bAnd (bNot (bOr (bNot (v_spec_l10Follows (x.2.2.2.2.2.2.2.2.2.2.1,(v_spec_l10Held (x.1,x.2.1,x.2.2.1,x.2.2.2.1,x.2.2.2.2.1,x.2.2.2.2.2.1,x.2.2.2.2.2.2.1)),x.1,0))) (bAnd (iGt (lLen x.2.2.2.2.2.2.2.2.2.2.1) 0) (iGt (lGet x.2.2.2.2.2.2.2.2.2.2.1 (iNat (iSub .i64 (lLen x.2.2.2.2.2.2.2.2.2.2.1) 1)) (0,0,false)).1 x.2.2.2.2.2.2.2.2.2.2.2.1)))) (bAnd (v_spec_l1In (x.2.2.2.2.2.2.2.2.2.2.2.2.2.1,0,x.1)) (v_spec_l1In (x.2.2.2.2.2.2.2.2.2.2.2.2.2.2,0,x.2.2.2.2.2.2.2.2.2.2.2.1))))):=(vu_spec_IsDecider x).trans (by kernel_rfl)
theorem oe_spec_IsDecider (x):ok_spec_IsDecider x=(((ok_spec_IsEngine (x.1,x.2.1,x.2.2.1,x.2.2.2.1,x.2.2.2.2.1,x.2.2.2.2.2.1,x.2.2.2.2.2.2.1))∧(((bNot (v_spec_IsEngine (x.1,x.2.1,x.2.2.1,x.2.2.2.1,x.2.2.2.2.1,x.2.2.2.2.2.1,x.2.2.2.2.2.2.1)))=true→True)∧((bNot (v_spec_IsEngine (x.1,x.2.1,x.2.2.1,x.2.2.2.1,x.2.2.2.2.1,x.2.2.2.2.2.1,x.2.2.2.2.2.2.1)))=false→((ok_spec_IsTiming (x.2.2.2.2.2.2.2.1,x.2.2.2.2.2.2.2.2.1,x.2.2.2.2.2.2.2.2.2.1))∧(((bNot (v_spec_IsTiming (x.2.2.2.2.2.2.2.1,x.2.2.2.2.2.2.2.2.1,x.2.2.2.2.2.2.2.2.2.1)))=true→True)∧((bNot (v_spec_IsTiming (x.2.2.2.2.2.2.2.1,x.2.2.2.2.2.2.2.2.1,x.2.2.2.2.2.2.2.2.2.1)))=false→((ok_spec_l1In (x.2.2.2.2.2.2.2.2.2.2.2.1,0,1000000))∧(((bNot (v_spec_l1In (x.2.2.2.2.2.2.2.2.2.2.2.1,0,1000000)))=true→True)∧((bNot (v_spec_l1In (x.2.2.2.2.2.2.2.2.2.2.2.1,0,1000000)))=false→(ok_spec_l1In (x.2.2.2.2.2.2.2.2.2.2.2.2.1,0,x.2.2.2.2.2.2.2.2.2.2.2.1)))))))))))∧(((bOr (bNot (v_spec_IsEngine (x.1,x.2.1,x.2.2.1,x.2.2.2.1,x.2.2.2.2.1,x.2.2.2.2.2.1,x.2.2.2.2.2.2.1))) (bOr (bNot (v_spec_IsTiming (x.2.2.2.2.2.2.2.1,x.2.2.2.2.2.2.2.2.1,x.2.2.2.2.2.2.2.2.2.1))) (bOr (bNot (v_spec_l1In (x.2.2.2.2.2.2.2.2.2.2.2.1,0,1000000))) (bNot (v_spec_l1In (x.2.2.2.2.2.2.2.2.2.2.2.2.1,0,x.2.2.2.2.2.2.2.2.2.2.2.1))))))=true→True)∧((bOr (bNot (v_spec_IsEngine (x.1,x.2.1,x.2.2.1,x.2.2.2.1,x.2.2.2.2.1,x.2.2.2.2.2.1,x.2.2.2.2.2.2.1))) (bOr (bNot (v_spec_IsTiming (x.2.2.2.2.2.2.2.1,x.2.2.2.2.2.2.2.2.1,x.2.2.2.2.2.2.2.2.2.1))) (bOr (bNot (v_spec_l1In (x.2.2.2.2.2.2.2.2.2.2.2.1,0,1000000))) (bNot (v_spec_l1In (x.2.2.2.2.2.2.2.2.2.2.2.2.1,0,x.2.2.2.2.2.2.2.2.2.2.2.1))))))=false→(((ok_spec_l10Held (x.1,x.2.1,x.2.2.1,x.2.2.2.1,x.2.2.2.2.1,x.2.2.2.2.2.1,x.2.2.2.2.2.2.1))∧((ok_spec_l10Follows (x.2.2.2.2.2.2.2.2.2.2.1,(v_spec_l10Held (x.1,x.2.1,x.2.2.1,x.2.2.2.1,x.2.2.2.2.1,x.2.2.2.2.2.1,x.2.2.2.2.2.2.1)),x.1,0))∧(((bNot (v_spec_l10Follows (x.2.2.2.2.2.2.2.2.2.2.1,(v_spec_l10Held (x.1,x.2.1,x.2.2.1,x.2.2.2.1,x.2.2.2.2.1,x.2.2.2.2.2.1,x.2.2.2.2.2.2.1)),x.1,0)))=true→True)∧((bNot (v_spec_l10Follows (x.2.2.2.2.2.2.2.2.2.2.1,(v_spec_l10Held (x.1,x.2.1,x.2.2.1,x.2.2.2.1,x.2.2.2.2.1,x.2.2.2.2.2.1,x.2.2.2.2.2.2.1)),x.1,0)))=false→(((iGt (lLen x.2.2.2.2.2.2.2.2.2.2.1) 0)=true→((((0:Int)≤(iSub .i64 (lLen x.2.2.2.2.2.2.2.2.2.2.1) 1))∧((iSub .i64 (lLen x.2.2.2.2.2.2.2.2.2.2.1) 1)<(((List.length x.2.2.2.2.2.2.2.2.2.2.1):Int))))∧((iNat (iSub .i64 (lLen x.2.2.2.2.2.2.2.2.2.2.1) 1))<(List.length x.2.2.2.2.2.2.2.2.2.2.1))))∧((iGt (lLen x.2.2.2.2.2.2.2.2.2.2.1) 0)=false→True))))))∧(((bOr (bNot (v_spec_l10Follows (x.2.2.2.2.2.2.2.2.2.2.1,(v_spec_l10Held (x.1,x.2.1,x.2.2.1,x.2.2.2.1,x.2.2.2.2.1,x.2.2.2.2.2.1,x.2.2.2.2.2.2.1)),x.1,0))) (bAnd (iGt (lLen x.2.2.2.2.2.2.2.2.2.2.1) 0) (iGt (lGet x.2.2.2.2.2.2.2.2.2.2.1 (iNat (iSub .i64 (lLen x.2.2.2.2.2.2.2.2.2.2.1) 1)) (0,0,false)).1 x.2.2.2.2.2.2.2.2.2.2.2.1)))=true→True)∧((bOr (bNot (v_spec_l10Follows (x.2.2.2.2.2.2.2.2.2.2.1,(v_spec_l10Held (x.1,x.2.1,x.2.2.1,x.2.2.2.1,x.2.2.2.2.1,x.2.2.2.2.2.1,x.2.2.2.2.2.2.1)),x.1,0))) (bAnd (iGt (lLen x.2.2.2.2.2.2.2.2.2.2.1) 0) (iGt (lGet x.2.2.2.2.2.2.2.2.2.2.1 (iNat (iSub .i64 (lLen x.2.2.2.2.2.2.2.2.2.2.1) 1)) (0,0,false)).1 x.2.2.2.2.2.2.2.2.2.2.2.1)))=false→((ok_spec_l1In (x.2.2.2.2.2.2.2.2.2.2.2.2.2.1,0,x.1))∧(((v_spec_l1In (x.2.2.2.2.2.2.2.2.2.2.2.2.2.1,0,x.1))=true→(ok_spec_l1In (x.2.2.2.2.2.2.2.2.2.2.2.2.2.2,0,x.2.2.2.2.2.2.2.2.2.2.2.1)))∧((v_spec_l1In (x.2.2.2.2.2.2.2.2.2.2.2.2.2.1,0,x.1))=false→True))))))))):=(ou_spec_IsDecider x).trans (by kernel_rfl)
noncomputable def lc_impl_heldMask_1(x:List (Int×Int×Int×Int×Int))(x0:(Int×Int)):Bool:=(iLt x0.2 (lLen x))
noncomputable def lf_impl_heldMask_1(x:List (Int×Int×Int×Int×Int))(x0:(Int×Int)):(Int×Int):=((iOr .i64 x0.1 (iShl .i64 1 (lGet x (iNat x0.2) (0,0,0,0,0)).1)),(iAdd .i64 x0.2 1))
noncomputable def lp_impl_heldMask_1(x:List (Int×Int×Int×Int×Int))(x0:(Int×Int)):Prop:=(((iLt x0.2 (lLen x))=true→((((0:Int)≤x0.2)∧(x0.2<(((List.length x):Int))))∧(((iNat x0.2)<(List.length x))∧((0:Int)≤(lGet x (iNat x0.2) (0,0,0,0,0)).1))))∧((iLt x0.2 (lLen x))=false→True))
theorem ve_impl_heldMask (x):v_impl_heldMask x=(loopV (lc_impl_heldMask_1 x) (lf_impl_heldMask_1 x) (0,0)).1:=(vu_impl_heldMask x).trans (by kernel_rfl)
theorem oe_impl_heldMask (x):ok_impl_heldMask x=(LoopOk (lc_impl_heldMask_1 x) (lf_impl_heldMask_1 x) (lp_impl_heldMask_1 x) (0,0)):=(ou_impl_heldMask x).trans (by kernel_rfl)
noncomputable def lc_impl_follow_1(x:(List (Int×Int×Bool))×Int)(x0:(Int×Int)):Bool:=(bAnd (iLt x0.2 (lLen x.1)) (bNot (bOr (bNot (v_impl_IsEvent (lGet x.1 (iNat x0.2) (0,0,false)))) (bSel (iGt x0.2 0) (bOr (iGt (lGet x.1 (iNat (iSub .i64 x0.2 1)) (0,0,false)).1 (lGet x.1 (iNat x0.2) (0,0,false)).1) (bIff (lGet x.1 (iNat x0.2) (0,0,false)).2.2 (iEq (v_impl_bit (x0.1,(lGet x.1 (iNat x0.2) (0,0,false)).2.1)) 1))) (bIff (lGet x.1 (iNat x0.2) (0,0,false)).2.2 (iEq (v_impl_bit (x0.1,(lGet x.1 (iNat x0.2) (0,0,false)).2.1)) 1))))))
noncomputable def lf_impl_follow_1(x:(List (Int×Int×Bool))×Int)(x0:(Int×Int)):(Int×Int):=((iXor .i64 x0.1 (iShl .i64 1 (lGet x.1 (iNat x0.2) (0,0,false)).2.1)),(iAdd .i64 x0.2 1))
noncomputable def lp_impl_follow_1(x:(List (Int×Int×Bool))×Int)(x0:(Int×Int)):Prop:=(((iLt x0.2 (lLen x.1))=true→((((0:Int)≤x0.2)∧(x0.2<(((List.length x.1):Int))))∧(((iNat x0.2)<(List.length x.1))∧(((ok_impl_IsEvent (lGet x.1 (iNat x0.2) (0,0,false)))∧(((bNot (v_impl_IsEvent (lGet x.1 (iNat x0.2) (0,0,false))))=true→True)∧((bNot (v_impl_IsEvent (lGet x.1 (iNat x0.2) (0,0,false))))=false→(((iGt x0.2 0)=true→((((0:Int)≤(iSub .i64 x0.2 1))∧((iSub .i64 x0.2 1)<(((List.length x.1):Int))))∧(((iNat (iSub .i64 x0.2 1))<(List.length x.1))∧(((iGt (lGet x.1 (iNat (iSub .i64 x0.2 1)) (0,0,false)).1 (lGet x.1 (iNat x0.2) (0,0,false)).1)=true→True)∧((iGt (lGet x.1 (iNat (iSub .i64 x0.2 1)) (0,0,false)).1 (lGet x.1 (iNat x0.2) (0,0,false)).1)=false→(ok_impl_bit (x0.1,(lGet x.1 (iNat x0.2) (0,0,false)).2.1)))))))∧((iGt x0.2 0)=false→(ok_impl_bit (x0.1,(lGet x.1 (iNat x0.2) (0,0,false)).2.1)))))))∧(((bOr (bNot (v_impl_IsEvent (lGet x.1 (iNat x0.2) (0,0,false)))) (bSel (iGt x0.2 0) (bOr (iGt (lGet x.1 (iNat (iSub .i64 x0.2 1)) (0,0,false)).1 (lGet x.1 (iNat x0.2) (0,0,false)).1) (bIff (lGet x.1 (iNat x0.2) (0,0,false)).2.2 (iEq (v_impl_bit (x0.1,(lGet x.1 (iNat x0.2) (0,0,false)).2.1)) 1))) (bIff (lGet x.1 (iNat x0.2) (0,0,false)).2.2 (iEq (v_impl_bit (x0.1,(lGet x.1 (iNat x0.2) (0,0,false)).2.1)) 1))))=true→True)∧((bOr (bNot (v_impl_IsEvent (lGet x.1 (iNat x0.2) (0,0,false)))) (bSel (iGt x0.2 0) (bOr (iGt (lGet x.1 (iNat (iSub .i64 x0.2 1)) (0,0,false)).1 (lGet x.1 (iNat x0.2) (0,0,false)).1) (bIff (lGet x.1 (iNat x0.2) (0,0,false)).2.2 (iEq (v_impl_bit (x0.1,(lGet x.1 (iNat x0.2) (0,0,false)).2.1)) 1))) (bIff (lGet x.1 (iNat x0.2) (0,0,false)).2.2 (iEq (v_impl_bit (x0.1,(lGet x.1 (iNat x0.2) (0,0,false)).2.1)) 1))))=false→((0:Int)≤(lGet x.1 (iNat x0.2) (0,0,false)).2.1)))))))∧((iLt x0.2 (lLen x.1))=false→True))
theorem ve_impl_follow (x):v_impl_follow x=(bSel (iGt (lLen x.1) 64) (0,false) (bSel (iLt (loopV (lc_impl_follow_1 x) (lf_impl_follow_1 x) (x.2,0)).2 (lLen x.1)) (0,false) ((loopV (lc_impl_follow_1 x) (lf_impl_follow_1 x) (x.2,0)).1,true))):=(vu_impl_follow x).trans (by kernel_rfl)
theorem oe_impl_follow (x):ok_impl_follow x=(((iGt (lLen x.1) 64)=true→True)∧((iGt (lLen x.1) 64)=false→(LoopOk (lc_impl_follow_1 x) (lf_impl_follow_1 x) (lp_impl_follow_1 x) (x.2,0)))):=(ou_impl_follow x).trans (by kernel_rfl)
noncomputable def lc_impl_queueFits_1(x:(List (Int×Int×Bool))×Int×Int)(x0:Int):Bool:=(bAnd (iLt x0 (lLen x.1)) (bNot (iGe (lGet x.1 (iNat x0) (0,0,false)).2.1 x.2.2)))
noncomputable def lf_impl_queueFits_1(x0:Int):Int:=(iAdd .i64 x0 1)
noncomputable def lp_impl_queueFits_1(x:(List (Int×Int×Bool))×Int×Int)(x0:Int):Prop:=(((iLt x0 (lLen x.1))=true→((((0:Int)≤x0)∧(x0<(((List.length x.1):Int))))∧((iNat x0)<(List.length x.1))))∧((iLt x0 (lLen x.1))=false→True))
theorem ve_impl_queueFits (x):v_impl_queueFits x=(bAnd (bNot (iLt (loopV (lc_impl_queueFits_1 x) lf_impl_queueFits_1 0) (lLen x.1))) (v_impl_follow (x.1,x.2.1)).2):=(vu_impl_queueFits x).trans (by kernel_rfl)
theorem oe_impl_queueFits (x):ok_impl_queueFits x=((LoopOk (lc_impl_queueFits_1 x) lf_impl_queueFits_1 (lp_impl_queueFits_1 x) 0)∧(((iLt (loopV (lc_impl_queueFits_1 x) lf_impl_queueFits_1 0) (lLen x.1))=true→True)∧((iLt (loopV (lc_impl_queueFits_1 x) lf_impl_queueFits_1 0) (lLen x.1))=false→(ok_impl_follow (x.1,x.2.1))))):=(ou_impl_queueFits x).trans (by kernel_rfl)
theorem ve_impl_notBehind (x):v_impl_notBehind x=(bOr (iEq (lLen x.1) 0) (iLe (lGet x.1 (iNat (iSub .i64 (lLen x.1) 1)) (0,0,false)).1 x.2)):=(vu_impl_notBehind x).trans (by kernel_rfl)
theorem oe_impl_notBehind (x):ok_impl_notBehind x=(((iEq (lLen x.1) 0)=true→True)∧((iEq (lLen x.1) 0)=false→((((0:Int)≤(iSub .i64 (lLen x.1) 1))∧((iSub .i64 (lLen x.1) 1)<(((List.length x.1):Int))))∧((iNat (iSub .i64 (lLen x.1) 1))<(List.length x.1))))):=(ou_impl_notBehind x).trans (by kernel_rfl)
theorem ve_impl_IsDecider (x):v_impl_IsDecider x=(bAnd (bNot (bOr (bNot (v_impl_IsEngine (x.1,x.2.1,x.2.2.1,x.2.2.2.1,x.2.2.2.2.1,x.2.2.2.2.2.1,x.2.2.2.2.2.2.1))) (bOr (bNot (v_impl_IsTiming (x.2.2.2.2.2.2.2.1,x.2.2.2.2.2.2.2.2.1,x.2.2.2.2.2.2.2.2.2.1))) (bOr (iLt x.2.2.2.2.2.2.2.2.2.2.2.1 0) (bOr (iGt x.2.2.2.2.2.2.2.2.2.2.2.1 1000000) (bOr (iLt x.2.2.2.2.2.2.2.2.2.2.2.2.1 0) (iGt x.2.2.2.2.2.2.2.2.2.2.2.2.1 x.2.2.2.2.2.2.2.2.2.2.2.1))))))) (bAnd (bNot (bOr (bNot (v_impl_queueFits (x.2.2.2.2.2.2.2.2.2.2.1,(v_impl_heldMask x.2.2.2.2.1),x.1))) (bNot (v_impl_notBehind (x.2.2.2.2.2.2.2.2.2.2.1,x.2.2.2.2.2.2.2.2.2.2.2.1))))) (bAnd (iGe x.2.2.2.2.2.2.2.2.2.2.2.2.2.1 0) (bAnd (iLe x.2.2.2.2.2.2.2.2.2.2.2.2.2.1 x.1) (bAnd (iGe x.2.2.2.2.2.2.2.2.2.2.2.2.2.2 0) (iLe x.2.2.2.2.2.2.2.2.2.2.2.2.2.2 x.2.2.2.2.2.2.2.2.2.2.2.1)))))):=(vu_impl_IsDecider x).trans (by kernel_rfl)
theorem oe_impl_IsDecider (x):ok_impl_IsDecider x=(((ok_impl_IsEngine (x.1,x.2.1,x.2.2.1,x.2.2.2.1,x.2.2.2.2.1,x.2.2.2.2.2.1,x.2.2.2.2.2.2.1))∧(((bNot (v_impl_IsEngine (x.1,x.2.1,x.2.2.1,x.2.2.2.1,x.2.2.2.2.1,x.2.2.2.2.2.1,x.2.2.2.2.2.2.1)))=true→True)∧((bNot (v_impl_IsEngine (x.1,x.2.1,x.2.2.1,x.2.2.2.1,x.2.2.2.2.1,x.2.2.2.2.2.1,x.2.2.2.2.2.2.1)))=false→(ok_impl_IsTiming (x.2.2.2.2.2.2.2.1,x.2.2.2.2.2.2.2.2.1,x.2.2.2.2.2.2.2.2.2.1)))))∧(((bOr (bNot (v_impl_IsEngine (x.1,x.2.1,x.2.2.1,x.2.2.2.1,x.2.2.2.2.1,x.2.2.2.2.2.1,x.2.2.2.2.2.2.1))) (bOr (bNot (v_impl_IsTiming (x.2.2.2.2.2.2.2.1,x.2.2.2.2.2.2.2.2.1,x.2.2.2.2.2.2.2.2.2.1))) (bOr (iLt x.2.2.2.2.2.2.2.2.2.2.2.1 0) (bOr (iGt x.2.2.2.2.2.2.2.2.2.2.2.1 1000000) (bOr (iLt x.2.2.2.2.2.2.2.2.2.2.2.2.1 0) (iGt x.2.2.2.2.2.2.2.2.2.2.2.2.1 x.2.2.2.2.2.2.2.2.2.2.2.1))))))=true→True)∧((bOr (bNot (v_impl_IsEngine (x.1,x.2.1,x.2.2.1,x.2.2.2.1,x.2.2.2.2.1,x.2.2.2.2.2.1,x.2.2.2.2.2.2.1))) (bOr (bNot (v_impl_IsTiming (x.2.2.2.2.2.2.2.1,x.2.2.2.2.2.2.2.2.1,x.2.2.2.2.2.2.2.2.2.1))) (bOr (iLt x.2.2.2.2.2.2.2.2.2.2.2.1 0) (bOr (iGt x.2.2.2.2.2.2.2.2.2.2.2.1 1000000) (bOr (iLt x.2.2.2.2.2.2.2.2.2.2.2.2.1 0) (iGt x.2.2.2.2.2.2.2.2.2.2.2.2.1 x.2.2.2.2.2.2.2.2.2.2.2.1))))))=false→((ok_impl_heldMask x.2.2.2.2.1)∧((ok_impl_queueFits (x.2.2.2.2.2.2.2.2.2.2.1,(v_impl_heldMask x.2.2.2.2.1),x.1))∧(((bNot (v_impl_queueFits (x.2.2.2.2.2.2.2.2.2.2.1,(v_impl_heldMask x.2.2.2.2.1),x.1)))=true→True)∧((bNot (v_impl_queueFits (x.2.2.2.2.2.2.2.2.2.2.1,(v_impl_heldMask x.2.2.2.2.1),x.1)))=false→(ok_impl_notBehind (x.2.2.2.2.2.2.2.2.2.2.1,x.2.2.2.2.2.2.2.2.2.2.2.1))))))))):=(ou_impl_IsDecider x).trans (by kernel_rfl)
theorem ve_laws_eqTiming (x):v_laws_eqTiming x=(bAnd (bNot (iNe x.1.1 x.2.1)) (bAnd (bNot (iNe x.1.2.1 x.2.2.1)) (bNot (iNe x.1.2.2 x.2.2.2)))):=(vu_laws_eqTiming x).trans (by kernel_rfl)
theorem oe_laws_eqTiming (x):ok_laws_eqTiming x=True:=(ou_laws_eqTiming x).trans (by kernel_rfl)
theorem ve_laws_eqDecider (x):v_laws_eqDecider x=(bAnd (bNot (bNot (v_laws_eqEngine ((x.1.1,x.1.2.1,x.1.2.2.1,x.1.2.2.2.1,x.1.2.2.2.2.1,x.1.2.2.2.2.2.1,x.1.2.2.2.2.2.2.1),x.2.1,x.2.2.1,x.2.2.2.1,x.2.2.2.2.1,x.2.2.2.2.2.1,x.2.2.2.2.2.2.1,x.2.2.2.2.2.2.2.1)))) (bAnd (bNot (bNot (v_laws_eqTiming ((x.1.2.2.2.2.2.2.2.1,x.1.2.2.2.2.2.2.2.2.1,x.1.2.2.2.2.2.2.2.2.2.1),x.2.2.2.2.2.2.2.2.1,x.2.2.2.2.2.2.2.2.2.1,x.2.2.2.2.2.2.2.2.2.2.1)))) (bAnd (bNot (bNot (v_laws_eqEventS (x.1.2.2.2.2.2.2.2.2.2.2.1,x.2.2.2.2.2.2.2.2.2.2.2.1)))) (bAnd (bNot (iNe x.1.2.2.2.2.2.2.2.2.2.2.2.1 x.2.2.2.2.2.2.2.2.2.2.2.2.1)) (bAnd (bNot (iNe x.1.2.2.2.2.2.2.2.2.2.2.2.2.1 x.2.2.2.2.2.2.2.2.2.2.2.2.2.1)) (bAnd (bNot (iNe x.1.2.2.2.2.2.2.2.2.2.2.2.2.2.1 x.2.2.2.2.2.2.2.2.2.2.2.2.2.2.1)) (bNot (iNe x.1.2.2.2.2.2.2.2.2.2.2.2.2.2.2 x.2.2.2.2.2.2.2.2.2.2.2.2.2.2.2)))))))):=(vu_laws_eqDecider x).trans (by kernel_rfl)
theorem oe_laws_eqDecider (x):ok_laws_eqDecider x=((ok_laws_eqEngine ((x.1.1,x.1.2.1,x.1.2.2.1,x.1.2.2.2.1,x.1.2.2.2.2.1,x.1.2.2.2.2.2.1,x.1.2.2.2.2.2.2.1),x.2.1,x.2.2.1,x.2.2.2.1,x.2.2.2.2.1,x.2.2.2.2.2.1,x.2.2.2.2.2.2.1,x.2.2.2.2.2.2.2.1))∧(((bNot (v_laws_eqEngine ((x.1.1,x.1.2.1,x.1.2.2.1,x.1.2.2.2.1,x.1.2.2.2.2.1,x.1.2.2.2.2.2.1,x.1.2.2.2.2.2.2.1),x.2.1,x.2.2.1,x.2.2.2.1,x.2.2.2.2.1,x.2.2.2.2.2.1,x.2.2.2.2.2.2.1,x.2.2.2.2.2.2.2.1)))=true→True)∧((bNot (v_laws_eqEngine ((x.1.1,x.1.2.1,x.1.2.2.1,x.1.2.2.2.1,x.1.2.2.2.2.1,x.1.2.2.2.2.2.1,x.1.2.2.2.2.2.2.1),x.2.1,x.2.2.1,x.2.2.2.1,x.2.2.2.2.1,x.2.2.2.2.2.1,x.2.2.2.2.2.2.1,x.2.2.2.2.2.2.2.1)))=false→((ok_laws_eqTiming ((x.1.2.2.2.2.2.2.2.1,x.1.2.2.2.2.2.2.2.2.1,x.1.2.2.2.2.2.2.2.2.2.1),x.2.2.2.2.2.2.2.2.1,x.2.2.2.2.2.2.2.2.2.1,x.2.2.2.2.2.2.2.2.2.2.1))∧(((bNot (v_laws_eqTiming ((x.1.2.2.2.2.2.2.2.1,x.1.2.2.2.2.2.2.2.2.1,x.1.2.2.2.2.2.2.2.2.2.1),x.2.2.2.2.2.2.2.2.1,x.2.2.2.2.2.2.2.2.2.1,x.2.2.2.2.2.2.2.2.2.2.1)))=true→True)∧((bNot (v_laws_eqTiming ((x.1.2.2.2.2.2.2.2.1,x.1.2.2.2.2.2.2.2.2.1,x.1.2.2.2.2.2.2.2.2.2.1),x.2.2.2.2.2.2.2.2.1,x.2.2.2.2.2.2.2.2.2.1,x.2.2.2.2.2.2.2.2.2.2.1)))=false→(ok_laws_eqEventS (x.1.2.2.2.2.2.2.2.2.2.2.1,x.2.2.2.2.2.2.2.2.2.2.2.1)))))))):=(ou_laws_eqDecider x).trans (by kernel_rfl)
theorem ve_laws_FnExactIsDecider (x):v_laws_FnExactIsDecider x=(bOr (iLt (v_laws_szDecider (x,1048576)) 0) (bAnd (bNot (bNot (bIff (v_impl_IsDecider (v_laws_toDecider x)) (v_spec_IsDecider (v_laws_toDecider x))))) (bNot (bNot (v_laws_eqDecider ((v_laws_toDecider x),(v_laws_toDecider x))))))):=(vu_laws_FnExactIsDecider x).trans (by kernel_rfl)
theorem oe_laws_FnExactIsDecider (x):ok_laws_FnExactIsDecider x=((ok_laws_szDecider (x,1048576))∧(((iLt (v_laws_szDecider (x,1048576)) 0)=true→True)∧((iLt (v_laws_szDecider (x,1048576)) 0)=false→((ok_laws_toDecider x)∧((ok_spec_IsDecider (v_laws_toDecider x))∧((ok_laws_toDecider x)∧((ok_impl_IsDecider (v_laws_toDecider x))∧(((bNot (bIff (v_impl_IsDecider (v_laws_toDecider x)) (v_spec_IsDecider (v_laws_toDecider x))))=true→True)∧((bNot (bIff (v_impl_IsDecider (v_laws_toDecider x)) (v_spec_IsDecider (v_laws_toDecider x))))=false→((ok_laws_toDecider x)∧(ok_laws_eqDecider ((v_laws_toDecider x),(v_laws_toDecider x))))))))))))):=(ou_laws_FnExactIsDecider x).trans (by kernel_rfl)
end
def sm_Decider(x:Int×(List (List (Int×Int×Int×Int)))×(List (List (Int×Int×Int)))×Int×(List (Int×Int×Int×Int×Int))×Int×Bool×Int×Int×Int×(List (Int×Int×Bool))×Int×Int×Int×Int):Prop:=sm_Engine (x.1,x.2.1,x.2.2.1,x.2.2.2.1,x.2.2.2.2.1,x.2.2.2.2.2.1,x.2.2.2.2.2.2.1)∧sm_Timing (x.2.2.2.2.2.2.2.1,x.2.2.2.2.2.2.2.2.1,x.2.2.2.2.2.2.2.2.2.1)∧sm_EventS x.2.2.2.2.2.2.2.2.2.2.1∧True
def wl_Decider(x:Int×(List (List (Int×Int×Int×Int)))×(List (List (Int×Int×Int)))×Int×(List (Int×Int×Int×Int×Int))×Int×Bool×Int×Int×Int×(List (Int×Int×Bool))×Int×Int×Int×Int):Prop:=wl_Engine (x.1,x.2.1,x.2.2.1,x.2.2.2.1,x.2.2.2.2.1,x.2.2.2.2.2.1,x.2.2.2.2.2.2.1)∧wl_Timing (x.2.2.2.2.2.2.2.1,x.2.2.2.2.2.2.2.2.1,x.2.2.2.2.2.2.2.2.2.1)∧wl_EventS x.2.2.2.2.2.2.2.2.2.2.1∧True
theorem sz_Decider(x:Int×(List (List (Int×Int×Int×Int)))×(List (List (Int×Int×Int)))×Int×(List (Int×Int×Int×Int×Int))×Int×Bool×Int×Int×Int×(List (Int×Int×Bool))×Int×Int×Int×Int)(hw:wl_Decider x)(l:Int)(h0:0≤l)(h1:l≤1048576):ok_laws_szDecider (x,l)∧(v_laws_szDecider (x,l)<0∨(0≤v_laws_szDecider (x,l)∧v_laws_szDecider (x,l)≤l∧sm_Decider x)):=by
 rw[oe_laws_szDecider,ve_laws_szDecider]
 have hx:=hw
 unfold wl_Decider at hw
 obtain⟨k0,g0⟩:=sz_Engine (x.1,x.2.1,x.2.2.1,x.2.2.2.1,x.2.2.2.2.1,x.2.2.2.2.2.1,x.2.2.2.2.2.2.1) hw.1 l (by omega) (by omega)
 generalize hz0:v_laws_szEngine ((x.1,x.2.1,x.2.2.1,x.2.2.2.1,x.2.2.2.2.1,x.2.2.2.2.2.1,x.2.2.2.2.2.2.1),l)=z0 at g0 ⊢
 rcases g0 with g0|⟨g0,g0',g0''⟩
 · have hb:iLt z0 0=true:=by rw[iLt_eq];simpa using g0
   refine⟨?_,?_⟩
   · simp[k0,hb]
   · simp only[hb,bSel_t];left;omega
 have hb0:iLt z0 0=false:=by rw[iLt_eq];simpa using g0
 simp only[hb0,bSel_f]
 obtain⟨k1,g1⟩:=sz_EventS x.2.2.2.2.2.2.2.2.2.2.1 hw.2.2.1 z0 (by omega) (by omega)
 generalize hz1:v_laws_szEventS (x.2.2.2.2.2.2.2.2.2.2.1,z0)=z1 at g1 ⊢
 rcases g1 with g1|⟨g1,g1',g1''⟩
 · have hb:iLt z1 0=true:=by rw[iLt_eq];simpa using g1
   refine⟨?_,?_⟩
   · simp[k0,k1,hb]
   · simp only[hb,bSel_t];left;omega
 have hb1:iLt z1 0=false:=by rw[iLt_eq];simpa using g1
 simp only[hb1,bSel_f]
 exact⟨by simp[k0,k1],.inr ⟨by omega,by omega,g0'',(by simp[sm_Timing]),g1'',trivial⟩⟩
theorem to_Decider(x:Int×(List (List (Int×Int×Int×Int)))×(List (List (Int×Int×Int)))×Int×(List (Int×Int×Int×Int×Int))×Int×Bool×Int×Int×Int×(List (Int×Int×Bool))×Int×Int×Int×Int)(h:sm_Decider x):ok_laws_toDecider x∧v_laws_toDecider x=x:=by
 rw[oe_laws_toDecider,ve_laws_toDecider]
 have k0:=to_Engine (x.1,x.2.1,x.2.2.1,x.2.2.2.1,x.2.2.2.2.1,x.2.2.2.2.2.1,x.2.2.2.2.2.2.1) (by unfold sm_Decider at h;exact h.1)
 have k1:=to_Timing (x.2.2.2.2.2.2.2.1,x.2.2.2.2.2.2.2.2.1,x.2.2.2.2.2.2.2.2.2.1) (by unfold sm_Decider at h;exact h.2.1)
 have k2:=to_EventS x.2.2.2.2.2.2.2.2.2.2.1 (by unfold sm_Decider at h;exact h.2.2.1)
 refine⟨⟨k0.1,k1.1,k2.1⟩,?_⟩
 simp only[k0.2,k1.2,k2.2]
theorem eq_Timing(a b:Int×Int×Int)(h:sm_Timing a):ok_laws_eqTiming (a,b)∧(v_laws_eqTiming (a,b)=true↔a=b):=by
 obtain⟨a0,a1,a2⟩:=a
 obtain⟨b0,b1,b2⟩:=b
 rw[oe_laws_eqTiming,ve_laws_eqTiming]
 refine⟨by simp,?_⟩
 simp only[bNot_eq,bAnd_eq,bIff_eq,iNe_eq,Bool.and_eq_true,Bool.not_not,decide_eq_true_eq,Prod.mk.injEq,beq_iff_eq]
 try (constructor<;>intro h<;>simp_all)
theorem eq_Decider(a b:Int×(List (List (Int×Int×Int×Int)))×(List (List (Int×Int×Int)))×Int×(List (Int×Int×Int×Int×Int))×Int×Bool×Int×Int×Int×(List (Int×Int×Bool))×Int×Int×Int×Int)(h:sm_Decider a):ok_laws_eqDecider (a,b)∧(v_laws_eqDecider (a,b)=true↔a=b):=by
 obtain⟨a0,a1,a2,a3,a4,a5,a6,a7,a8,a9,a10,a11,a12,a13,a14⟩:=a
 obtain⟨b0,b1,b2,b3,b4,b5,b6,b7,b8,b9,b10,b11,b12,b13,b14⟩:=b
 have k0:=eq_Engine (a0,a1,a2,a3,a4,a5,a6) (b0,b1,b2,b3,b4,b5,b6) (by unfold sm_Decider at h;exact h.1)
 have k1:=eq_Timing (a7,a8,a9) (b7,b8,b9) (by unfold sm_Decider at h;exact h.2.1)
 have k2:=eq_EventS a10 b10 (by unfold sm_Decider at h;exact h.2.2.1)
 rw[oe_laws_eqDecider,ve_laws_eqDecider]
 refine⟨by simp[k0.1,k0.2,k1.1,k1.2,k2.1,k2.2],?_⟩
 simp only[k0.1,k0.2,k1.1,k1.2,k2.1,k2.2,bNot_eq,bAnd_eq,bIff_eq,iNe_eq,Bool.and_eq_true,Bool.not_not,decide_eq_true_eq,Prod.mk.injEq,beq_iff_eq]
 try (constructor<;>intro h<;>simp_all)
theorem heldMask_two(x:EngX)(hl:x.2.2.2.2.1.length≤1048576)(hh:∀ a∈x.2.2.2.2.1,HeldOk a):ok_spec_l10Held x∧ok_impl_heldMask x.2.2.2.2.1∧v_spec_l10Held x=v_impl_heldMask x.2.2.2.2.1:=by
 rw[oe_spec_l10Held,oe_impl_heldMask,ve_spec_l10Held,ve_impl_heldMask]
 generalize hx:x.2.2.2.2.1=l at hl hh ⊢
 have key:∀ i:Nat,i<l.length→(0≤(l.getD i (0,0,0,0,0)).1∧(l.getD i (0,0,0,0,0)).1≤31)∧v_spec_l10Bit (l.getD i (0,0,0,0,0)).1=iShl .i64 1 (l.getD i (0,0,0,0,0)).1:=fun i hi=>by
  have h:=hh _ (getD_mem l i (0,0,0,0,0) hi)
  have h1:0≤(l.getD i (0,0,0,0,0)).1∧(l.getD i (0,0,0,0,0)).1≤31:=⟨h.1,h.2.1⟩
  refine⟨h1,?_⟩
  rw[ve_spec_l10Bit,l1In_eq,decide_eq_true h1.1,decide_eq_true h1.2,bNot_eq,bSel_eq]
  simp
 obtain⟨b1,b2,⟨b3,_⟩,_⟩:=loop_two (c:=lc_spec_l10Held_1 x) (f:=lf_spec_l10Held_1 x) (p:=lp_spec_l10Held_1 x) (d:=lc_impl_heldMask_1 l) (g:=lf_impl_heldMask_1 l) (q:=lp_impl_heldMask_1 l) (x0:=(0,0)) (y0:=(0,0))
  (fun s t=>s=t∧∃ k:Nat,k≤l.length∧s.2=k) (fun s=>l.length-s.2.toNat) (by
   rintro⟨m,i⟩ t ⟨rfl,k,hk,rfl⟩
   have e4:iAdd .i64 (k:Int) 1=((k+1:Nat):Int):=by rw[iAdd_i64 (by unfold In64;omega)];omega
   have g:lGet l (iNat (k:Int)) (0,0,0,0,0)=l.getD k (0,0,0,0,0):=by rw[lGet_eq,iNat_eq,Int.toNat_natCast]
   simp only[lp_spec_l10Held_1,lp_impl_heldMask_1,lc_spec_l10Held_1,lc_impl_heldMask_1,lf_spec_l10Held_1,lf_impl_heldMask_1,hx,g,e4,iLt_eq,lLen_eq,decide_eq_true_eq]
   refine⟨⟨fun h=>⟨⟨by omega,h⟩,by rw[iNat_eq];omega,?_⟩,fun _=>trivial⟩,⟨fun h=>⟨⟨by omega,h⟩,by rw[iNat_eq];omega,(key k (by omega)).1.1⟩,fun _=>trivial⟩,trivial,fun h=>⟨⟨?_,k+1,by omega,rfl⟩,by omega⟩⟩
   · rw[oe_spec_l10Bit]
     exact⟨ok_l1In _,fun _=>trivial,fun _=>(key k (by omega)).1.1⟩
   · rw[(key k (by omega)).2]) ⟨rfl,0,by omega,rfl⟩
 exact⟨b1,b2,by rw[b3]⟩
def evK(l:List (Int×Int×Bool))(i:Nat):Int×Int×Bool:=l.getD i (0,0,false)
noncomputable def mskAt(l:List (Int×Int×Bool))(m:Int):Nat→Int
 |0=>m
 |i+1=>iXor .i64 (mskAt l m i) (iShl .i64 1 (evK l i).2.1)
def prvT(l:List (Int×Int×Bool)):Nat→Int
 |0=>0
 |i+1=>(evK l i).1
noncomputable def downOk(l:List (Int×Int×Bool))(m:Int)(i:Nat):Bool:=!((evK l i).2.2 == decide (iAnd .i64 (iShr .i64 (mskAt l m i) (evK l i).2.1) 1=1))
noncomputable def folOk(l:List (Int×Int×Bool))(m:Int)(i:Nat):Bool:=v_impl_IsEvent (evK l i)&&!decide ((evK l i).1<prvT l i)&&downOk l m i
theorem event_rng{x:Int×Int×Bool}(h:v_impl_IsEvent x=true):0≤x.1∧0≤x.2.1:=by
 rw[ve_impl_IsEvent] at h
 simp only[bAnd_eq,iGe_eq,iLe_eq,Bool.and_eq_true,decide_eq_true_eq] at h
 exact⟨h.1,h.2.2.1⟩
theorem follows_spec(l:List (Int×Int×Bool))(m n:Int)(hl:l.length≤1048576) :
 ok_spec_l10Follows (l,m,n,0)∧(v_spec_l10Follows (l,m,n,0)=true↔(∀ i,i<l.length→folOk l m i=true∧(evK l i).2.1<n)∧l.length≤64):=by
 rw[oe_spec_l10Follows,ve_spec_l10Follows]
 obtain⟨a1,k,hk,a2,a3⟩:=scan_st (c:=lc_spec_l10Follows_1 (l,m,n,0)) (f:=lf_spec_l10Follows_1 (l,m,n,0)) (p:=lp_spec_l10Follows_1 (l,m,n,0)) l.length (fun i=>(mskAt l m i,prvT l i,(i:Int))) (fun i=>folOk l m i&&decide ((evK l i).2.1<n)) (x0:=(m,0,0)) rfl
  (fun i hi _=>by
   have g:lGet l (iNat (i:Int)) (0,0,false)=evK l i:=by rw[lGet_eq,iNat_eq,Int.toNat_natCast];rfl
   simp only[lc_spec_l10Follows_1,g,isEvent_eq,bAnd_eq,bNot_eq,bOr_eq,bIff_eq,iLt_eq,iGe_eq,iEq_eq,lLen_eq,folOk,downOk]
   have hK:decide (n≤(evK l i).2.1)=!decide ((evK l i).2.1<n):=by by_cases h:(evK l i).2.1<n<;>simp[h]<;>omega
   have hA:decide ((i:Int)<(l.length:Int))=decide (i<l.length):=by rw[decide_eq_decide];omega
   rw[hK,hA]
   generalize v_impl_IsEvent (evK l i)=E
   generalize decide ((evK l i).2.1<n)=K
   generalize decide ((evK l i).1<prvT l i)=T
   generalize ((evK l i).2.2 == _)=D
   generalize decide (i<l.length)=A
   cases E<;>cases K<;>cases T<;>cases D<;>cases A<;>rfl)
  (fun i hi _=>by
   have g:lGet l (iNat (i:Int)) (0,0,false)=evK l i:=by rw[lGet_eq,iNat_eq,Int.toNat_natCast];rfl
   simp only[lf_spec_l10Follows_1,g]
   rw[iAdd_i64 (by unfold In64;omega)]
   simp[mskAt,prvT])
  (fun i hi _=>by
   have g:lGet l (iNat (i:Int)) (0,0,false)=evK l i:=by rw[lGet_eq,iNat_eq,Int.toNat_natCast];rfl
   have hn:(i:Int)<l.length→iNat (i:Int)<l.length:=fun h=>by rw[iNat_eq];omega
   have ho:=ok_isEvent (evK l i)
   simp only[lp_spec_l10Follows_1,g,isEvent_eq,iLt_eq (i:Int),lLen_eq,decide_eq_true_eq]
   refine⟨fun h=>?_,fun _=>trivial⟩
   have h2:=hn h
   have h0:(0:Int)≤(i:Int):=by omega
   cases hv:v_impl_IsEvent (evK l i) with
   |false=>simp[hv,bNot_eq,bOr_eq,h,h0,h2,ho.1]
   | true=>
     have hr:=event_rng hv
     simp[hv,bNot_eq,bOr_eq,h,h0,h2,ho.1,hr.2])
 refine⟨a1,?_⟩
 rw[a2]
 simp only[bAnd_eq,bNot_eq,iLt_eq,iLe_eq,lLen_eq,Bool.and_eq_true,Bool.not_eq_true',decide_eq_false_iff_not,decide_eq_true_eq]
 have:(∀ i,i<l.length→folOk l m i=true∧(evK l i).2.1<n)↔k=l.length:=by rw[a3];simp only[Bool.and_eq_true,decide_eq_true_eq]
 rw[this]
 omega
theorem follow_impl(l:List (Int×Int×Bool))(m:Int)(hl:l.length≤1048576) :
 ok_impl_follow (l,m)∧((v_impl_follow (l,m)).2=true↔(∀ i,i<l.length→folOk l m i=true)∧l.length≤64):=by
 rw[oe_impl_follow,ve_impl_follow]
 obtain⟨a1,k,hk,a2,a3⟩:=scan_st (c:=lc_impl_follow_1 (l,m)) (f:=lf_impl_follow_1 (l,m)) (p:=lp_impl_follow_1 (l,m)) l.length (fun i=>(mskAt l m i,(i:Int))) (folOk l m) (x0:=(m,0)) rfl
  (fun i hi _=>by
   have g:lGet l (iNat (i:Int)) (0,0,false)=evK l i:=by rw[lGet_eq,iNat_eq,Int.toNat_natCast];rfl
   simp only[lc_impl_follow_1,g,ve_impl_bit,bAnd_eq,bNot_eq,bOr_eq,bIff_eq,iLt_eq,iGt_eq,iEq_eq,lLen_eq,folOk,downOk]
   have hA:decide ((i:Int)<(l.length:Int))=decide (i<l.length):=by rw[decide_eq_decide];omega
   have hT:v_impl_IsEvent (evK l i)=true→∀ D:Bool,bSel (decide ((0:Int)<(i:Int))) (decide ((evK l i).1<(lGet l (iNat (iSub .i64 (i:Int) 1)) (0,0,false)).1)||D) D=(decide ((evK l i).1<prvT l i)||D):=fun hv D=>by
    cases i with
    | zero=>
      have:¬ (evK l 0).1<0:=by have:=event_rng hv;omega
      simp[bSel_eq,prvT,this]
    | succ i=>
      have e:lGet l (iNat (iSub .i64 ((i+1:Nat):Int) 1)) (0,0,false)=evK l i:=by
       rw[iSub_i64 (by unfold In64;omega),lGet_eq,iNat_eq]
       have:(((i+1:Nat):Int)-1).toNat=i:=by omega
       rw[this];rfl
      have h0:decide ((0:Int)<((i+1:Nat):Int))=true:=decide_eq_true (by omega)
      rw[e,h0,bSel_t];rfl
   rw[hA]
   cases hv:v_impl_IsEvent (evK l i) with
   |false=>generalize decide (i<l.length)=A;cases A<;>rfl
   | true=>
     rw[hT hv]
     generalize decide ((evK l i).1<prvT l i)=T
     generalize ((evK l i).2.2 == _)=D
     generalize decide (i<l.length)=A
     cases T<;>cases D<;>cases A<;>rfl)
  (fun i hi _=>by
   have g:lGet l (iNat (i:Int)) (0,0,false)=evK l i:=by rw[lGet_eq,iNat_eq,Int.toNat_natCast];rfl
   simp only[lf_impl_follow_1,g]
   rw[iAdd_i64 (by unfold In64;omega)]
   simp[mskAt])
  (fun i hi _=>by
   have g:lGet l (iNat (i:Int)) (0,0,false)=evK l i:=by rw[lGet_eq,iNat_eq,Int.toNat_natCast];rfl
   have hn:(i:Int)<l.length→iNat (i:Int)<l.length:=fun h=>by rw[iNat_eq];omega
   have ho:=ok_isEvent (evK l i)
   simp only[lp_impl_follow_1,g,oe_impl_bit,iLt_eq (i:Int),lLen_eq,decide_eq_true_eq]
   refine⟨fun h=>?_,fun _=>trivial⟩
   have h2:=hn h
   have h0:(0:Int)≤(i:Int):=by omega
   have hs:iGt (i:Int) 0=true→((0:Int)≤iSub .i64 (i:Int) 1∧iSub .i64 (i:Int) 1<(l.length:Int))∧iNat (iSub .i64 (i:Int) 1)<l.length:=fun hg=>by
    rw[iGt_eq,decide_eq_true_eq] at hg
    rw[iSub_i64 (by unfold In64;omega),iNat_eq]
    omega
   cases hv:v_impl_IsEvent (evK l i) with
   |false=>simp[hv,bNot_eq,bOr_eq,h,h0,h2,ho.2]
   | true=>
     have hr:=event_rng hv
     cases hg:iGt (i:Int) 0 with
     |false=>simp[hv,hg,bNot_eq,bOr_eq,h,h0,h2,ho.2,hr.2]
     | true=>
       obtain⟨⟨s1,s2⟩,s3⟩:=hs hg
       simp[hv,hg,bNot_eq,bOr_eq,h,h0,h2,ho.2,hr.2,s1,s2,s3])
 refine⟨⟨fun _=>trivial,fun _=>a1⟩,?_⟩
 rw[a2,← a3,bSel_eq]
 simp only[iGt_eq,lLen_eq,decide_eq_true_eq]
 split
 · simp;omega
 · rw[bSel_eq]
   simp only[iLt_eq,decide_eq_true_eq]
   split
   · simp;omega
   · simp;omega
theorem fits_impl(l:List (Int×Int×Bool))(m n:Int)(hl:l.length≤1048576) :
 ok_impl_queueFits (l,m,n)∧(v_impl_queueFits (l,m,n)=true↔(∀ i,i<l.length→folOk l m i=true∧(evK l i).2.1<n)∧l.length≤64):=by
 rw[oe_impl_queueFits,ve_impl_queueFits]
 obtain⟨c1,c2⟩:=follow_impl l m hl
 obtain⟨a1,k,hk,a2,a3⟩:=scan_st (c:=lc_impl_queueFits_1 (l,m,n)) (f:=lf_impl_queueFits_1) (p:=lp_impl_queueFits_1 (l,m,n)) l.length (fun i=>(i:Int)) (fun i=>decide ((evK l i).2.1<n)) (x0:=0) rfl
  (fun i hi _=>by
   have g:lGet l (iNat (i:Int)) (0,0,false)=evK l i:=by rw[lGet_eq,iNat_eq,Int.toNat_natCast];rfl
   simp only[lc_impl_queueFits_1,g,bAnd_eq,bNot_eq,iLt_eq,iGe_eq,lLen_eq]
   by_cases h1:(evK l i).2.1<n<;>simp[h1]<;>omega)
  (fun i hi _=>by simp only[lf_impl_queueFits_1];rw[iAdd_i64 (by unfold In64;omega)];omega)
  (fun i hi _=>by
   simp only[lp_impl_queueFits_1,iLt_eq,lLen_eq,decide_eq_true_eq]
   exact⟨fun h=>⟨⟨by omega,h⟩,by rw[iNat_eq];omega⟩,fun _=>trivial⟩)
 refine⟨⟨a1,fun _=>trivial,fun _=>c1⟩,?_⟩
 rw[bAnd_eq,Bool.and_eq_true,c2,a2]
 simp only[bNot_eq,iLt_eq,lLen_eq,Bool.not_eq_true',decide_eq_false_iff_not]
 have e:¬ ((k:Int)<(l.length:Int))↔∀ i,i<l.length→(evK l i).2.1<n:=by
  rw[show (¬ ((k:Int)<(l.length:Int))↔k=l.length) by omega,a3]
  simp only[decide_eq_true_eq]
 rw[e]
 constructor
 · rintro⟨h1,h2,h3⟩;exact⟨fun i hi=>⟨h2 i hi,h1 i hi⟩,h3⟩
 · rintro⟨h1,h2⟩;exact⟨fun i hi=>(h1 i hi).2,fun i hi=>(h1 i hi).1,h2⟩
abbrev DecX:=Int×(List (List (Int×Int×Int×Int)))×(List (List (Int×Int×Int)))×Int×(List (Int×Int×Int×Int×Int))×Int×Bool×Int×Int×Int×(List (Int×Int×Bool))×Int×Int×Int×Int
theorem isDecider_two(x:DecX)(hs:sm_Decider x):ok_spec_IsDecider x∧ok_impl_IsDecider x∧v_impl_IsDecider x=v_spec_IsDecider x:=by
 obtain⟨keys,layers,macros,fixed,held,once,caps,w,s,d,queue,now,clock,tapped,tat⟩:=x
 have hE:sm_Engine (keys,layers,macros,fixed,held,once,caps):=hs.1
 have hq:queue.length≤1048576:=hs.2.2.1.1
 have hl:held.length≤1048576:=hE.2.2.1.1
 obtain⟨r1,r2,r3⟩:=isEngine_two _ hE
 obtain⟨t1,t2⟩:=ok_isTiming (w,s,d)
 rw[oe_spec_IsDecider,oe_impl_IsDecider,ve_spec_IsDecider,ve_impl_IsDecider]
 simp only[isTiming_eq,← r3,r1,r2,t1,t2,ok_l1In]
 cases hv:v_impl_IsEngine (keys,layers,macros,fixed,held,once,caps) with
 |false=>simp[bOr_eq,bNot_eq,bAnd_eq]
 | true=>
   have hh:∀ a∈held,HeldOk a:=by
    refine isHeld_all hl ?_
    rw[ve_impl_IsEngine] at hv
    simp only[bAnd_eq,bNot_eq,bOr_eq,Bool.and_eq_true,Bool.not_eq_true',Bool.or_eq_false_iff,Bool.not_eq_false'] at hv
    exact hv.1.2.2.1
   obtain⟨m1,m2,m3⟩:=heldMask_two (keys,layers,macros,fixed,held,once,caps) hl hh
   have m2:ok_impl_heldMask held:=m2
   have m3:v_spec_l10Held (keys,layers,macros,fixed,held,once,caps)=v_impl_heldMask held:=m3
   obtain⟨f1,f2⟩:=follows_spec queue (v_impl_heldMask held) keys hq
   obtain⟨g1,g2⟩:=fits_impl queue (v_impl_heldMask held) keys hq
   have fe:v_spec_l10Follows (queue,v_impl_heldMask held,keys,0)=v_impl_queueFits (queue,v_impl_heldMask held,keys):=by rw[Bool.eq_iff_iff,f2,g2]
   have lp:∃ z:Bool,iGt (lLen queue) 0=z∧iEq (lLen queue) 0=!z∧(z=true→0≤iSub .i64 (lLen queue) 1∧iSub .i64 (lLen queue) 1<(queue.length:Int)∧iNat (iSub .i64 (lLen queue) 1)<queue.length):=by
    rw[lLen_eq]
    by_cases h0:queue.length=0
    · exact⟨false,by rw[iGt_eq,h0];rfl,by rw[iEq_eq,h0];rfl,by simp⟩
    · refine⟨true,by rw[iGt_eq];exact decide_eq_true (by omega),by rw[iEq_eq];exact decide_eq_false (by omega),fun _=>?_⟩
      rw[iSub_i64 (by unfold In64;omega),iNat_eq]
      omega
   obtain⟨z,z1,z2,z3⟩:=lp
   simp only[m3,fe,m1,m2,f1,g1,ve_impl_notBehind,oe_impl_notBehind,z1,z2,l1In_eq]
   generalize v_impl_queueFits _=F
   generalize v_impl_IsTiming _=T
   generalize (lGet queue _ _).1=L
   refine⟨?_,?_,?_⟩
   · cases z with
     |false=>simp
     |true=>obtain⟨y1,y2,y3⟩:=z3 rfl;simp[y1,y2,y3]
   · cases z with
     |false=>simp
     |true=>obtain⟨y1,y2,y3⟩:=z3 rfl;simp[y1,y2,y3]
   · clear z1 z2 z3 f2 g2 hv hh
     rw[Bool.eq_iff_iff]
     simp only[bOr_eq,bNot_eq,bAnd_eq,iGt_eq,iLt_eq,iGe_eq,iLe_eq]
     cases F<;>cases T<;>cases z<;>simp<;>omega
theorem plain_FnExactIsDecider(x:DecX)(hw:TuX.wf h_laws_FnExactIsDecider x):ok_laws_FnExactIsDecider x∧v_laws_FnExactIsDecider x=true:=by
 rw[oe_laws_FnExactIsDecider,ve_laws_FnExactIsDecider]
 have hwl:wl_Decider x:=by
  obtain⟨keys,layers,macros,fixed,held,once,caps,w,s,d,queue,now,clock,tapped,tat⟩:=x
  obtain⟨_,h1,h2,_,h3,_,_,_,_,_,h4,_⟩:=hw
  exact⟨⟨wl_Keymap_of h1,⟨h2.1,fun l hl=>⟨(h2.2 l hl).1,fun a _=>by simp[wl_Step]⟩⟩,⟨h3.1,fun a _=>by simp[wl_Held,wl_Action]⟩,trivial⟩,by simp[wl_Timing],⟨h4.1,fun a _=>by simp[wl_Event]⟩,trivial⟩
 obtain⟨k1,k2⟩:=sz_Decider x hwl 1048576 (by omega) (by omega)
 rcases k2 with k2|⟨k2,_,k3⟩
 · have e:iLt (v_laws_szDecider (x,1048576)) 0=true:=by rw[iLt_eq];simpa using k2
   simp only[e];simp[bOr_eq,k1]
 · have e:iLt (v_laws_szDecider (x,1048576)) 0=false:=by rw[iLt_eq];simpa using k2
   obtain⟨t1,t2⟩:=to_Decider x k3
   obtain⟨q1,q2⟩:=eq_Decider x x k3
   have q2:=q2.2 rfl
   obtain⟨r1,r2,r3⟩:=isDecider_two x k3
   simp only[e,t2,r3,q2]
   simp[bOr_eq,bNot_eq,bAnd_eq,bIff_eq,k1,t1,q1,r1,r2]
end Go.Ag
