/- Part 6 of what FnExactSetAction needs. No conditions. -/
import Derived.Test.YthljgcjmaabnoaaLibE
namespace Go.Ag
set_option linter.unusedSimpArgs false
set_option linter.unusedVariables false
section
set_option maxRecDepth 8000
noncomputable def dc_laws_szActionS:DCode:=
 (.seq [1,0] (.region [oi 0 4 0])
 (.seq [1] (.region [om 0 5 1,
 on 1 6 0,
 oa 2 7 (.len (.t 6)),
 oa 3 8 (.bin .sub (.t 5) (.t 7)),
 om 4 1 8])
  (.seq [1] (.seq [10,1] (.region [om 0 9 1,
 oa 1 10 (.bin .lss (.t 9) (.c (.int .i64 0)))])
  (.cond (.t 10) (.seq [4] (.region [oi 0 4 (-1)])
  .ret) .skip))
  (.seq [4] (.region [om 0 11 1,
 om 1 4 11])
  .ret))))
noncomputable def df_laws_szActionS:DFun:=⟨2,12,0,true,[.tmp 4],dc_laws_szActionS⟩
noncomputable def pf_laws_szActionS:PFun:=df_laws_szActionS.er
noncomputable def f_laws_szActionS:AFun:=pf_laws_szActionS.er
@[irreducible] noncomputable def s_laws_szActionS:CallSem:=funSem f_laws_szActionS
@[irreducible] noncomputable def p_laws_szActionS:PSem:=pfunSem pf_laws_szActionS
theorem sp_laws_szActionS:SoundP s_laws_szActionS p_laws_szActionS:=by unfold s_laws_szActionS p_laws_szActionS;exact pfun_sound (f:=pf_laws_szActionS) trivial
def h_laws_szActionS:List HT:=[.one .frz (.sl rI4),.one .frz (.int .i64)]
def q_laws_szActionS:QT:=.one (.one .own (.int .i64))
@[irreducible] noncomputable def v_laws_szActionS(x:(List (Int×Int×Int×Int))×Int):Int:=(shut fun x=>fnV df_laws_szActionS h_laws_szActionS q_laws_szActionS x).1 x
@[irreducible] noncomputable def ok_laws_szActionS(x:(List (Int×Int×Int×Int))×Int):Prop:=(shut fun x=>fnOk df_laws_szActionS h_laws_szActionS q_laws_szActionS x).1 x
theorem vu_laws_szActionS (x):v_laws_szActionS x=fnV df_laws_szActionS h_laws_szActionS q_laws_szActionS x:=by unfold v_laws_szActionS;exact congrFun (shut _).2 x
theorem ou_laws_szActionS (x):ok_laws_szActionS x=fnOk df_laws_szActionS h_laws_szActionS q_laws_szActionS x:=by unfold ok_laws_szActionS;exact congrFun (shut _).2 x
noncomputable def D_laws_szActionS:DSem:=DSemOf h_laws_szActionS q_laws_szActionS ok_laws_szActionS v_laws_szActionS
theorem ck_laws_szActionS(x:(List (Int×Int×Int×Int))×Int):fnChk df_laws_szActionS h_laws_szActionS q_laws_szActionS x=true:=by kernel_rfl
theorem ob_laws_szActionS:AllD df_laws_szActionS.body.obs:=trivial
theorem st_laws_szActionS:fnSt df_laws_szActionS h_laws_szActionS q_laws_szActionS=true:=by kernel_rfl
theorem sd_laws_szActionS:SoundD p_laws_szActionS D_laws_szActionS:=by unfold p_laws_szActionS;exact soundD_of (f:=df_laws_szActionS) (hs:=h_laws_szActionS) (q:=q_laws_szActionS) ob_laws_szActionS st_laws_szActionS ck_laws_szActionS (fun x h=>Eq.mp (ou_laws_szActionS x) h) (fun x=>(vu_laws_szActionS x).symm)
noncomputable def dc_laws_szActionSS:DCode:=
 (.seq [1,0] (.region [oi 0 4 0])
 (.seq [1,0] (.region [om 0 6 1,
 on 1 7 0,
 oa 2 8 (.len (.t 7)),
 oa 3 9 (.bin .sub (.t 6) (.t 8)),
 om 4 1 9])
  (.seq [1,0] (.seq [11,1,0] (.region [om 0 10 1,
 oa 1 11 (.bin .lss (.t 10) (.c (.int .i64 0)))])
  (.cond (.t 11) (.seq [4] (.region [oi 0 4 (-1)])
  .ret) .skip))
  (.seq [1] (.seq [5,1,0] (.region [oi 0 5 0])
  (.block 0 (.loop [0,1,5] 1 (.seq [5,1,0] (.seq [15,5,1,0] (.region [om 0 12 5,
 on 1 13 0,
 oa 2 14 (.len (.t 13)),
 oa 3 15 (.bin .lss (.t 12) (.t 14))])
  (.cond (.t 15) .skip (.exit 0)))
  (.seq [5,1,0] (.block 1 (.seq [5,1,0] (.region [on 0 18 0,
 om 1 19 5,
 oa 2 20 (.indexA 1 (.t 18) (.t 19)),
 oa 3 21 (.loadH none (.t 20)),
 om 4 22 1,
 oc 5 23 s_laws_szActionS p_laws_szActionS D_laws_szActionS [(.t 21),(.t 22)],
 om 6 1 23])
  (.seq [25,5,1,0] (.region [om 0 24 1,
 oa 1 25 (.bin .lss (.t 24) (.c (.int .i64 0)))])
  (.cond (.t 25) (.seq [4] (.region [oi 0 4 (-1)])
  .ret) .skip))))
  (.region [om 0 16 5,
 oa 1 17 (.bin .add (.t 16) (.c (.int .i64 1))),
 om 2 5 17]))))))
  (.seq [4] (.region [om 0 26 1,
 om 1 4 26])
  .ret)))))
noncomputable def df_laws_szActionSS:DFun:=⟨2,27,0,true,[.tmp 4],dc_laws_szActionSS⟩
noncomputable def pf_laws_szActionSS:PFun:=df_laws_szActionSS.er
noncomputable def f_laws_szActionSS:AFun:=pf_laws_szActionSS.er
@[irreducible] noncomputable def s_laws_szActionSS:CallSem:=funSem f_laws_szActionSS
@[irreducible] noncomputable def p_laws_szActionSS:PSem:=pfunSem pf_laws_szActionSS
theorem sp_laws_szActionSS:SoundP s_laws_szActionSS p_laws_szActionSS:=by unfold s_laws_szActionSS p_laws_szActionSS;exact pfun_sound (f:=pf_laws_szActionSS) ⟨sp_laws_szActionS,trivial⟩
def h_laws_szActionSS:List HT:=[.one .frz (.sl (.one (.sl rI4))),.one .frz (.int .i64)]
def q_laws_szActionSS:QT:=.one (.one .own (.int .i64))
@[irreducible] noncomputable def v_laws_szActionSS(x:(List (List (Int×Int×Int×Int)))×Int):Int:=(shut fun x=>fnV df_laws_szActionSS h_laws_szActionSS q_laws_szActionSS x).1 x
@[irreducible] noncomputable def ok_laws_szActionSS(x:(List (List (Int×Int×Int×Int)))×Int):Prop:=(shut fun x=>fnOk df_laws_szActionSS h_laws_szActionSS q_laws_szActionSS x).1 x
theorem vu_laws_szActionSS (x):v_laws_szActionSS x=fnV df_laws_szActionSS h_laws_szActionSS q_laws_szActionSS x:=by unfold v_laws_szActionSS;exact congrFun (shut _).2 x
theorem ou_laws_szActionSS (x):ok_laws_szActionSS x=fnOk df_laws_szActionSS h_laws_szActionSS q_laws_szActionSS x:=by unfold ok_laws_szActionSS;exact congrFun (shut _).2 x
noncomputable def D_laws_szActionSS:DSem:=DSemOf h_laws_szActionSS q_laws_szActionSS ok_laws_szActionSS v_laws_szActionSS
theorem ck_laws_szActionSS(x:(List (List (Int×Int×Int×Int)))×Int):fnChk df_laws_szActionSS h_laws_szActionSS q_laws_szActionSS x=true:=by kernel_rfl
theorem ob_laws_szActionSS:AllD df_laws_szActionSS.body.obs:=⟨sd_laws_szActionS,trivial⟩
theorem st_laws_szActionSS:fnSt df_laws_szActionSS h_laws_szActionSS q_laws_szActionSS=true:=by kernel_rfl
theorem sd_laws_szActionSS:SoundD p_laws_szActionSS D_laws_szActionSS:=by unfold p_laws_szActionSS;exact soundD_of (f:=df_laws_szActionSS) (hs:=h_laws_szActionSS) (q:=q_laws_szActionSS) ob_laws_szActionSS st_laws_szActionSS ck_laws_szActionSS (fun x h=>Eq.mp (ou_laws_szActionSS x) h) (fun x=>(vu_laws_szActionSS x).symm)
noncomputable def dc_laws_szKeymap:DCode:=
 (.seq [2,1] (.region [oa 0 2 (.boxB 0 2 (.t 0)),
 oi 1 4 0])
  (.seq [1] (.region [oa 0 5 (.fieldA 1 (.t 2)),
 oa 1 6 (.loadB 0 none (.t 5)),
 om 2 7 1,
 oc 3 8 s_laws_szActionSS p_laws_szActionSS D_laws_szActionSS [(.t 6),(.t 7)],
 om 4 1 8])
  (.seq [1] (.seq [10,1] (.region [om 0 9 1,
 oa 1 10 (.bin .lss (.t 9) (.c (.int .i64 0)))])
  (.cond (.t 10) (.seq [4] (.region [oi 0 4 (-1)])
  .ret) .skip))
  (.seq [4] (.region [om 0 11 1,
 om 1 4 11])
  .ret))))
noncomputable def df_laws_szKeymap:DFun:=⟨2,12,1,true,[.tmp 4],dc_laws_szKeymap⟩
noncomputable def pf_laws_szKeymap:PFun:=df_laws_szKeymap.er
noncomputable def f_laws_szKeymap:AFun:=pf_laws_szKeymap.er
@[irreducible] noncomputable def s_laws_szKeymap:CallSem:=funSem f_laws_szKeymap
@[irreducible] noncomputable def p_laws_szKeymap:PSem:=pfunSem pf_laws_szKeymap
theorem sp_laws_szKeymap:SoundP s_laws_szKeymap p_laws_szKeymap:=by unfold s_laws_szKeymap p_laws_szKeymap;exact pfun_sound (f:=pf_laws_szKeymap) ⟨sp_laws_szActionSS,trivial⟩
def h_laws_szKeymap:List HT:=[.agg [(.frz,.int .i64),(.frz,.sl (.one (.sl rI4)))],.one .frz (.int .i64)]
def q_laws_szKeymap:QT:=.one (.one .own (.int .i64))
@[irreducible] noncomputable def v_laws_szKeymap(x:(Int×(List (List (Int×Int×Int×Int))))×Int):Int:=(shut fun x=>fnV df_laws_szKeymap h_laws_szKeymap q_laws_szKeymap x).1 x
@[irreducible] noncomputable def ok_laws_szKeymap(x:(Int×(List (List (Int×Int×Int×Int))))×Int):Prop:=(shut fun x=>fnOk df_laws_szKeymap h_laws_szKeymap q_laws_szKeymap x).1 x
theorem vu_laws_szKeymap (x):v_laws_szKeymap x=fnV df_laws_szKeymap h_laws_szKeymap q_laws_szKeymap x:=by unfold v_laws_szKeymap;exact congrFun (shut _).2 x
theorem ou_laws_szKeymap (x):ok_laws_szKeymap x=fnOk df_laws_szKeymap h_laws_szKeymap q_laws_szKeymap x:=by unfold ok_laws_szKeymap;exact congrFun (shut _).2 x
noncomputable def D_laws_szKeymap:DSem:=DSemOf h_laws_szKeymap q_laws_szKeymap ok_laws_szKeymap v_laws_szKeymap
theorem ck_laws_szKeymap(x:(Int×(List (List (Int×Int×Int×Int))))×Int):fnChk df_laws_szKeymap h_laws_szKeymap q_laws_szKeymap x=true:=by kernel_rfl
theorem ob_laws_szKeymap:AllD df_laws_szKeymap.body.obs:=⟨sd_laws_szActionSS,trivial⟩
theorem st_laws_szKeymap:fnSt df_laws_szKeymap h_laws_szKeymap q_laws_szKeymap=true:=by kernel_rfl
theorem sd_laws_szKeymap:SoundD p_laws_szKeymap D_laws_szKeymap:=by unfold p_laws_szKeymap;exact soundD_of (f:=df_laws_szKeymap) (hs:=h_laws_szKeymap) (q:=q_laws_szKeymap) ob_laws_szKeymap st_laws_szKeymap ck_laws_szKeymap (fun x h=>Eq.mp (ou_laws_szKeymap x) h) (fun x=>(vu_laws_szKeymap x).symm)
noncomputable def dc_laws_toActionS:DCode:=
 (.seq [0] (.region [oa 0 2 (.mv (.c .nils))])
 (.seq [3,0] (.region [on 0 5 0,
 oa 1 6 (.len (.t 5)),
 ⟨2,some 7,.a false (.mkSlice 4 [(.int .i64 0),(.int .i64 0),(.int .i64 0),(.int .i64 0)] (.t 6)) (some rI4),none,[]⟩,
 om 3 3 7])
  (.seq [3] (.seq [4,3,0] (.region [oi 0 4 0])
  (.block 0 (.loop [0,3,4] 1 (.seq [4,3,0] (.seq [11,4,3,0] (.region [om 0 8 4,
 on 1 9 0,
 oa 2 10 (.len (.t 9)),
 oa 3 11 (.bin .lss (.t 8) (.t 10))])
  (.cond (.t 11) .skip (.exit 0)))
  (.seq [4,3,0] (.block 1 (.region [on 0 14 3,
 om 1 15 4,
 on 2 16 0,
 om 3 17 4,
 oa 4 18 (.indexA 4 (.t 16) (.t 17)),
 oa 5 19 (.loadH (some 4) (.t 18)),
 oc 6 20 s_laws_toAction p_laws_toAction D_laws_toAction [(.t 19)],
 oa 7 21 (.indexA 4 (.t 14) (.t 15)),
 os 8 (.storeH 4 (.t 21) (.t 20))]))
  (.region [om 0 12 4,
 oa 1 13 (.bin .add (.t 12) (.c (.int .i64 1))),
 om 2 4 13]))))))
  (.seq [2] (.region [om 0 22 3,
 om 1 2 22])
  .ret))))
noncomputable def df_laws_toActionS:DFun:=⟨1,23,0,false,[.tmp 2],dc_laws_toActionS⟩
noncomputable def pf_laws_toActionS:PFun:=df_laws_toActionS.er
noncomputable def f_laws_toActionS:AFun:=pf_laws_toActionS.er
@[irreducible] noncomputable def s_laws_toActionS:CallSem:=funSem f_laws_toActionS
@[irreducible] noncomputable def p_laws_toActionS:PSem:=pfunSem pf_laws_toActionS
theorem sp_laws_toActionS:SoundP s_laws_toActionS p_laws_toActionS:=by unfold s_laws_toActionS p_laws_toActionS;exact pfun_sound (f:=pf_laws_toActionS) ⟨sp_laws_toAction,trivial⟩
def h_laws_toActionS:List HT:=[.one .frz (.sl rI4)]
def q_laws_toActionS:QT:=.one (.one .own (.sl rI4))
@[irreducible] noncomputable def v_laws_toActionS(x:List (Int×Int×Int×Int)):List (Int×Int×Int×Int):=(shut fun x=>fnV df_laws_toActionS h_laws_toActionS q_laws_toActionS x).1 x
@[irreducible] noncomputable def ok_laws_toActionS(x:List (Int×Int×Int×Int)):Prop:=(shut fun x=>fnOk df_laws_toActionS h_laws_toActionS q_laws_toActionS x).1 x
theorem vu_laws_toActionS (x):v_laws_toActionS x=fnV df_laws_toActionS h_laws_toActionS q_laws_toActionS x:=by unfold v_laws_toActionS;exact congrFun (shut _).2 x
theorem ou_laws_toActionS (x):ok_laws_toActionS x=fnOk df_laws_toActionS h_laws_toActionS q_laws_toActionS x:=by unfold ok_laws_toActionS;exact congrFun (shut _).2 x
noncomputable def D_laws_toActionS:DSem:=DSemOf h_laws_toActionS q_laws_toActionS ok_laws_toActionS v_laws_toActionS
theorem ck_laws_toActionS(x:List (Int×Int×Int×Int)):fnChk df_laws_toActionS h_laws_toActionS q_laws_toActionS x=true:=by kernel_rfl
theorem ob_laws_toActionS:AllD df_laws_toActionS.body.obs:=⟨sd_laws_toAction,trivial⟩
theorem st_laws_toActionS:fnSt df_laws_toActionS h_laws_toActionS q_laws_toActionS=true:=by kernel_rfl
theorem sd_laws_toActionS:SoundD p_laws_toActionS D_laws_toActionS:=by unfold p_laws_toActionS;exact soundD_of (f:=df_laws_toActionS) (hs:=h_laws_toActionS) (q:=q_laws_toActionS) ob_laws_toActionS st_laws_toActionS ck_laws_toActionS (fun x h=>Eq.mp (ou_laws_toActionS x) h) (fun x=>(vu_laws_toActionS x).symm)
noncomputable def dc_laws_toActionSS:DCode:=
 (.seq [0] (.region [oa 0 2 (.mv (.c .nils))])
 (.seq [3,0] (.region [on 0 5 0,
 oa 1 6 (.len (.t 5)),
 ⟨2,some 7,.a false (.mkSlice 1 [.nils] (.t 6)) (some (.one (.sl rI4))),none,[]⟩,
 om 3 3 7])
  (.seq [3] (.seq [4,3,0] (.region [oi 0 4 0])
  (.block 0 (.loop [0,3,4] 1 (.seq [4,3,0] (.seq [11,4,3,0] (.region [om 0 8 4,
 on 1 9 0,
 oa 2 10 (.len (.t 9)),
 oa 3 11 (.bin .lss (.t 8) (.t 10))])
  (.cond (.t 11) .skip (.exit 0)))
  (.seq [4,3,0] (.block 1 (.region [on 0 14 3,
 om 1 15 4,
 on 2 16 0,
 om 3 17 4,
 oa 4 18 (.indexA 1 (.t 16) (.t 17)),
 oa 5 19 (.loadH none (.t 18)),
 oc 6 20 s_laws_toActionS p_laws_toActionS D_laws_toActionS [(.t 19)],
 oa 7 21 (.indexA 1 (.t 14) (.t 15)),
 os 8 (.storeH 1 (.t 21) (.t 20))]))
  (.region [om 0 12 4,
 oa 1 13 (.bin .add (.t 12) (.c (.int .i64 1))),
 om 2 4 13]))))))
  (.seq [2] (.region [om 0 22 3,
 om 1 2 22])
  .ret))))
noncomputable def df_laws_toActionSS:DFun:=⟨1,23,0,false,[.tmp 2],dc_laws_toActionSS⟩
noncomputable def pf_laws_toActionSS:PFun:=df_laws_toActionSS.er
noncomputable def f_laws_toActionSS:AFun:=pf_laws_toActionSS.er
@[irreducible] noncomputable def s_laws_toActionSS:CallSem:=funSem f_laws_toActionSS
@[irreducible] noncomputable def p_laws_toActionSS:PSem:=pfunSem pf_laws_toActionSS
theorem sp_laws_toActionSS:SoundP s_laws_toActionSS p_laws_toActionSS:=by unfold s_laws_toActionSS p_laws_toActionSS;exact pfun_sound (f:=pf_laws_toActionSS) ⟨sp_laws_toActionS,trivial⟩
def h_laws_toActionSS:List HT:=[.one .frz (.sl (.one (.sl rI4)))]
def q_laws_toActionSS:QT:=.one (.one .own (.sl (.one (.sl rI4))))
@[irreducible] noncomputable def v_laws_toActionSS(x:List (List (Int×Int×Int×Int))):List (List (Int×Int×Int×Int)):=(shut fun x=>fnV df_laws_toActionSS h_laws_toActionSS q_laws_toActionSS x).1 x
@[irreducible] noncomputable def ok_laws_toActionSS(x:List (List (Int×Int×Int×Int))):Prop:=(shut fun x=>fnOk df_laws_toActionSS h_laws_toActionSS q_laws_toActionSS x).1 x
theorem vu_laws_toActionSS (x):v_laws_toActionSS x=fnV df_laws_toActionSS h_laws_toActionSS q_laws_toActionSS x:=by unfold v_laws_toActionSS;exact congrFun (shut _).2 x
theorem ou_laws_toActionSS (x):ok_laws_toActionSS x=fnOk df_laws_toActionSS h_laws_toActionSS q_laws_toActionSS x:=by unfold ok_laws_toActionSS;exact congrFun (shut _).2 x
noncomputable def D_laws_toActionSS:DSem:=DSemOf h_laws_toActionSS q_laws_toActionSS ok_laws_toActionSS v_laws_toActionSS
theorem ck_laws_toActionSS(x:List (List (Int×Int×Int×Int))):fnChk df_laws_toActionSS h_laws_toActionSS q_laws_toActionSS x=true:=by kernel_rfl
theorem ob_laws_toActionSS:AllD df_laws_toActionSS.body.obs:=⟨sd_laws_toActionS,trivial⟩
theorem st_laws_toActionSS:fnSt df_laws_toActionSS h_laws_toActionSS q_laws_toActionSS=true:=by kernel_rfl
theorem sd_laws_toActionSS:SoundD p_laws_toActionSS D_laws_toActionSS:=by unfold p_laws_toActionSS;exact soundD_of (f:=df_laws_toActionSS) (hs:=h_laws_toActionSS) (q:=q_laws_toActionSS) ob_laws_toActionSS st_laws_toActionSS ck_laws_toActionSS (fun x h=>Eq.mp (ou_laws_toActionSS x) h) (fun x=>(vu_laws_toActionSS x).symm)
noncomputable def dc_laws_toKeymap:DCode:=
 (.seq [2,1] (.region [oa 0 1 (.boxB 0 2 (.t 0)),
 oa 1 2 (.allocB 1 [(.int .i64 0),.nils])])
  (.seq [3,2,1] (.region [oa 0 3 (.allocB 2 [(.int .i64 0),.nils])])
  (.seq [3,2,1] (.region [oa 0 4 (.fieldA 0 (.t 1)),
 ob 1 5 (.loadB 0 none (.t 4)),
 oa 2 6 (.fieldA 0 (.t 3)),
 os 3 (.storeB 2 1 (.t 6) (.t 5))])
  (.seq [3,2] (.region [oa 0 7 (.fieldA 1 (.t 1)),
 oa 1 8 (.loadB 0 none (.t 7)),
 oc 2 9 s_laws_toActionSS p_laws_toActionSS D_laws_toActionSS [(.t 8)],
 oa 3 10 (.fieldA 1 (.t 3)),
 os 4 (.storeB 2 1 (.t 10) (.t 9))])
  (.seq [2] (.region [ob 0 11 (.loadB 2 (some 2) (.t 3)),
 os 1 (.storeB 1 2 (.t 2) (.t 11))])
  .ret)))))
noncomputable def df_laws_toKeymap:DFun:=⟨1,12,3,false,[.cell 2 (some 2)],dc_laws_toKeymap⟩
noncomputable def pf_laws_toKeymap:PFun:=df_laws_toKeymap.er
noncomputable def f_laws_toKeymap:AFun:=pf_laws_toKeymap.er
@[irreducible] noncomputable def s_laws_toKeymap:CallSem:=funSem f_laws_toKeymap
@[irreducible] noncomputable def p_laws_toKeymap:PSem:=pfunSem pf_laws_toKeymap
theorem sp_laws_toKeymap:SoundP s_laws_toKeymap p_laws_toKeymap:=by unfold s_laws_toKeymap p_laws_toKeymap;exact pfun_sound (f:=pf_laws_toKeymap) ⟨sp_laws_toActionSS,trivial⟩
def h_laws_toKeymap:List HT:=[.agg [(.frz,.int .i64),(.frz,.sl (.one (.sl rI4)))]]
def q_laws_toKeymap:QT:=.one (.agg [(.own,.int .i64),(.own,.sl (.one (.sl rI4)))])
@[irreducible] noncomputable def v_laws_toKeymap(x:Int×(List (List (Int×Int×Int×Int)))):Int×(List (List (Int×Int×Int×Int))):=(shut fun x=>fnV df_laws_toKeymap h_laws_toKeymap q_laws_toKeymap x).1 x
@[irreducible] noncomputable def ok_laws_toKeymap(x:Int×(List (List (Int×Int×Int×Int)))):Prop:=(shut fun x=>fnOk df_laws_toKeymap h_laws_toKeymap q_laws_toKeymap x).1 x
theorem vu_laws_toKeymap (x):v_laws_toKeymap x=fnV df_laws_toKeymap h_laws_toKeymap q_laws_toKeymap x:=by unfold v_laws_toKeymap;exact congrFun (shut _).2 x
theorem ou_laws_toKeymap (x):ok_laws_toKeymap x=fnOk df_laws_toKeymap h_laws_toKeymap q_laws_toKeymap x:=by unfold ok_laws_toKeymap;exact congrFun (shut _).2 x
noncomputable def D_laws_toKeymap:DSem:=DSemOf h_laws_toKeymap q_laws_toKeymap ok_laws_toKeymap v_laws_toKeymap
theorem ck_laws_toKeymap(x:Int×(List (List (Int×Int×Int×Int)))):fnChk df_laws_toKeymap h_laws_toKeymap q_laws_toKeymap x=true:=by kernel_rfl
theorem ob_laws_toKeymap:AllD df_laws_toKeymap.body.obs:=⟨sd_laws_toActionSS,trivial⟩
theorem st_laws_toKeymap:fnSt df_laws_toKeymap h_laws_toKeymap q_laws_toKeymap=true:=by kernel_rfl
theorem sd_laws_toKeymap:SoundD p_laws_toKeymap D_laws_toKeymap:=by unfold p_laws_toKeymap;exact soundD_of (f:=df_laws_toKeymap) (hs:=h_laws_toKeymap) (q:=q_laws_toKeymap) ob_laws_toKeymap st_laws_toKeymap ck_laws_toKeymap (fun x h=>Eq.mp (ou_laws_toKeymap x) h) (fun x=>(vu_laws_toKeymap x).symm)
noncomputable def dc_spec_IsKeymap:DCode:=
 (.seq [1] (.region [oa 0 1 (.boxB 0 2 (.t 0)),
 oa 1 2 (.mv (.c (.bool false)))])
  (.seq [1] (.seq [3,1] (.region [oi 0 3 0])
  (.block 0 (.loop [1,3] 1 (.seq [3,1] (.seq [10,3,1] (.region [om 0 6 3,
 oa 1 7 (.fieldA 1 (.t 1)),
 oa 2 8 (.loadB 0 none (.t 7)),
 oa 3 9 (.len (.t 8)),
 oa 4 10 (.bin .lss (.t 6) (.t 9))])
  (.cond (.t 10) .skip (.exit 0)))
  (.seq [3,1] (.block 1 (.seq [3,1] (.seq [21,3,1] (.region [oa 0 13 (.fieldA 1 (.t 1)),
 xA 1 14 (.loadB 0 none (.t 13)) (rg 1),
 om 2 15 3,
 xA 3 16 (.indexA 1 (.t 14) (.t 15)) (rg 3),
 xA 4 17 (.loadH none (.t 16)) (rg 4),
 xA 5 18 (.len (.t 17)) (rg 5),
 oa 6 19 (.fieldA 0 (.t 1)),
 xA 7 20 (.loadB 0 none (.t 19)) [6],
 xA 8 21 (.bin .neq (.t 18) (.t 20)) (rg 8)])
  (.cond (.t 21) (.seq [2] (.region [oa 0 2 (.mv (.c (.bool false)))])
  .ret) .skip))
  (.seq [4,3,1] (.region [oi 0 4 0])
  (.block 2 (.loop [1,3,4] 1 (.seq [4,3,1] (.seq [29,4,3,1] (.region [om 0 22 4,
 oa 1 23 (.fieldA 1 (.t 1)),
 oa 2 24 (.loadB 0 none (.t 23)),
 om 3 25 3,
 oa 4 26 (.indexA 1 (.t 24) (.t 25)),
 oa 5 27 (.loadH none (.t 26)),
 oa 6 28 (.len (.t 27)),
 oa 7 29 (.bin .lss (.t 22) (.t 28))])
  (.cond (.t 29) .skip (.exit 2)))
  (.seq [4,3,1] (.block 3 (.seq [5,4,3,1] (.region [oa 0 32 (.fieldA 1 (.t 1)),
 oa 1 33 (.loadB 0 none (.t 32)),
 om 2 34 3,
 oa 3 35 (.indexA 1 (.t 33) (.t 34)),
 oa 4 36 (.loadH none (.t 35)),
 om 5 37 4,
 oa 6 38 (.indexA 4 (.t 36) (.t 37)),
 ob 7 39 (.loadH (some 4) (.t 38)),
 oa 8 5 (.allocB 1 [(.int .i64 0),(.int .i64 0),(.int .i64 0),(.int .i64 0)]),
 os 9 (.storeB 1 4 (.t 5) (.t 39))])
  (.seq [64,4,3,1] (.region [oa 0 40 (.loadB 1 (some 4) (.t 5)),
 oc 1 41 s_spec_IsAction p_spec_IsAction D_spec_IsAction [(.t 40)],
 oa 2 42 (.un .not (.t 41)),
 om 3 43 42,
 og 4 44 (.fieldA 0 (.t 5)) 43 false,
 og 5 45 (.loadB 1 none (.t 44)) 43 false,
 og 6 46 (.bin .eql (.t 45) (.c (.int .i64 1))) 43 false,
 og 7 47 (.mv (.t 46)) 43 false,
 og 8 48 (.mv (.t 3)) 47 true,
 og 9 49 (.bin .eql (.t 48) (.c (.int .i64 0))) 47 true,
 og 10 50 (.pick (.t 47) (.t 49) (.c (.bool false))) 43 false,
 oa 11 51 (.pick (.t 43) (.c (.bool true)) (.t 50)),
 om 12 52 51,
 og 13 53 (.fieldA 0 (.t 5)) 52 false,
 og 14 54 (.loadB 1 none (.t 53)) 52 false,
 og 15 55 (.bin .neq (.t 54) (.c (.int .i64 9))) 52 false,
 og 16 56 (.mv (.t 55)) 52 false,
 og 17 57 (.fieldA 3 (.t 5)) 56 true,
 og 18 58 (.loadB 1 none (.t 57)) 56 true,
 og 19 59 (.fieldA 1 (.t 1)) 56 true,
 og 20 60 (.loadB 0 none (.t 59)) 56 true,
 og 21 61 (.len (.t 60)) 56 true,
 og 22 62 (.bin .geq (.t 58) (.t 61)) 56 true,
 og 23 63 (.pick (.t 56) (.t 62) (.c (.bool false))) 52 false,
 oa 24 64 (.pick (.t 52) (.c (.bool true)) (.t 63))])
  (.cond (.t 64) (.seq [2] (.region [oa 0 2 (.mv (.c (.bool false)))])
  .ret) .skip))))
  (.region [om 0 30 4,
 oa 1 31 (.bin .add (.t 30) (.c (.int .i64 1))),
 om 2 4 31]))))))))
  (.region [om 0 11 3,
 oa 1 12 (.bin .add (.t 11) (.c (.int .i64 1))),
 om 2 3 12]))))))
  (.seq [2] (.region [oa 0 65 (.fieldA 0 (.t 1)),
 oa 1 66 (.loadB 0 none (.t 65)),
 oc 2 67 s_spec_l1In p_spec_l1In D_spec_l1In [(.t 66),(.c (.int .i64 1)),(.c (.int .i64 32))],
 om 3 68 67,
 og 4 69 (.fieldA 1 (.t 1)) 68 true,
 og 5 70 (.loadB 0 none (.t 69)) 68 true,
 og 6 71 (.len (.t 70)) 68 true,
 ⟨7,some 72,.call false s_spec_l1In p_spec_l1In D_spec_l1In [(.t 71),(.c (.int .i64 1)),(.c (.int .i64 4))],(some (68,true)),[]⟩,
 oa 8 73 (.pick (.t 68) (.t 72) (.c (.bool false))),
 om 9 2 73])
  .ret)))
noncomputable def df_spec_IsKeymap:DFun:=⟨1,74,2,true,[.tmp 2],dc_spec_IsKeymap⟩
noncomputable def pf_spec_IsKeymap:PFun:=df_spec_IsKeymap.er
noncomputable def f_spec_IsKeymap:AFun:=pf_spec_IsKeymap.er
@[irreducible] noncomputable def s_spec_IsKeymap:CallSem:=funSem f_spec_IsKeymap
@[irreducible] noncomputable def p_spec_IsKeymap:PSem:=pfunSem pf_spec_IsKeymap
theorem sp_spec_IsKeymap:SoundP s_spec_IsKeymap p_spec_IsKeymap:=by unfold s_spec_IsKeymap p_spec_IsKeymap;exact pfun_sound (f:=pf_spec_IsKeymap) ⟨sp_spec_IsAction,sp_spec_l1In,sp_spec_l1In,trivial⟩
def h_spec_IsKeymap:List HT:=[.agg [(.frz,.int .i64),(.frz,.sl (.one (.sl rI4)))]]
def q_spec_IsKeymap:QT:=.one (.one .own (.bool))
@[irreducible] noncomputable def v_spec_IsKeymap(x:Int×(List (List (Int×Int×Int×Int)))):Bool:=(shut fun x=>fnV df_spec_IsKeymap h_spec_IsKeymap q_spec_IsKeymap x).1 x
@[irreducible] noncomputable def ok_spec_IsKeymap(x:Int×(List (List (Int×Int×Int×Int)))):Prop:=(shut fun x=>fnOk df_spec_IsKeymap h_spec_IsKeymap q_spec_IsKeymap x).1 x
theorem vu_spec_IsKeymap (x):v_spec_IsKeymap x=fnV df_spec_IsKeymap h_spec_IsKeymap q_spec_IsKeymap x:=by unfold v_spec_IsKeymap;exact congrFun (shut _).2 x
theorem ou_spec_IsKeymap (x):ok_spec_IsKeymap x=fnOk df_spec_IsKeymap h_spec_IsKeymap q_spec_IsKeymap x:=by unfold ok_spec_IsKeymap;exact congrFun (shut _).2 x
noncomputable def D_spec_IsKeymap:DSem:=DSemOf h_spec_IsKeymap q_spec_IsKeymap ok_spec_IsKeymap v_spec_IsKeymap
theorem ck_spec_IsKeymap(x:Int×(List (List (Int×Int×Int×Int)))):fnChk df_spec_IsKeymap h_spec_IsKeymap q_spec_IsKeymap x=true:=by kernel_rfl
theorem ob_spec_IsKeymap:AllD df_spec_IsKeymap.body.obs:=⟨sd_spec_IsAction,sd_spec_l1In,sd_spec_l1In,trivial⟩
theorem st_spec_IsKeymap:fnSt df_spec_IsKeymap h_spec_IsKeymap q_spec_IsKeymap=true:=by kernel_rfl
theorem sd_spec_IsKeymap:SoundD p_spec_IsKeymap D_spec_IsKeymap:=by unfold p_spec_IsKeymap;exact soundD_of (f:=df_spec_IsKeymap) (hs:=h_spec_IsKeymap) (q:=q_spec_IsKeymap) ob_spec_IsKeymap st_spec_IsKeymap ck_spec_IsKeymap (fun x h=>Eq.mp (ou_spec_IsKeymap x) h) (fun x=>(vu_spec_IsKeymap x).symm)
noncomputable def dc_impl_IsKeymap:DCode:=
 (.seq [1] (.region [oa 0 1 (.boxB 0 2 (.t 0)),
 oa 1 2 (.mv (.c (.bool false)))])
  (.seq [1] (.seq [26,1] (.region [oa 0 7 (.fieldA 0 (.t 1)),
 oa 1 8 (.loadB 0 none (.t 7)),
 oa 2 9 (.bin .lss (.t 8) (.c (.int .i64 1))),
 om 3 10 9,
 og 4 11 (.fieldA 0 (.t 1)) 10 false,
 og 5 12 (.loadB 0 none (.t 11)) 10 false,
 og 6 13 (.bin .gtr (.t 12) (.c (.int .i64 32))) 10 false,
 oa 7 14 (.pick (.t 10) (.c (.bool true)) (.t 13)),
 om 8 15 14,
 og 9 16 (.fieldA 1 (.t 1)) 15 false,
 og 10 17 (.loadB 0 none (.t 16)) 15 false,
 og 11 18 (.len (.t 17)) 15 false,
 og 12 19 (.bin .lss (.t 18) (.c (.int .i64 1))) 15 false,
 oa 13 20 (.pick (.t 15) (.c (.bool true)) (.t 19)),
 om 14 21 20,
 og 15 22 (.fieldA 1 (.t 1)) 21 false,
 og 16 23 (.loadB 0 none (.t 22)) 21 false,
 og 17 24 (.len (.t 23)) 21 false,
 og 18 25 (.bin .gtr (.t 24) (.c (.int .i64 4))) 21 false,
 oa 19 26 (.pick (.t 21) (.c (.bool true)) (.t 25))])
  (.cond (.t 26) (.seq [2] (.region [oa 0 2 (.mv (.c (.bool false)))])
  .ret) .skip))
  (.seq [] (.seq [30,29,28,1] (.region [oa 0 27 (.fieldA 1 (.t 1)),
 oa 1 28 (.loadB 0 none (.t 27)),
 oa 2 29 (.len (.t 28)),
 oi 3 30 0])
  (.block 0 (.loop [1,28,29,30] 1 (.seq [31,30,29,28,1] (.region [oa 0 31 (.bin .lss (.t 30) (.t 29))])
  (.seq [30,29,28,1] (.cond (.t 31) .skip (.exit 0))
  (.seq [30,29,28,1] (.block 1 (.seq [30,29,28,4,3,1] (.region [om 0 32 30,
 oa 1 33 (.indexA 1 (.t 28) (.t 30)),
 oa 2 34 (.loadH none (.t 33)),
 om 3 3 32,
 on 4 4 34])
  (.seq [30,29,28,4,3,1] (.seq [39,30,29,28,4,3,1] (.region [on 0 35 4,
 oa 1 36 (.len (.t 35)),
 oa 2 37 (.fieldA 0 (.t 1)),
 oa 3 38 (.loadB 0 none (.t 37)),
 oa 4 39 (.bin .neq (.t 36) (.t 38))])
  (.cond (.t 39) (.seq [2] (.region [oa 0 2 (.mv (.c (.bool false)))])
  .ret) .skip))
  (.seq [42,41,40,30,29,28,3,1] (.region [on 0 40 4,
 oa 1 41 (.len (.t 40)),
 oi 2 42 0])
  (.block 2 (.loop [1,3,28,29,30,40,41,42] 1 (.seq [43,42,41,40,30,29,28,3,1] (.region [oa 0 43 (.bin .lss (.t 42) (.t 41))])
  (.seq [42,41,40,30,29,28,3,1] (.cond (.t 43) .skip (.exit 2))
  (.seq [42,41,40,30,29,28,3,1] (.block 3 (.seq [42,41,40,30,29,28,6,3,1] (.region [oa 0 44 (.indexA 4 (.t 40) (.t 42)),
 ob 1 45 (.loadH (some 4) (.t 44)),
 oa 2 6 (.allocB 1 [(.int .i64 0),(.int .i64 0),(.int .i64 0),(.int .i64 0)]),
 os 3 (.storeB 1 4 (.t 6) (.t 45))])
  (.seq [70,42,41,40,30,29,28,3,1] (.region [oa 0 46 (.loadB 1 (some 4) (.t 6)),
 oc 1 47 s_impl_IsAction p_impl_IsAction D_impl_IsAction [(.t 46)],
 oa 2 48 (.un .not (.t 47)),
 om 3 49 48,
 og 4 50 (.mv (.t 3)) 49 false,
 og 5 51 (.bin .eql (.t 50) (.c (.int .i64 0))) 49 false,
 og 6 52 (.mv (.t 51)) 49 false,
 og 7 53 (.fieldA 0 (.t 6)) 52 true,
 og 8 54 (.loadB 1 none (.t 53)) 52 true,
 og 9 55 (.bin .eql (.t 54) (.c (.int .i64 1))) 52 true,
 og 10 56 (.pick (.t 52) (.t 55) (.c (.bool false))) 49 false,
 oa 11 57 (.pick (.t 49) (.c (.bool true)) (.t 56)),
 om 12 58 57,
 og 13 59 (.fieldA 0 (.t 6)) 58 false,
 og 14 60 (.loadB 1 none (.t 59)) 58 false,
 og 15 61 (.bin .neq (.t 60) (.c (.int .i64 9))) 58 false,
 og 16 62 (.mv (.t 61)) 58 false,
 og 17 63 (.fieldA 3 (.t 6)) 62 true,
 og 18 64 (.loadB 1 none (.t 63)) 62 true,
 og 19 65 (.fieldA 1 (.t 1)) 62 true,
 og 20 66 (.loadB 0 none (.t 65)) 62 true,
 og 21 67 (.len (.t 66)) 62 true,
 og 22 68 (.bin .geq (.t 64) (.t 67)) 62 true,
 og 23 69 (.pick (.t 62) (.t 68) (.c (.bool false))) 58 false,
 oa 24 70 (.pick (.t 58) (.c (.bool true)) (.t 69))])
  (.cond (.t 70) (.seq [2] (.region [oa 0 2 (.mv (.c (.bool false)))])
  .ret) .skip))))
  (.region [oa 0 71 (.bin .add (.t 42) (.c (.int .i64 1))),
 om 1 42 71]))))))))))
  (.region [oa 0 72 (.bin .add (.t 30) (.c (.int .i64 1))),
 om 1 30 72])))))))
  (.seq [2] (.region [oa 0 2 (.mv (.c (.bool true)))])
  .ret))))
noncomputable def df_impl_IsKeymap:DFun:=⟨1,73,2,true,[.tmp 2],dc_impl_IsKeymap⟩
noncomputable def pf_impl_IsKeymap:PFun:=df_impl_IsKeymap.er
noncomputable def f_impl_IsKeymap:AFun:=pf_impl_IsKeymap.er
@[irreducible] noncomputable def s_impl_IsKeymap:CallSem:=funSem f_impl_IsKeymap
@[irreducible] noncomputable def p_impl_IsKeymap:PSem:=pfunSem pf_impl_IsKeymap
theorem sp_impl_IsKeymap:SoundP s_impl_IsKeymap p_impl_IsKeymap:=by unfold s_impl_IsKeymap p_impl_IsKeymap;exact pfun_sound (f:=pf_impl_IsKeymap) ⟨sp_impl_IsAction,trivial⟩
def h_impl_IsKeymap:List HT:=[.agg [(.frz,.int .i64),(.frz,.sl (.one (.sl rI4)))]]
def q_impl_IsKeymap:QT:=.one (.one .own (.bool))
@[irreducible] noncomputable def v_impl_IsKeymap(x:Int×(List (List (Int×Int×Int×Int)))):Bool:=(shut fun x=>fnV df_impl_IsKeymap h_impl_IsKeymap q_impl_IsKeymap x).1 x
@[irreducible] noncomputable def ok_impl_IsKeymap(x:Int×(List (List (Int×Int×Int×Int)))):Prop:=(shut fun x=>fnOk df_impl_IsKeymap h_impl_IsKeymap q_impl_IsKeymap x).1 x
theorem vu_impl_IsKeymap (x):v_impl_IsKeymap x=fnV df_impl_IsKeymap h_impl_IsKeymap q_impl_IsKeymap x:=by unfold v_impl_IsKeymap;exact congrFun (shut _).2 x
theorem ou_impl_IsKeymap (x):ok_impl_IsKeymap x=fnOk df_impl_IsKeymap h_impl_IsKeymap q_impl_IsKeymap x:=by unfold ok_impl_IsKeymap;exact congrFun (shut _).2 x
noncomputable def D_impl_IsKeymap:DSem:=DSemOf h_impl_IsKeymap q_impl_IsKeymap ok_impl_IsKeymap v_impl_IsKeymap
theorem ck_impl_IsKeymap(x:Int×(List (List (Int×Int×Int×Int)))):fnChk df_impl_IsKeymap h_impl_IsKeymap q_impl_IsKeymap x=true:=by kernel_rfl
theorem ob_impl_IsKeymap:AllD df_impl_IsKeymap.body.obs:=⟨sd_impl_IsAction,trivial⟩
theorem st_impl_IsKeymap:fnSt df_impl_IsKeymap h_impl_IsKeymap q_impl_IsKeymap=true:=by kernel_rfl
theorem sd_impl_IsKeymap:SoundD p_impl_IsKeymap D_impl_IsKeymap:=by unfold p_impl_IsKeymap;exact soundD_of (f:=df_impl_IsKeymap) (hs:=h_impl_IsKeymap) (q:=q_impl_IsKeymap) ob_impl_IsKeymap st_impl_IsKeymap ck_impl_IsKeymap (fun x h=>Eq.mp (ou_impl_IsKeymap x) h) (fun x=>(vu_impl_IsKeymap x).symm)
noncomputable def dc_laws_eqActionS:DCode:=
 (.seq [1,0] (.region [oa 0 4 (.mv (.c (.bool false)))])
 (.seq [1,0] (.seq [10,1,0] (.region [on 0 6 0,
 oa 1 7 (.len (.t 6)),
 on 2 8 1,
 oa 3 9 (.len (.t 8)),
 oa 4 10 (.bin .neq (.t 7) (.t 9))])
  (.cond (.t 10) (.seq [4] (.region [oa 0 4 (.mv (.c (.bool false)))])
  .ret) .skip))
  (.seq [] (.seq [5,1,0] (.region [oi 0 5 0])
  (.block 0 (.loop [0,1,5] 1 (.seq [5,1,0] (.seq [14,5,1,0] (.region [om 0 11 5,
 on 1 12 0,
 oa 2 13 (.len (.t 12)),
 oa 3 14 (.bin .lss (.t 11) (.t 13))])
  (.cond (.t 14) .skip (.exit 0)))
  (.seq [5,1,0] (.block 1 (.seq [26,5,1,0] (.region [on 0 17 0,
 om 1 18 5,
 xA 2 19 (.indexA 4 (.t 17) (.t 18)) (rg 2),
 xA 3 20 (.loadH (some 4) (.t 19)) (rg 3),
 on 4 21 1,
 om 5 22 5,
 xA 6 23 (.indexA 4 (.t 21) (.t 22)) [4,5],
 xA 7 24 (.loadH (some 4) (.t 23)) [4,5,6],
 xC 8 25 s_laws_eqAction p_laws_eqAction D_laws_eqAction [(.t 20),(.t 24)] (rg 8),
 xA 9 26 (.un .not (.t 25)) (rg 9)])
  (.cond (.t 26) (.seq [4] (.region [oa 0 4 (.mv (.c (.bool false)))])
  .ret) .skip)))
  (.region [om 0 15 5,
 oa 1 16 (.bin .add (.t 15) (.c (.int .i64 1))),
 om 2 5 16]))))))
  (.seq [4] (.region [oa 0 4 (.mv (.c (.bool true)))])
  .ret))))
noncomputable def df_laws_eqActionS:DFun:=⟨2,27,0,true,[.tmp 4],dc_laws_eqActionS⟩
noncomputable def pf_laws_eqActionS:PFun:=df_laws_eqActionS.er
noncomputable def f_laws_eqActionS:AFun:=pf_laws_eqActionS.er
@[irreducible] noncomputable def s_laws_eqActionS:CallSem:=funSem f_laws_eqActionS
@[irreducible] noncomputable def p_laws_eqActionS:PSem:=pfunSem pf_laws_eqActionS
theorem sp_laws_eqActionS:SoundP s_laws_eqActionS p_laws_eqActionS:=by unfold s_laws_eqActionS p_laws_eqActionS;exact pfun_sound (f:=pf_laws_eqActionS) ⟨sp_laws_eqAction,trivial⟩
def h_laws_eqActionS:List HT:=[.one .frz (.sl rI4),.one .frz (.sl rI4)]
def q_laws_eqActionS:QT:=.one (.one .own (.bool))
@[irreducible] noncomputable def v_laws_eqActionS(x:(List (Int×Int×Int×Int))×(List (Int×Int×Int×Int))):Bool:=(shut fun x=>fnV df_laws_eqActionS h_laws_eqActionS q_laws_eqActionS x).1 x
@[irreducible] noncomputable def ok_laws_eqActionS(x:(List (Int×Int×Int×Int))×(List (Int×Int×Int×Int))):Prop:=(shut fun x=>fnOk df_laws_eqActionS h_laws_eqActionS q_laws_eqActionS x).1 x
theorem vu_laws_eqActionS (x):v_laws_eqActionS x=fnV df_laws_eqActionS h_laws_eqActionS q_laws_eqActionS x:=by unfold v_laws_eqActionS;exact congrFun (shut _).2 x
theorem ou_laws_eqActionS (x):ok_laws_eqActionS x=fnOk df_laws_eqActionS h_laws_eqActionS q_laws_eqActionS x:=by unfold ok_laws_eqActionS;exact congrFun (shut _).2 x
noncomputable def D_laws_eqActionS:DSem:=DSemOf h_laws_eqActionS q_laws_eqActionS ok_laws_eqActionS v_laws_eqActionS
theorem ck_laws_eqActionS(x:(List (Int×Int×Int×Int))×(List (Int×Int×Int×Int))):fnChk df_laws_eqActionS h_laws_eqActionS q_laws_eqActionS x=true:=by kernel_rfl
theorem ob_laws_eqActionS:AllD df_laws_eqActionS.body.obs:=⟨sd_laws_eqAction,trivial⟩
theorem st_laws_eqActionS:fnSt df_laws_eqActionS h_laws_eqActionS q_laws_eqActionS=true:=by kernel_rfl
theorem sd_laws_eqActionS:SoundD p_laws_eqActionS D_laws_eqActionS:=by unfold p_laws_eqActionS;exact soundD_of (f:=df_laws_eqActionS) (hs:=h_laws_eqActionS) (q:=q_laws_eqActionS) ob_laws_eqActionS st_laws_eqActionS ck_laws_eqActionS (fun x h=>Eq.mp (ou_laws_eqActionS x) h) (fun x=>(vu_laws_eqActionS x).symm)
noncomputable def dc_laws_eqActionSS:DCode:=
 (.seq [1,0] (.region [oa 0 4 (.mv (.c (.bool false)))])
 (.seq [1,0] (.seq [10,1,0] (.region [on 0 6 0,
 oa 1 7 (.len (.t 6)),
 on 2 8 1,
 oa 3 9 (.len (.t 8)),
 oa 4 10 (.bin .neq (.t 7) (.t 9))])
  (.cond (.t 10) (.seq [4] (.region [oa 0 4 (.mv (.c (.bool false)))])
  .ret) .skip))
  (.seq [] (.seq [5,1,0] (.region [oi 0 5 0])
  (.block 0 (.loop [0,1,5] 1 (.seq [5,1,0] (.seq [14,5,1,0] (.region [om 0 11 5,
 on 1 12 0,
 oa 2 13 (.len (.t 12)),
 oa 3 14 (.bin .lss (.t 11) (.t 13))])
  (.cond (.t 14) .skip (.exit 0)))
  (.seq [5,1,0] (.block 1 (.seq [26,5,1,0] (.region [on 0 17 0,
 om 1 18 5,
 xA 2 19 (.indexA 1 (.t 17) (.t 18)) (rg 2),
 xA 3 20 (.loadH none (.t 19)) (rg 3),
 on 4 21 1,
 om 5 22 5,
 xA 6 23 (.indexA 1 (.t 21) (.t 22)) [4,5],
 xA 7 24 (.loadH none (.t 23)) [4,5,6],
 xC 8 25 s_laws_eqActionS p_laws_eqActionS D_laws_eqActionS [(.t 20),(.t 24)] (rg 8),
 xA 9 26 (.un .not (.t 25)) (rg 9)])
  (.cond (.t 26) (.seq [4] (.region [oa 0 4 (.mv (.c (.bool false)))])
  .ret) .skip)))
  (.region [om 0 15 5,
 oa 1 16 (.bin .add (.t 15) (.c (.int .i64 1))),
 om 2 5 16]))))))
  (.seq [4] (.region [oa 0 4 (.mv (.c (.bool true)))])
  .ret))))
noncomputable def df_laws_eqActionSS:DFun:=⟨2,27,0,true,[.tmp 4],dc_laws_eqActionSS⟩
noncomputable def pf_laws_eqActionSS:PFun:=df_laws_eqActionSS.er
noncomputable def f_laws_eqActionSS:AFun:=pf_laws_eqActionSS.er
@[irreducible] noncomputable def s_laws_eqActionSS:CallSem:=funSem f_laws_eqActionSS
@[irreducible] noncomputable def p_laws_eqActionSS:PSem:=pfunSem pf_laws_eqActionSS
theorem sp_laws_eqActionSS:SoundP s_laws_eqActionSS p_laws_eqActionSS:=by unfold s_laws_eqActionSS p_laws_eqActionSS;exact pfun_sound (f:=pf_laws_eqActionSS) ⟨sp_laws_eqActionS,trivial⟩
def h_laws_eqActionSS:List HT:=[.one .frz (.sl (.one (.sl rI4))),.one .frz (.sl (.one (.sl rI4)))]
def q_laws_eqActionSS:QT:=.one (.one .own (.bool))
@[irreducible] noncomputable def v_laws_eqActionSS(x:(List (List (Int×Int×Int×Int)))×(List (List (Int×Int×Int×Int)))):Bool:=(shut fun x=>fnV df_laws_eqActionSS h_laws_eqActionSS q_laws_eqActionSS x).1 x
@[irreducible] noncomputable def ok_laws_eqActionSS(x:(List (List (Int×Int×Int×Int)))×(List (List (Int×Int×Int×Int)))):Prop:=(shut fun x=>fnOk df_laws_eqActionSS h_laws_eqActionSS q_laws_eqActionSS x).1 x
theorem vu_laws_eqActionSS (x):v_laws_eqActionSS x=fnV df_laws_eqActionSS h_laws_eqActionSS q_laws_eqActionSS x:=by unfold v_laws_eqActionSS;exact congrFun (shut _).2 x
theorem ou_laws_eqActionSS (x):ok_laws_eqActionSS x=fnOk df_laws_eqActionSS h_laws_eqActionSS q_laws_eqActionSS x:=by unfold ok_laws_eqActionSS;exact congrFun (shut _).2 x
noncomputable def D_laws_eqActionSS:DSem:=DSemOf h_laws_eqActionSS q_laws_eqActionSS ok_laws_eqActionSS v_laws_eqActionSS
theorem ck_laws_eqActionSS(x:(List (List (Int×Int×Int×Int)))×(List (List (Int×Int×Int×Int)))):fnChk df_laws_eqActionSS h_laws_eqActionSS q_laws_eqActionSS x=true:=by kernel_rfl
theorem ob_laws_eqActionSS:AllD df_laws_eqActionSS.body.obs:=⟨sd_laws_eqActionS,trivial⟩
theorem st_laws_eqActionSS:fnSt df_laws_eqActionSS h_laws_eqActionSS q_laws_eqActionSS=true:=by kernel_rfl
theorem sd_laws_eqActionSS:SoundD p_laws_eqActionSS D_laws_eqActionSS:=by unfold p_laws_eqActionSS;exact soundD_of (f:=df_laws_eqActionSS) (hs:=h_laws_eqActionSS) (q:=q_laws_eqActionSS) ob_laws_eqActionSS st_laws_eqActionSS ck_laws_eqActionSS (fun x h=>Eq.mp (ou_laws_eqActionSS x) h) (fun x=>(vu_laws_eqActionSS x).symm)
noncomputable def dc_laws_eqKeymap:DCode:=
 (.seq [3,2] (.region [oa 0 2 (.boxB 0 2 (.t 0)),
 oa 1 3 (.boxB 1 2 (.t 1)),
 oa 2 4 (.mv (.c (.bool false)))])
  (.seq [3,2] (.seq [9,3,2] (.region [oa 0 5 (.fieldA 0 (.t 2)),
 oa 1 6 (.loadB 0 none (.t 5)),
 oa 2 7 (.fieldA 0 (.t 3)),
 oa 3 8 (.loadB 1 none (.t 7)),
 oa 4 9 (.bin .neq (.t 6) (.t 8))])
  (.cond (.t 9) (.seq [4] (.region [oa 0 4 (.mv (.c (.bool false)))])
  .ret) .skip))
  (.seq [] (.seq [15] (.region [oa 0 10 (.fieldA 1 (.t 2)),
 oa 1 11 (.loadB 0 none (.t 10)),
 oa 2 12 (.fieldA 1 (.t 3)),
 oa 3 13 (.loadB 1 none (.t 12)),
 oc 4 14 s_laws_eqActionSS p_laws_eqActionSS D_laws_eqActionSS [(.t 11),(.t 13)],
 oa 5 15 (.un .not (.t 14))])
  (.cond (.t 15) (.seq [4] (.region [oa 0 4 (.mv (.c (.bool false)))])
  .ret) .skip))
  (.seq [4] (.region [oa 0 4 (.mv (.c (.bool true)))])
  .ret))))
noncomputable def df_laws_eqKeymap:DFun:=⟨2,16,2,true,[.tmp 4],dc_laws_eqKeymap⟩
noncomputable def pf_laws_eqKeymap:PFun:=df_laws_eqKeymap.er
noncomputable def f_laws_eqKeymap:AFun:=pf_laws_eqKeymap.er
@[irreducible] noncomputable def s_laws_eqKeymap:CallSem:=funSem f_laws_eqKeymap
@[irreducible] noncomputable def p_laws_eqKeymap:PSem:=pfunSem pf_laws_eqKeymap
theorem sp_laws_eqKeymap:SoundP s_laws_eqKeymap p_laws_eqKeymap:=by unfold s_laws_eqKeymap p_laws_eqKeymap;exact pfun_sound (f:=pf_laws_eqKeymap) ⟨sp_laws_eqActionSS,trivial⟩
def h_laws_eqKeymap:List HT:=[.agg [(.frz,.int .i64),(.frz,.sl (.one (.sl rI4)))],.agg [(.frz,.int .i64),(.frz,.sl (.one (.sl rI4)))]]
def q_laws_eqKeymap:QT:=.one (.one .own (.bool))
@[irreducible] noncomputable def v_laws_eqKeymap(x:(Int×(List (List (Int×Int×Int×Int))))×(Int×(List (List (Int×Int×Int×Int))))):Bool:=(shut fun x=>fnV df_laws_eqKeymap h_laws_eqKeymap q_laws_eqKeymap x).1 x
@[irreducible] noncomputable def ok_laws_eqKeymap(x:(Int×(List (List (Int×Int×Int×Int))))×(Int×(List (List (Int×Int×Int×Int))))):Prop:=(shut fun x=>fnOk df_laws_eqKeymap h_laws_eqKeymap q_laws_eqKeymap x).1 x
theorem vu_laws_eqKeymap (x):v_laws_eqKeymap x=fnV df_laws_eqKeymap h_laws_eqKeymap q_laws_eqKeymap x:=by unfold v_laws_eqKeymap;exact congrFun (shut _).2 x
theorem ou_laws_eqKeymap (x):ok_laws_eqKeymap x=fnOk df_laws_eqKeymap h_laws_eqKeymap q_laws_eqKeymap x:=by unfold ok_laws_eqKeymap;exact congrFun (shut _).2 x
noncomputable def D_laws_eqKeymap:DSem:=DSemOf h_laws_eqKeymap q_laws_eqKeymap ok_laws_eqKeymap v_laws_eqKeymap
theorem ck_laws_eqKeymap(x:(Int×(List (List (Int×Int×Int×Int))))×(Int×(List (List (Int×Int×Int×Int))))):fnChk df_laws_eqKeymap h_laws_eqKeymap q_laws_eqKeymap x=true:=by kernel_rfl
theorem ob_laws_eqKeymap:AllD df_laws_eqKeymap.body.obs:=⟨sd_laws_eqActionSS,trivial⟩
theorem st_laws_eqKeymap:fnSt df_laws_eqKeymap h_laws_eqKeymap q_laws_eqKeymap=true:=by kernel_rfl
theorem sd_laws_eqKeymap:SoundD p_laws_eqKeymap D_laws_eqKeymap:=by unfold p_laws_eqKeymap;exact soundD_of (f:=df_laws_eqKeymap) (hs:=h_laws_eqKeymap) (q:=q_laws_eqKeymap) ob_laws_eqKeymap st_laws_eqKeymap ck_laws_eqKeymap (fun x h=>Eq.mp (ou_laws_eqKeymap x) h) (fun x=>(vu_laws_eqKeymap x).symm)
end
section
set_option maxRecDepth 100000
theorem ve_laws_szActionS (x):v_laws_szActionS x=(bSel (iLt (iSub .i64 x.2 (lLen x.1)) 0) (-1) (iSub .i64 x.2 (lLen x.1))):=(vu_laws_szActionS x).trans (by kernel_rfl)
theorem oe_laws_szActionS (x):ok_laws_szActionS x=True:=(ou_laws_szActionS x).trans (by kernel_rfl)
theorem ve_laws_szActionSS (x):v_laws_szActionSS x=(bSel (iLt (iSub .i64 x.2 (lLen x.1)) 0) (-1) (bSel (iLt (loopV (fun(x0:(Int×Int))=>(bAnd (iLt x0.2 (lLen x.1)) (bNot (iLt (v_laws_szActionS ((lGet x.1 (iNat x0.2) []),x0.1)) 0)))) (fun(x0:(Int×Int))=>((v_laws_szActionS ((lGet x.1 (iNat x0.2) []),x0.1)),(iAdd .i64 x0.2 1))) ((iSub .i64 x.2 (lLen x.1)),0)).2 (lLen x.1)) (-1) (loopV (fun(x0:(Int×Int))=>(bAnd (iLt x0.2 (lLen x.1)) (bNot (iLt (v_laws_szActionS ((lGet x.1 (iNat x0.2) []),x0.1)) 0)))) (fun(x0:(Int×Int))=>((v_laws_szActionS ((lGet x.1 (iNat x0.2) []),x0.1)),(iAdd .i64 x0.2 1))) ((iSub .i64 x.2 (lLen x.1)),0)).1)):=(vu_laws_szActionSS x).trans (by kernel_rfl)
theorem oe_laws_szActionSS (x):ok_laws_szActionSS x=(((iLt (iSub .i64 x.2 (lLen x.1)) 0)=true→True)∧((iLt (iSub .i64 x.2 (lLen x.1)) 0)=false→(LoopOk (fun(x0:(Int×Int))=>(bAnd (iLt x0.2 (lLen x.1)) (bNot (iLt (v_laws_szActionS ((lGet x.1 (iNat x0.2) []),x0.1)) 0)))) (fun(x0:(Int×Int))=>((v_laws_szActionS ((lGet x.1 (iNat x0.2) []),x0.1)),(iAdd .i64 x0.2 1))) (fun(x0:(Int×Int))=>(((iLt x0.2 (lLen x.1))=true→((((0:Int)≤x0.2)∧(x0.2<(((List.length x.1):Int))))∧(((iNat x0.2)<(List.length x.1))∧(ok_laws_szActionS ((lGet x.1 (iNat x0.2) []),x0.1)))))∧((iLt x0.2 (lLen x.1))=false→True))) ((iSub .i64 x.2 (lLen x.1)),0)))):=(ou_laws_szActionSS x).trans (by kernel_rfl)
theorem ve_laws_szKeymap (x):v_laws_szKeymap x=(bSel (iLt (v_laws_szActionSS (x.1.2,x.2)) 0) (-1) (v_laws_szActionSS (x.1.2,x.2))):=(vu_laws_szKeymap x).trans (by kernel_rfl)
theorem oe_laws_szKeymap (x):ok_laws_szKeymap x=(ok_laws_szActionSS (x.1.2,x.2)):=(ou_laws_szKeymap x).trans (by kernel_rfl)
theorem ve_laws_toActionS (x):v_laws_toActionS x=(loopV (fun(x0:((List (Int×(Int×(Int×Int))))×Int))=>(iLt x0.2 (lLen x))) (fun(x0:((List (Int×(Int×(Int×Int))))×Int))=>((lSet x0.1 (iNat x0.2) ((v_laws_toAction ((lGet x (iNat x0.2) (0,0,0,0)).1,(lGet x (iNat x0.2) (0,0,0,0)).2.1,(lGet x (iNat x0.2) (0,0,0,0)).2.2.1,(lGet x (iNat x0.2) (0,0,0,0)).2.2.2)).1,(v_laws_toAction ((lGet x (iNat x0.2) (0,0,0,0)).1,(lGet x (iNat x0.2) (0,0,0,0)).2.1,(lGet x (iNat x0.2) (0,0,0,0)).2.2.1,(lGet x (iNat x0.2) (0,0,0,0)).2.2.2)).2.1,(v_laws_toAction ((lGet x (iNat x0.2) (0,0,0,0)).1,(lGet x (iNat x0.2) (0,0,0,0)).2.1,(lGet x (iNat x0.2) (0,0,0,0)).2.2.1,(lGet x (iNat x0.2) (0,0,0,0)).2.2.2)).2.2.1,(v_laws_toAction ((lGet x (iNat x0.2) (0,0,0,0)).1,(lGet x (iNat x0.2) (0,0,0,0)).2.1,(lGet x (iNat x0.2) (0,0,0,0)).2.2.1,(lGet x (iNat x0.2) (0,0,0,0)).2.2.2)).2.2.2)),(iAdd .i64 x0.2 1))) ((lRep (lLen x) (0,0,0,0)),0)).1:=(vu_laws_toActionS x).trans (by kernel_rfl)
theorem oe_laws_toActionS (x):ok_laws_toActionS x=((((0:Int)≤(lLen x))∧(roomy ((Int.toNat (lLen x))*4)))∧(LoopOk (fun(x0:((List (Int×(Int×(Int×Int))))×Int))=>(iLt x0.2 (lLen x))) (fun(x0:((List (Int×(Int×(Int×Int))))×Int))=>((lSet x0.1 (iNat x0.2) ((v_laws_toAction ((lGet x (iNat x0.2) (0,0,0,0)).1,(lGet x (iNat x0.2) (0,0,0,0)).2.1,(lGet x (iNat x0.2) (0,0,0,0)).2.2.1,(lGet x (iNat x0.2) (0,0,0,0)).2.2.2)).1,(v_laws_toAction ((lGet x (iNat x0.2) (0,0,0,0)).1,(lGet x (iNat x0.2) (0,0,0,0)).2.1,(lGet x (iNat x0.2) (0,0,0,0)).2.2.1,(lGet x (iNat x0.2) (0,0,0,0)).2.2.2)).2.1,(v_laws_toAction ((lGet x (iNat x0.2) (0,0,0,0)).1,(lGet x (iNat x0.2) (0,0,0,0)).2.1,(lGet x (iNat x0.2) (0,0,0,0)).2.2.1,(lGet x (iNat x0.2) (0,0,0,0)).2.2.2)).2.2.1,(v_laws_toAction ((lGet x (iNat x0.2) (0,0,0,0)).1,(lGet x (iNat x0.2) (0,0,0,0)).2.1,(lGet x (iNat x0.2) (0,0,0,0)).2.2.1,(lGet x (iNat x0.2) (0,0,0,0)).2.2.2)).2.2.2)),(iAdd .i64 x0.2 1))) (fun(x0:((List (Int×(Int×(Int×Int))))×Int))=>(((iLt x0.2 (lLen x))=true→((((0:Int)≤x0.2)∧(x0.2<(((List.length x):Int))))∧(((iNat x0.2)<(List.length x))∧((ok_laws_toAction ((lGet x (iNat x0.2) (0,0,0,0)).1,(lGet x (iNat x0.2) (0,0,0,0)).2.1,(lGet x (iNat x0.2) (0,0,0,0)).2.2.1,(lGet x (iNat x0.2) (0,0,0,0)).2.2.2))∧((((0:Int)≤x0.2)∧(x0.2<(((List.length x0.1):Int))))∧((iNat x0.2)<(List.length x0.1)))))))∧((iLt x0.2 (lLen x))=false→True))) ((lRep (lLen x) (0,0,0,0)),0))):=(ou_laws_toActionS x).trans (by kernel_rfl)
theorem ve_laws_toActionSS (x):v_laws_toActionSS x=(loopV (fun(x0:((List (List (Int×(Int×(Int×Int)))))×Int))=>(iLt x0.2 (lLen x))) (fun(x0:((List (List (Int×(Int×(Int×Int)))))×Int))=>((lSet x0.1 (iNat x0.2) (v_laws_toActionS (lGet x (iNat x0.2) []))),(iAdd .i64 x0.2 1))) ((lRep (lLen x) []),0)).1:=(vu_laws_toActionSS x).trans (by kernel_rfl)
theorem oe_laws_toActionSS (x):ok_laws_toActionSS x=((((0:Int)≤(lLen x))∧(roomy ((Int.toNat (lLen x))*1)))∧(LoopOk (fun(x0:((List (List (Int×(Int×(Int×Int)))))×Int))=>(iLt x0.2 (lLen x))) (fun(x0:((List (List (Int×(Int×(Int×Int)))))×Int))=>((lSet x0.1 (iNat x0.2) (v_laws_toActionS (lGet x (iNat x0.2) []))),(iAdd .i64 x0.2 1))) (fun(x0:((List (List (Int×(Int×(Int×Int)))))×Int))=>(((iLt x0.2 (lLen x))=true→((((0:Int)≤x0.2)∧(x0.2<(((List.length x):Int))))∧(((iNat x0.2)<(List.length x))∧((ok_laws_toActionS (lGet x (iNat x0.2) []))∧((((0:Int)≤x0.2)∧(x0.2<(((List.length x0.1):Int))))∧((iNat x0.2)<(List.length x0.1)))))))∧((iLt x0.2 (lLen x))=false→True))) ((lRep (lLen x) []),0))):=(ou_laws_toActionSS x).trans (by kernel_rfl)
theorem ve_laws_toKeymap (x):v_laws_toKeymap x=(x.1,(v_laws_toActionSS x.2)):=(vu_laws_toKeymap x).trans (by kernel_rfl)
theorem oe_laws_toKeymap (x):ok_laws_toKeymap x=(ok_laws_toActionSS x.2):=(ou_laws_toKeymap x).trans (by kernel_rfl)
theorem ve_spec_IsKeymap (x):v_spec_IsKeymap x=(bAnd (bNot (iLt (loopV (fun(x0:Int)=>(bAnd (iLt x0 (lLen x.2)) (bAnd (bNot (iNe (lLen (lGet x.2 (iNat x0) [])) x.1)) (bNot (iLt (loopV (fun(x1:Int)=>(bAnd (iLt x1 (lLen (lGet x.2 (iNat x0) []))) (bNot (bOr (bNot (v_spec_IsAction ((lGet (lGet x.2 (iNat x0) []) (iNat x1) (0,0,0,0)).1,(lGet (lGet x.2 (iNat x0) []) (iNat x1) (0,0,0,0)).2.1,(lGet (lGet x.2 (iNat x0) []) (iNat x1) (0,0,0,0)).2.2.1,(lGet (lGet x.2 (iNat x0) []) (iNat x1) (0,0,0,0)).2.2.2))) (bSel (iEq (lGet (lGet x.2 (iNat x0) []) (iNat x1) (0,0,0,0)).1 1) (bOr (iEq x0 0) (bAnd (iNe (lGet (lGet x.2 (iNat x0) []) (iNat x1) (0,0,0,0)).1 9) (iGe (lGet (lGet x.2 (iNat x0) []) (iNat x1) (0,0,0,0)).2.2.2 (lLen x.2)))) (bAnd (iNe (lGet (lGet x.2 (iNat x0) []) (iNat x1) (0,0,0,0)).1 9) (iGe (lGet (lGet x.2 (iNat x0) []) (iNat x1) (0,0,0,0)).2.2.2 (lLen x.2)))))))) (fun(x1:Int)=>(iAdd .i64 x1 1)) 0) (lLen (lGet x.2 (iNat x0) []))))))) (fun(x0:Int)=>(iAdd .i64 x0 1)) 0) (lLen x.2))) (bAnd (v_spec_l1In (x.1,1,32)) (v_spec_l1In ((lLen x.2),1,4)))):=(vu_spec_IsKeymap x).trans (by kernel_rfl)
theorem oe_spec_IsKeymap (x):ok_spec_IsKeymap x=((LoopOk (fun(x0:Int)=>(bAnd (iLt x0 (lLen x.2)) (bAnd (bNot (iNe (lLen (lGet x.2 (iNat x0) [])) x.1)) (bNot (iLt (loopV (fun(x1:Int)=>(bAnd (iLt x1 (lLen (lGet x.2 (iNat x0) []))) (bNot (bOr (bNot (v_spec_IsAction ((lGet (lGet x.2 (iNat x0) []) (iNat x1) (0,0,0,0)).1,(lGet (lGet x.2 (iNat x0) []) (iNat x1) (0,0,0,0)).2.1,(lGet (lGet x.2 (iNat x0) []) (iNat x1) (0,0,0,0)).2.2.1,(lGet (lGet x.2 (iNat x0) []) (iNat x1) (0,0,0,0)).2.2.2))) (bSel (iEq (lGet (lGet x.2 (iNat x0) []) (iNat x1) (0,0,0,0)).1 1) (bOr (iEq x0 0) (bAnd (iNe (lGet (lGet x.2 (iNat x0) []) (iNat x1) (0,0,0,0)).1 9) (iGe (lGet (lGet x.2 (iNat x0) []) (iNat x1) (0,0,0,0)).2.2.2 (lLen x.2)))) (bAnd (iNe (lGet (lGet x.2 (iNat x0) []) (iNat x1) (0,0,0,0)).1 9) (iGe (lGet (lGet x.2 (iNat x0) []) (iNat x1) (0,0,0,0)).2.2.2 (lLen x.2)))))))) (fun(x1:Int)=>(iAdd .i64 x1 1)) 0) (lLen (lGet x.2 (iNat x0) []))))))) (fun(x0:Int)=>(iAdd .i64 x0 1)) (fun(x0:Int)=>(((iLt x0 (lLen x.2))=true→((((0:Int)≤x0)∧(x0<(((List.length x.2):Int))))∧(((iNat x0)<(List.length x.2))∧(((iNe (lLen (lGet x.2 (iNat x0) [])) x.1)=true→True)∧((iNe (lLen (lGet x.2 (iNat x0) [])) x.1)=false→(LoopOk (fun(x1:Int)=>(bAnd (iLt x1 (lLen (lGet x.2 (iNat x0) []))) (bNot (bOr (bNot (v_spec_IsAction ((lGet (lGet x.2 (iNat x0) []) (iNat x1) (0,0,0,0)).1,(lGet (lGet x.2 (iNat x0) []) (iNat x1) (0,0,0,0)).2.1,(lGet (lGet x.2 (iNat x0) []) (iNat x1) (0,0,0,0)).2.2.1,(lGet (lGet x.2 (iNat x0) []) (iNat x1) (0,0,0,0)).2.2.2))) (bSel (iEq (lGet (lGet x.2 (iNat x0) []) (iNat x1) (0,0,0,0)).1 1) (bOr (iEq x0 0) (bAnd (iNe (lGet (lGet x.2 (iNat x0) []) (iNat x1) (0,0,0,0)).1 9) (iGe (lGet (lGet x.2 (iNat x0) []) (iNat x1) (0,0,0,0)).2.2.2 (lLen x.2)))) (bAnd (iNe (lGet (lGet x.2 (iNat x0) []) (iNat x1) (0,0,0,0)).1 9) (iGe (lGet (lGet x.2 (iNat x0) []) (iNat x1) (0,0,0,0)).2.2.2 (lLen x.2)))))))) (fun(x1:Int)=>(iAdd .i64 x1 1)) (fun(x1:Int)=>((((0:Int)≤x0)∧(x0<(((List.length x.2):Int))))∧(((iNat x0)<(List.length x.2))∧(((iLt x1 (lLen (lGet x.2 (iNat x0) [])))=true→((((0:Int)≤x0)∧(x0<(((List.length x.2):Int))))∧(((iNat x0)<(List.length x.2))∧((((0:Int)≤x1)∧(x1<(((List.length (lGet x.2 (iNat x0) [])):Int))))∧(((iNat x1)<(List.length (lGet x.2 (iNat x0) [])))∧(ok_spec_IsAction ((lGet (lGet x.2 (iNat x0) []) (iNat x1) (0,0,0,0)).1,(lGet (lGet x.2 (iNat x0) []) (iNat x1) (0,0,0,0)).2.1,(lGet (lGet x.2 (iNat x0) []) (iNat x1) (0,0,0,0)).2.2.1,(lGet (lGet x.2 (iNat x0) []) (iNat x1) (0,0,0,0)).2.2.2)))))))∧((iLt x1 (lLen (lGet x.2 (iNat x0) [])))=false→True))))) 0))))))∧((iLt x0 (lLen x.2))=false→True))) 0)∧(((iLt (loopV (fun(x0:Int)=>(bAnd (iLt x0 (lLen x.2)) (bAnd (bNot (iNe (lLen (lGet x.2 (iNat x0) [])) x.1)) (bNot (iLt (loopV (fun(x1:Int)=>(bAnd (iLt x1 (lLen (lGet x.2 (iNat x0) []))) (bNot (bOr (bNot (v_spec_IsAction ((lGet (lGet x.2 (iNat x0) []) (iNat x1) (0,0,0,0)).1,(lGet (lGet x.2 (iNat x0) []) (iNat x1) (0,0,0,0)).2.1,(lGet (lGet x.2 (iNat x0) []) (iNat x1) (0,0,0,0)).2.2.1,(lGet (lGet x.2 (iNat x0) []) (iNat x1) (0,0,0,0)).2.2.2))) (bSel (iEq (lGet (lGet x.2 (iNat x0) []) (iNat x1) (0,0,0,0)).1 1) (bOr (iEq x0 0) (bAnd (iNe (lGet (lGet x.2 (iNat x0) []) (iNat x1) (0,0,0,0)).1 9) (iGe (lGet (lGet x.2 (iNat x0) []) (iNat x1) (0,0,0,0)).2.2.2 (lLen x.2)))) (bAnd (iNe (lGet (lGet x.2 (iNat x0) []) (iNat x1) (0,0,0,0)).1 9) (iGe (lGet (lGet x.2 (iNat x0) []) (iNat x1) (0,0,0,0)).2.2.2 (lLen x.2)))))))) (fun(x1:Int)=>(iAdd .i64 x1 1)) 0) (lLen (lGet x.2 (iNat x0) []))))))) (fun(x0:Int)=>(iAdd .i64 x0 1)) 0) (lLen x.2))=true→True)∧((iLt (loopV (fun(x0:Int)=>(bAnd (iLt x0 (lLen x.2)) (bAnd (bNot (iNe (lLen (lGet x.2 (iNat x0) [])) x.1)) (bNot (iLt (loopV (fun(x1:Int)=>(bAnd (iLt x1 (lLen (lGet x.2 (iNat x0) []))) (bNot (bOr (bNot (v_spec_IsAction ((lGet (lGet x.2 (iNat x0) []) (iNat x1) (0,0,0,0)).1,(lGet (lGet x.2 (iNat x0) []) (iNat x1) (0,0,0,0)).2.1,(lGet (lGet x.2 (iNat x0) []) (iNat x1) (0,0,0,0)).2.2.1,(lGet (lGet x.2 (iNat x0) []) (iNat x1) (0,0,0,0)).2.2.2))) (bSel (iEq (lGet (lGet x.2 (iNat x0) []) (iNat x1) (0,0,0,0)).1 1) (bOr (iEq x0 0) (bAnd (iNe (lGet (lGet x.2 (iNat x0) []) (iNat x1) (0,0,0,0)).1 9) (iGe (lGet (lGet x.2 (iNat x0) []) (iNat x1) (0,0,0,0)).2.2.2 (lLen x.2)))) (bAnd (iNe (lGet (lGet x.2 (iNat x0) []) (iNat x1) (0,0,0,0)).1 9) (iGe (lGet (lGet x.2 (iNat x0) []) (iNat x1) (0,0,0,0)).2.2.2 (lLen x.2)))))))) (fun(x1:Int)=>(iAdd .i64 x1 1)) 0) (lLen (lGet x.2 (iNat x0) []))))))) (fun(x0:Int)=>(iAdd .i64 x0 1)) 0) (lLen x.2))=false→((ok_spec_l1In (x.1,1,32))∧(((v_spec_l1In (x.1,1,32))=true→(ok_spec_l1In ((lLen x.2),1,4)))∧((v_spec_l1In (x.1,1,32))=false→True)))))):=(ou_spec_IsKeymap x).trans (by kernel_rfl)
theorem ve_impl_IsKeymap (x):v_impl_IsKeymap x=(bAnd (bNot (bOr (iLt x.1 1) (bOr (iGt x.1 32) (bOr (iLt (lLen x.2) 1) (iGt (lLen x.2) 4))))) (bNot (iLt (loopV (fun(x0:Int)=>(bAnd (iLt x0 (lLen x.2)) (bAnd (bNot (iNe (lLen (lGet x.2 (iNat x0) [])) x.1)) (bNot (iLt (loopV (fun(x1:Int)=>(bAnd (iLt x1 (lLen (lGet x.2 (iNat x0) []))) (bNot (bOr (bNot (v_impl_IsAction ((lGet (lGet x.2 (iNat x0) []) (iNat x1) (0,0,0,0)).1,(lGet (lGet x.2 (iNat x0) []) (iNat x1) (0,0,0,0)).2.1,(lGet (lGet x.2 (iNat x0) []) (iNat x1) (0,0,0,0)).2.2.1,(lGet (lGet x.2 (iNat x0) []) (iNat x1) (0,0,0,0)).2.2.2))) (bSel (iEq x0 0) (bOr (iEq (lGet (lGet x.2 (iNat x0) []) (iNat x1) (0,0,0,0)).1 1) (bAnd (iNe (lGet (lGet x.2 (iNat x0) []) (iNat x1) (0,0,0,0)).1 9) (iGe (lGet (lGet x.2 (iNat x0) []) (iNat x1) (0,0,0,0)).2.2.2 (lLen x.2)))) (bAnd (iNe (lGet (lGet x.2 (iNat x0) []) (iNat x1) (0,0,0,0)).1 9) (iGe (lGet (lGet x.2 (iNat x0) []) (iNat x1) (0,0,0,0)).2.2.2 (lLen x.2)))))))) (fun(x1:Int)=>(iAdd .i64 x1 1)) 0) (lLen (lGet x.2 (iNat x0) []))))))) (fun(x0:Int)=>(iAdd .i64 x0 1)) 0) (lLen x.2)))):=(vu_impl_IsKeymap x).trans (by kernel_rfl)
theorem oe_impl_IsKeymap (x):ok_impl_IsKeymap x=(((bOr (iLt x.1 1) (bOr (iGt x.1 32) (bOr (iLt (lLen x.2) 1) (iGt (lLen x.2) 4))))=true→True)∧((bOr (iLt x.1 1) (bOr (iGt x.1 32) (bOr (iLt (lLen x.2) 1) (iGt (lLen x.2) 4))))=false→(LoopOk (fun(x0:Int)=>(bAnd (iLt x0 (lLen x.2)) (bAnd (bNot (iNe (lLen (lGet x.2 (iNat x0) [])) x.1)) (bNot (iLt (loopV (fun(x1:Int)=>(bAnd (iLt x1 (lLen (lGet x.2 (iNat x0) []))) (bNot (bOr (bNot (v_impl_IsAction ((lGet (lGet x.2 (iNat x0) []) (iNat x1) (0,0,0,0)).1,(lGet (lGet x.2 (iNat x0) []) (iNat x1) (0,0,0,0)).2.1,(lGet (lGet x.2 (iNat x0) []) (iNat x1) (0,0,0,0)).2.2.1,(lGet (lGet x.2 (iNat x0) []) (iNat x1) (0,0,0,0)).2.2.2))) (bSel (iEq x0 0) (bOr (iEq (lGet (lGet x.2 (iNat x0) []) (iNat x1) (0,0,0,0)).1 1) (bAnd (iNe (lGet (lGet x.2 (iNat x0) []) (iNat x1) (0,0,0,0)).1 9) (iGe (lGet (lGet x.2 (iNat x0) []) (iNat x1) (0,0,0,0)).2.2.2 (lLen x.2)))) (bAnd (iNe (lGet (lGet x.2 (iNat x0) []) (iNat x1) (0,0,0,0)).1 9) (iGe (lGet (lGet x.2 (iNat x0) []) (iNat x1) (0,0,0,0)).2.2.2 (lLen x.2)))))))) (fun(x1:Int)=>(iAdd .i64 x1 1)) 0) (lLen (lGet x.2 (iNat x0) []))))))) (fun(x0:Int)=>(iAdd .i64 x0 1)) (fun(x0:Int)=>(((iLt x0 (lLen x.2))=true→((((0:Int)≤x0)∧(x0<(((List.length x.2):Int))))∧(((iNat x0)<(List.length x.2))∧(((iNe (lLen (lGet x.2 (iNat x0) [])) x.1)=true→True)∧((iNe (lLen (lGet x.2 (iNat x0) [])) x.1)=false→(LoopOk (fun(x1:Int)=>(bAnd (iLt x1 (lLen (lGet x.2 (iNat x0) []))) (bNot (bOr (bNot (v_impl_IsAction ((lGet (lGet x.2 (iNat x0) []) (iNat x1) (0,0,0,0)).1,(lGet (lGet x.2 (iNat x0) []) (iNat x1) (0,0,0,0)).2.1,(lGet (lGet x.2 (iNat x0) []) (iNat x1) (0,0,0,0)).2.2.1,(lGet (lGet x.2 (iNat x0) []) (iNat x1) (0,0,0,0)).2.2.2))) (bSel (iEq x0 0) (bOr (iEq (lGet (lGet x.2 (iNat x0) []) (iNat x1) (0,0,0,0)).1 1) (bAnd (iNe (lGet (lGet x.2 (iNat x0) []) (iNat x1) (0,0,0,0)).1 9) (iGe (lGet (lGet x.2 (iNat x0) []) (iNat x1) (0,0,0,0)).2.2.2 (lLen x.2)))) (bAnd (iNe (lGet (lGet x.2 (iNat x0) []) (iNat x1) (0,0,0,0)).1 9) (iGe (lGet (lGet x.2 (iNat x0) []) (iNat x1) (0,0,0,0)).2.2.2 (lLen x.2)))))))) (fun(x1:Int)=>(iAdd .i64 x1 1)) (fun(x1:Int)=>(((iLt x1 (lLen (lGet x.2 (iNat x0) [])))=true→((((0:Int)≤x1)∧(x1<(((List.length (lGet x.2 (iNat x0) [])):Int))))∧(((iNat x1)<(List.length (lGet x.2 (iNat x0) [])))∧(ok_impl_IsAction ((lGet (lGet x.2 (iNat x0) []) (iNat x1) (0,0,0,0)).1,(lGet (lGet x.2 (iNat x0) []) (iNat x1) (0,0,0,0)).2.1,(lGet (lGet x.2 (iNat x0) []) (iNat x1) (0,0,0,0)).2.2.1,(lGet (lGet x.2 (iNat x0) []) (iNat x1) (0,0,0,0)).2.2.2)))))∧((iLt x1 (lLen (lGet x.2 (iNat x0) [])))=false→True))) 0))))))∧((iLt x0 (lLen x.2))=false→True))) 0))):=(ou_impl_IsKeymap x).trans (by kernel_rfl)
theorem ve_laws_eqActionS (x):v_laws_eqActionS x=(bAnd (bNot (iNe (lLen x.1) (lLen x.2))) (bNot (iLt (loopV (fun(x0:Int)=>(bAnd (iLt x0 (lLen x.1)) (bNot (bNot (v_laws_eqAction (((lGet x.1 (iNat x0) (0,0,0,0)).1,(lGet x.1 (iNat x0) (0,0,0,0)).2.1,(lGet x.1 (iNat x0) (0,0,0,0)).2.2.1,(lGet x.1 (iNat x0) (0,0,0,0)).2.2.2),(lGet x.2 (iNat x0) (0,0,0,0)).1,(lGet x.2 (iNat x0) (0,0,0,0)).2.1,(lGet x.2 (iNat x0) (0,0,0,0)).2.2.1,(lGet x.2 (iNat x0) (0,0,0,0)).2.2.2)))))) (fun(x0:Int)=>(iAdd .i64 x0 1)) 0) (lLen x.1)))):=(vu_laws_eqActionS x).trans (by kernel_rfl)
theorem oe_laws_eqActionS (x):ok_laws_eqActionS x=(((iNe (lLen x.1) (lLen x.2))=true→True)∧((iNe (lLen x.1) (lLen x.2))=false→(LoopOk (fun(x0:Int)=>(bAnd (iLt x0 (lLen x.1)) (bNot (bNot (v_laws_eqAction (((lGet x.1 (iNat x0) (0,0,0,0)).1,(lGet x.1 (iNat x0) (0,0,0,0)).2.1,(lGet x.1 (iNat x0) (0,0,0,0)).2.2.1,(lGet x.1 (iNat x0) (0,0,0,0)).2.2.2),(lGet x.2 (iNat x0) (0,0,0,0)).1,(lGet x.2 (iNat x0) (0,0,0,0)).2.1,(lGet x.2 (iNat x0) (0,0,0,0)).2.2.1,(lGet x.2 (iNat x0) (0,0,0,0)).2.2.2)))))) (fun(x0:Int)=>(iAdd .i64 x0 1)) (fun(x0:Int)=>(((iLt x0 (lLen x.1))=true→((((0:Int)≤x0)∧(x0<(((List.length x.1):Int))))∧(((iNat x0)<(List.length x.1))∧((((0:Int)≤x0)∧(x0<(((List.length x.2):Int))))∧(((iNat x0)<(List.length x.2))∧(ok_laws_eqAction (((lGet x.1 (iNat x0) (0,0,0,0)).1,(lGet x.1 (iNat x0) (0,0,0,0)).2.1,(lGet x.1 (iNat x0) (0,0,0,0)).2.2.1,(lGet x.1 (iNat x0) (0,0,0,0)).2.2.2),(lGet x.2 (iNat x0) (0,0,0,0)).1,(lGet x.2 (iNat x0) (0,0,0,0)).2.1,(lGet x.2 (iNat x0) (0,0,0,0)).2.2.1,(lGet x.2 (iNat x0) (0,0,0,0)).2.2.2)))))))∧((iLt x0 (lLen x.1))=false→True))) 0))):=(ou_laws_eqActionS x).trans (by kernel_rfl)
theorem ve_laws_eqActionSS (x):v_laws_eqActionSS x=(bAnd (bNot (iNe (lLen x.1) (lLen x.2))) (bNot (iLt (loopV (fun(x0:Int)=>(bAnd (iLt x0 (lLen x.1)) (bNot (bNot (v_laws_eqActionS ((lGet x.1 (iNat x0) []),(lGet x.2 (iNat x0) []))))))) (fun(x0:Int)=>(iAdd .i64 x0 1)) 0) (lLen x.1)))):=(vu_laws_eqActionSS x).trans (by kernel_rfl)
theorem oe_laws_eqActionSS (x):ok_laws_eqActionSS x=(((iNe (lLen x.1) (lLen x.2))=true→True)∧((iNe (lLen x.1) (lLen x.2))=false→(LoopOk (fun(x0:Int)=>(bAnd (iLt x0 (lLen x.1)) (bNot (bNot (v_laws_eqActionS ((lGet x.1 (iNat x0) []),(lGet x.2 (iNat x0) []))))))) (fun(x0:Int)=>(iAdd .i64 x0 1)) (fun(x0:Int)=>(((iLt x0 (lLen x.1))=true→((((0:Int)≤x0)∧(x0<(((List.length x.1):Int))))∧(((iNat x0)<(List.length x.1))∧((((0:Int)≤x0)∧(x0<(((List.length x.2):Int))))∧(((iNat x0)<(List.length x.2))∧(ok_laws_eqActionS ((lGet x.1 (iNat x0) []),(lGet x.2 (iNat x0) []))))))))∧((iLt x0 (lLen x.1))=false→True))) 0))):=(ou_laws_eqActionSS x).trans (by kernel_rfl)
theorem ve_laws_eqKeymap (x):v_laws_eqKeymap x=(bAnd (bNot (iNe x.1.1 x.2.1)) (bNot (bNot (v_laws_eqActionSS (x.1.2,x.2.2))))):=(vu_laws_eqKeymap x).trans (by kernel_rfl)
theorem oe_laws_eqKeymap (x):ok_laws_eqKeymap x=(((iNe x.1.1 x.2.1)=true→True)∧((iNe x.1.1 x.2.1)=false→(ok_laws_eqActionSS (x.1.2,x.2.2)))):=(ou_laws_eqKeymap x).trans (by kernel_rfl)
end
def sm_ActionS(x:List (Int×Int×Int×Int)):Prop:=x.length≤1048576∧∀ a∈x,sm_Action a
def wl_ActionS(x:List (Int×Int×Int×Int)):Prop:=x.length≤9223372036854775807∧∀ a∈x,wl_Action a
theorem sz_ActionS(x:List (Int×Int×Int×Int))(hw:wl_ActionS x)(l:Int)(h0:0≤l)(h1:l≤1048576):ok_laws_szActionS (x,l)∧(v_laws_szActionS (x,l)<0∨(0≤v_laws_szActionS (x,l)∧v_laws_szActionS (x,l)≤l∧sm_ActionS x)):=by
 rw[oe_laws_szActionS,ve_laws_szActionS]
 have hl:x.length≤9223372036854775807:=hw.1
 have hs:iSub .i64 l (lLen x)=l-x.length:=by rw[lLen_eq];exact iSub_i64 (by unfold In64;omega)
 refine⟨trivial,?_⟩
 simp only[hs,iLt_eq,bSel_eq,decide_eq_true_eq]
 split
 · left;omega
 · right;exact⟨by omega,by omega,⟨by omega,fun a _=>by simp[sm_Action]⟩⟩
def sm_ActionSS(x:List (List (Int×Int×Int×Int))):Prop:=x.length≤1048576∧∀ a∈x,sm_ActionS a
def wl_ActionSS(x:List (List (Int×Int×Int×Int))):Prop:=x.length≤9223372036854775807∧∀ a∈x,wl_ActionS a
theorem sz_ActionSS(x:List (List (Int×Int×Int×Int)))(hw:wl_ActionSS x)(l:Int)(h0:0≤l)(h1:l≤1048576):ok_laws_szActionSS (x,l)∧(v_laws_szActionSS (x,l)<0∨(0≤v_laws_szActionSS (x,l)∧v_laws_szActionSS (x,l)≤l∧sm_ActionSS x)):=by
 rw[oe_laws_szActionSS,ve_laws_szActionSS]
 obtain⟨hl,hw2⟩:=hw
 have hs:iSub .i64 l (lLen x)=l-x.length:=by rw[lLen_eq];exact iSub_i64 (by unfold In64;omega)
 simp only[hs]
 by_cases hneg:l-(x.length:Int)<0
 · have hb:iLt (l-(x.length:Int)) 0=true:=by rw[iLt_eq];simpa using hneg
   rw[hb]
   exact⟨⟨fun _=>trivial,fun h=>(by cases h)⟩,by rw[bSel_t];left;omega⟩
 · have hb:iLt (l-(x.length:Int)) 0=false:=by rw[iLt_eq];simpa using hneg
   rw[hb]
   have hg:∀ i:Nat,i<x.length→∀ m:Int,0≤m→m≤1048576→ok_laws_szActionS (x.getD i [],m)∧(v_laws_szActionS (x.getD i [],m)<0∨(0≤v_laws_szActionS (x.getD i [],m)∧v_laws_szActionS (x.getD i [],m)≤m∧sm_ActionS (x.getD i []))):=fun i hi m g0 g1=>sz_ActionS _ (hw2 _ (getD_mem x i [] hi)) m g0 g1
   refine⟨⟨fun h=>(by cases h),fun _=>sz_ok x [] sm_ActionS (fun a m=>v_laws_szActionS (a,m)) (l-(x.length:Int)) (by omega) (by omega) (by omega) (fun i hi m g0 g1=>(hg i hi m g0 g1).2) (fun m i hi=>by simp only[bAnd_eq,iLt_eq,lLen_eq,iNat_eq,lGet_eq,bNot_eq,Int.toNat_natCast,Int.ofNat_lt]) (fun m i hi=>by simp only[iNat_eq,lGet_eq,Int.toNat_natCast]) (fun m i g0 g1 hi=>?_)⟩,?_⟩
   · simp only[iLt_eq,lLen_eq,iNat_eq,lGet_eq,decide_eq_true_eq,Int.toNat_natCast]
     exact⟨fun hh=>⟨by omega,by omega,(hg i (by omega) m g0 g1).1⟩,fun _=>trivial⟩
   · rw[bSel_f]
     have hv:=sz_v (c:=fun st:Int×Int=>bAnd (iLt st.2 (lLen x)) (bNot (iLt (v_laws_szActionS ((lGet x (iNat st.2) []),st.1)) 0))) (f:=fun st=>(v_laws_szActionS ((lGet x (iNat st.2) []),st.1),iAdd .i64 st.2 1)) x [] sm_ActionS (fun a m=>v_laws_szActionS (a,m)) (l-(x.length:Int)) (by omega) (by omega) (by omega) (fun i hi m g0 g1=>(hg i hi m g0 g1).2) (fun m i hi=>by simp only[bAnd_eq,iLt_eq,lLen_eq,iNat_eq,lGet_eq,bNot_eq,Int.toNat_natCast,Int.ofNat_lt]) (fun m i hi=>by simp only[iNat_eq,lGet_eq,Int.toNat_natCast])
     rcases sz_fin (l:=l) (by omega) hv with h|⟨h2,h3,h4⟩
     · exact .inl h
     · exact .inr ⟨h2,h3,(by omega),h4⟩
def sm_Keymap(x:Int×(List (List (Int×Int×Int×Int)))):Prop:=sm_ActionSS x.2∧True
def wl_Keymap(x:Int×(List (List (Int×Int×Int×Int)))):Prop:=wl_ActionSS x.2∧True
theorem sz_Keymap(x:Int×(List (List (Int×Int×Int×Int))))(hw:wl_Keymap x)(l:Int)(h0:0≤l)(h1:l≤1048576):ok_laws_szKeymap (x,l)∧(v_laws_szKeymap (x,l)<0∨(0≤v_laws_szKeymap (x,l)∧v_laws_szKeymap (x,l)≤l∧sm_Keymap x)):=by
 rw[oe_laws_szKeymap,ve_laws_szKeymap]
 have hx:=hw
 unfold wl_Keymap at hw
 obtain⟨k0,g0⟩:=sz_ActionSS x.2 hw.1 l (by omega) (by omega)
 generalize hz0:v_laws_szActionSS (x.2,l)=z0 at g0 ⊢
 rcases g0 with g0|⟨g0,g0',g0''⟩
 · have hb:iLt z0 0=true:=by rw[iLt_eq];simpa using g0
   refine⟨?_,?_⟩
   · simp[k0,hb]
   · simp only[hb,bSel_t];left;omega
 have hb0:iLt z0 0=false:=by rw[iLt_eq];simpa using g0
 simp only[hb0,bSel_f]
 exact⟨by simp[k0],.inr ⟨by omega,by omega,g0'',trivial⟩⟩
theorem to_ActionS(x:List (Int×Int×Int×Int))(h:sm_ActionS x):ok_laws_toActionS x∧v_laws_toActionS x=x:=by
 rw[oe_laws_toActionS,ve_laws_toActionS]
 obtain⟨h1,h2⟩:=h
 have hY:∀ i:Nat,i<x.length→ok_laws_toAction ((x.getD i (0,0,0,0)).1,(x.getD i (0,0,0,0)).2.1,(x.getD i (0,0,0,0)).2.2.1,(x.getD i (0,0,0,0)).2.2.2)∧v_laws_toAction ((x.getD i (0,0,0,0)).1,(x.getD i (0,0,0,0)).2.1,(x.getD i (0,0,0,0)).2.2.1,(x.getD i (0,0,0,0)).2.2.2)=x.getD i (0,0,0,0):=fun i hi=>to_Action _ (h2 _ (getD_mem x i (0,0,0,0) hi))
 refine⟨⟨⟨by rw[lLen_eq];omega,roomy_of (by rw[lLen_eq];omega) (by rw[lLen_eq];omega) (by omega)⟩,copyg_ok x (0,0,0,0) (0,0,0,0) h1 (fun _=>rfl) (fun l i hi=>by simp only[lSet_eq,lGet_eq,iNat_eq,Int.toNat_natCast];rw[(hY i hi).2]) (fun l i hl hi=>?_)⟩,copyg_v x (0,0,0,0) (0,0,0,0) h1 (fun _=>rfl) (fun l i hi=>by simp only[lSet_eq,lGet_eq,iNat_eq,Int.toNat_natCast];rw[(hY i hi).2])⟩
 simp only[iLt_eq,lLen_eq,iNat_eq,lGet_eq,decide_eq_true_eq,Int.toNat_natCast]
 exact⟨fun hh=>⟨by omega,by omega,(hY i (by omega)).1,by omega,by omega⟩,fun _=>trivial⟩
theorem to_ActionSS(x:List (List (Int×Int×Int×Int)))(h:sm_ActionSS x):ok_laws_toActionSS x∧v_laws_toActionSS x=x:=by
 rw[oe_laws_toActionSS,ve_laws_toActionSS]
 obtain⟨h1,h2⟩:=h
 have hY:∀ i:Nat,i<x.length→ok_laws_toActionS (x.getD i [])∧v_laws_toActionS (x.getD i [])=x.getD i []:=fun i hi=>to_ActionS _ (h2 _ (getD_mem x i [] hi))
 refine⟨⟨⟨by rw[lLen_eq];omega,roomy_of (by rw[lLen_eq];omega) (by rw[lLen_eq];omega) (by omega)⟩,copyg_ok x [] [] h1 (fun _=>rfl) (fun l i hi=>by simp only[lSet_eq,lGet_eq,iNat_eq,Int.toNat_natCast];rw[(hY i hi).2]) (fun l i hl hi=>?_)⟩,copyg_v x [] [] h1 (fun _=>rfl) (fun l i hi=>by simp only[lSet_eq,lGet_eq,iNat_eq,Int.toNat_natCast];rw[(hY i hi).2])⟩
 simp only[iLt_eq,lLen_eq,iNat_eq,lGet_eq,decide_eq_true_eq,Int.toNat_natCast]
 exact⟨fun hh=>⟨by omega,by omega,(hY i (by omega)).1,by omega,by omega⟩,fun _=>trivial⟩
theorem to_Keymap(x:Int×(List (List (Int×Int×Int×Int))))(h:sm_Keymap x):ok_laws_toKeymap x∧v_laws_toKeymap x=x:=by
 rw[oe_laws_toKeymap,ve_laws_toKeymap]
 have k0:=to_ActionSS x.2 (by unfold sm_Keymap at h;exact h.1)
 refine⟨k0.1,?_⟩
 simp only[k0.2]
theorem eq_ActionS(a b:List (Int×Int×Int×Int))(h:sm_ActionS a):ok_laws_eqActionS (a,b)∧(v_laws_eqActionS (a,b)=true↔a=b):=by
 rw[oe_laws_eqActionS,ve_laws_eqActionS]
 obtain⟨h1,h2⟩:=h
 have hY:∀ i:Nat,i<a.length→ok_laws_eqAction (((lGet a i (0,0,0,0)).1,(lGet a i (0,0,0,0)).2.1,(lGet a i (0,0,0,0)).2.2.1,(lGet a i (0,0,0,0)).2.2.2),((lGet b i (0,0,0,0)).1,(lGet b i (0,0,0,0)).2.1,(lGet b i (0,0,0,0)).2.2.1,(lGet b i (0,0,0,0)).2.2.2))∧(v_laws_eqAction (((lGet a i (0,0,0,0)).1,(lGet a i (0,0,0,0)).2.1,(lGet a i (0,0,0,0)).2.2.1,(lGet a i (0,0,0,0)).2.2.2),((lGet b i (0,0,0,0)).1,(lGet b i (0,0,0,0)).2.1,(lGet b i (0,0,0,0)).2.2.1,(lGet b i (0,0,0,0)).2.2.2))=true↔a.getD i (0,0,0,0)=b.getD i (0,0,0,0)):=fun i hi=>by
  have:=eq_Action (a.getD i (0,0,0,0)) (b.getD i (0,0,0,0)) (h2 _ (getD_mem a i (0,0,0,0) hi))
  rw[lGet_eq,lGet_eq];exact this
 by_cases hl:a.length=b.length
 · refine⟨⟨fun _=>trivial,fun _=>eq_ok a b (0,0,0,0) (fun i=>bNot (v_laws_eqAction (((lGet a i (0,0,0,0)).1,(lGet a i (0,0,0,0)).2.1,(lGet a i (0,0,0,0)).2.2.1,(lGet a i (0,0,0,0)).2.2.2),((lGet b i (0,0,0,0)).1,(lGet b i (0,0,0,0)).2.1,(lGet b i (0,0,0,0)).2.2.1,(lGet b i (0,0,0,0)).2.2.2)))) hl (fun i hi=>by simp only[bNot_eq,Bool.not_eq_false',(hY i hi).2]) (by omega) (fun i hi=>by simp only[bAnd_eq,iLt_eq,lLen_eq,iNat_eq,bNot_eq,Int.toNat_natCast,Int.ofNat_lt]) (fun i hi=>rfl) (fun i hi=>?_)⟩,?_⟩
   · simp only[iLt_eq,lLen_eq,iNat_eq,decide_eq_true_eq,Int.toNat_natCast]
     exact⟨fun hh=>⟨by omega,by omega,by omega,by omega,(hY i (by omega)).1⟩,fun _=>trivial⟩
   · have hv:=eq_v (c:=fun i:Int=>bAnd (iLt i (lLen a)) (bNot ((fun i=>bNot (v_laws_eqAction (((lGet a i (0,0,0,0)).1,(lGet a i (0,0,0,0)).2.1,(lGet a i (0,0,0,0)).2.2.1,(lGet a i (0,0,0,0)).2.2.2),((lGet b i (0,0,0,0)).1,(lGet b i (0,0,0,0)).2.1,(lGet b i (0,0,0,0)).2.2.1,(lGet b i (0,0,0,0)).2.2.2)))) i.toNat))) (f:=fun i=>iAdd .i64 i 1) a b (0,0,0,0) (fun i=>bNot (v_laws_eqAction (((lGet a i (0,0,0,0)).1,(lGet a i (0,0,0,0)).2.1,(lGet a i (0,0,0,0)).2.2.1,(lGet a i (0,0,0,0)).2.2.2),((lGet b i (0,0,0,0)).1,(lGet b i (0,0,0,0)).2.1,(lGet b i (0,0,0,0)).2.2.1,(lGet b i (0,0,0,0)).2.2.2)))) hl (fun i hi=>by simp only[bNot_eq,Bool.not_eq_false',(hY i hi).2]) (by omega) (fun i hi=>by simp only[bAnd_eq,iLt_eq,lLen_eq,bNot_eq,Int.toNat_natCast,Int.ofNat_lt]) (fun i hi=>rfl)
     have e1:bNot (iNe (lLen a) (lLen b))=true:=by rw[bNot_eq,iNe_eq,lLen_eq,lLen_eq,hl];simp
     rw[e1,bAnd_eq true,Bool.true_and,bNot_eq (iLt _ (lLen a)),iLt_eq _ (lLen a)]
     simp only[← iNat_eq,lLen_eq] at hv ⊢
     simp only[Bool.not_eq_true',decide_eq_false_iff_not]
     rw[hv];simp
 · have e1:bNot (iNe (lLen a) (lLen b))=false:=by rw[bNot_eq,iNe_eq,lLen_eq,lLen_eq];simp;omega
   refine⟨⟨fun _=>trivial,fun h=>?_⟩,?_⟩
   · rw[bNot_eq] at e1;rw[h] at e1;cases e1
   · rw[e1,bAnd_eq,Bool.false_and];constructor
     · intro h;cases h
     · intro e;subst e;exact absurd rfl hl
theorem eq_ActionSS(a b:List (List (Int×Int×Int×Int)))(h:sm_ActionSS a):ok_laws_eqActionSS (a,b)∧(v_laws_eqActionSS (a,b)=true↔a=b):=by
 rw[oe_laws_eqActionSS,ve_laws_eqActionSS]
 obtain⟨h1,h2⟩:=h
 have hY:∀ i:Nat,i<a.length→ok_laws_eqActionS ((lGet a i []),(lGet b i []))∧(v_laws_eqActionS ((lGet a i []),(lGet b i []))=true↔a.getD i []=b.getD i []):=fun i hi=>by
  have:=eq_ActionS (a.getD i []) (b.getD i []) (h2 _ (getD_mem a i [] hi))
  rw[lGet_eq,lGet_eq];exact this
 by_cases hl:a.length=b.length
 · refine⟨⟨fun _=>trivial,fun _=>eq_ok a b [] (fun i=>bNot (v_laws_eqActionS ((lGet a i []),(lGet b i [])))) hl (fun i hi=>by simp only[bNot_eq,Bool.not_eq_false',(hY i hi).2]) (by omega) (fun i hi=>by simp only[bAnd_eq,iLt_eq,lLen_eq,iNat_eq,bNot_eq,Int.toNat_natCast,Int.ofNat_lt]) (fun i hi=>rfl) (fun i hi=>?_)⟩,?_⟩
   · simp only[iLt_eq,lLen_eq,iNat_eq,decide_eq_true_eq,Int.toNat_natCast]
     exact⟨fun hh=>⟨by omega,by omega,by omega,by omega,(hY i (by omega)).1⟩,fun _=>trivial⟩
   · have hv:=eq_v (c:=fun i:Int=>bAnd (iLt i (lLen a)) (bNot ((fun i=>bNot (v_laws_eqActionS ((lGet a i []),(lGet b i [])))) i.toNat))) (f:=fun i=>iAdd .i64 i 1) a b [] (fun i=>bNot (v_laws_eqActionS ((lGet a i []),(lGet b i [])))) hl (fun i hi=>by simp only[bNot_eq,Bool.not_eq_false',(hY i hi).2]) (by omega) (fun i hi=>by simp only[bAnd_eq,iLt_eq,lLen_eq,bNot_eq,Int.toNat_natCast,Int.ofNat_lt]) (fun i hi=>rfl)
     have e1:bNot (iNe (lLen a) (lLen b))=true:=by rw[bNot_eq,iNe_eq,lLen_eq,lLen_eq,hl];simp
     rw[e1,bAnd_eq true,Bool.true_and,bNot_eq (iLt _ (lLen a)),iLt_eq _ (lLen a)]
     simp only[← iNat_eq,lLen_eq] at hv ⊢
     simp only[Bool.not_eq_true',decide_eq_false_iff_not]
     rw[hv];simp
 · have e1:bNot (iNe (lLen a) (lLen b))=false:=by rw[bNot_eq,iNe_eq,lLen_eq,lLen_eq];simp;omega
   refine⟨⟨fun _=>trivial,fun h=>?_⟩,?_⟩
   · rw[bNot_eq] at e1;rw[h] at e1;cases e1
   · rw[e1,bAnd_eq,Bool.false_and];constructor
     · intro h;cases h
     · intro e;subst e;exact absurd rfl hl
theorem eq_Keymap(a b:Int×(List (List (Int×Int×Int×Int))))(h:sm_Keymap a):ok_laws_eqKeymap (a,b)∧(v_laws_eqKeymap (a,b)=true↔a=b):=by
 obtain⟨a0,a1⟩:=a
 obtain⟨b0,b1⟩:=b
 have k0:=eq_ActionSS a1 b1 (by unfold sm_Keymap at h;exact h.1)
 rw[oe_laws_eqKeymap,ve_laws_eqKeymap]
 refine⟨by simp[k0.1,k0.2],?_⟩
 simp only[k0.1,k0.2,bNot_eq,bAnd_eq,bIff_eq,iNe_eq,Bool.and_eq_true,Bool.not_not,decide_eq_true_eq,Prod.mk.injEq,beq_iff_eq]
 try (constructor<;>intro h<;>simp_all)
theorem isKeymap_eq(x:Int×List (List (Int×Int×Int×Int))):v_spec_IsKeymap x=v_impl_IsKeymap x:=by
 rw[ve_spec_IsKeymap,ve_impl_IsKeymap,l1In_eq,l1In_eq]
 have inner:∀ (i a n:Int) (A B:Bool),bNot (bOr A (bSel (iEq a 1) (bOr (iEq i 0) B) B))=bNot (bOr A (bSel (iEq i 0) (bOr (iEq a 1) B) B)):=by
  intro i a n A B
  simp only[bNot_eq,bOr_eq,bSel_eq,iEq_eq]
  by_cases h1:a=1<;>by_cases h2:i=0<;>simp[h1,h2]
 simp only[isAction_eq,fun i a A B=>inner i a 0 A B]
 generalize bNot (iLt (loopV _ _ _) (lLen x.2))=L
 rw[Bool.eq_iff_iff]
 simp only[bAnd_eq,bNot_eq,bOr_eq,iLt_eq,iGt_eq,lLen_eq,Bool.and_eq_true,Bool.or_eq_true,Bool.not_eq_true',Bool.not_eq_false',Bool.and_eq_false_iff,Bool.or_eq_false_iff,decide_eq_true_eq,decide_eq_false_iff_not,Bool.not_eq_true,Bool.not_eq_false,beq_iff_eq,beq_eq_false_iff_ne]
 cases L<;>simp<;>omega
theorem ok_IsKeymap_t(x:Int×List (List (Int×Int×Int×Int)))(h:sm_Keymap x):ok_spec_IsKeymap x∧ok_impl_IsKeymap x:=by
 obtain⟨k,x⟩:=x
 have h:sm_ActionSS x:=h.1
 rw[oe_spec_IsKeymap,oe_impl_IsKeymap]
 have inl:∀ i:Int,0≤i→i<x.length→(lGet x (iNat i) []).length≤1048576:=fun i h0 hi=>by
  rw[lGet_eq,iNat_eq];exact(h.2 _ (getD_mem x i.toNat [] (by omega))).1
 refine⟨⟨?_,fun _=>trivial,fun _=>⟨ok_l1In _,fun _=>ok_l1In _,fun _=>trivial⟩⟩,fun _=>trivial,fun _=>?_⟩
 all_goals
  refine cnt_ok (fun st=>st) x.length (by have:=h.1;omega) (fun st _ _ hc=>?_) (fun st=>rfl) (fun st h0 h1=>?_) (by simp) (by simp)
  · rw[bAnd_eq,iLt_eq st,lLen_eq,Bool.and_eq_true,decide_eq_true_eq] at hc
    exact hc.1
  · refine⟨fun hlt=>?_,fun _=>trivial⟩
    rw[iLt_eq,lLen_eq,decide_eq_true_eq] at hlt
    have hlt:st<(x.length:Int):=hlt
    have h3:iNat st<x.length:=by rw[iNat_eq];omega
    have hl:=inl st h0 hlt
    refine⟨⟨h0,hlt⟩,h3,fun _=>trivial,fun _=>?_⟩
    refine cnt_ok (fun st=>st) (lGet x (iNat st) []).length (by omega) (fun j _ _ hc=>?_) (fun st=>rfl) (fun j j0 j1=>?_) (by simp) (by simp)
    · rw[bAnd_eq,iLt_eq j,lLen_eq,Bool.and_eq_true,decide_eq_true_eq] at hc
      exact hc.1
    · have fin:iLt j (lLen (lGet x (iNat st) []))=true→j<((lGet x (iNat st) []).length:Int)∧iNat j<(lGet x (iNat st) []).length:=fun hj=>by
       rw[iLt_eq,lLen_eq,decide_eq_true_eq] at hj
       exact⟨hj,by rw[iNat_eq];omega⟩
      first
       |exact⟨⟨h0,hlt⟩,h3,fun hj=>⟨⟨h0,hlt⟩,h3,⟨j0,(fin hj).1⟩,(fin hj).2,ok_spec_IsAction_t _⟩,fun _=>trivial⟩
       |exact⟨fun hj=>⟨⟨j0,(fin hj).1⟩,(fin hj).2,ok_impl_IsAction_t _⟩,fun _=>trivial⟩
theorem wl_Keymap_of{k:Int}{x:List (List (Int×Int×Int×Int))}(h:CT.wf (.sl (.one (.sl rI4))) x):wl_Keymap (k,x):=by
 exact⟨⟨h.1,fun l hl=>⟨(h.2 l hl).1,fun a _=>by simp[wl_Action]⟩⟩,trivial⟩
structure MapOk (k:Int) (x:List (List (Int×Int×Int×Int))):Prop where
 k1:1≤k
 k2:k≤32
 l1:1≤x.length
 l2:x.length≤4
 row:∀ i:Nat,i<x.length→((x.getD i []).length:Int)=k
 act:∀ i j:Nat,i<x.length→j<(x.getD i []).length→v_impl_IsAction ((x.getD i []).getD j (0,0,0,0))=true∧(i=0→((x.getD i []).getD j (0,0,0,0)).1≠1)∧(((x.getD i []).getD j (0,0,0,0)).1≠9→((x.getD i []).getD j (0,0,0,0)).2.2.2<x.length)
theorem isKeymap_ok{k:Int}{x:List (List (Int×Int×Int×Int))}(hs:sm_Keymap (k,x))(h:v_impl_IsKeymap (k,x)=true):MapOk k x:=by
 rw[ve_impl_IsKeymap,bAnd_eq,Bool.and_eq_true] at h
 obtain⟨h1,h2⟩:=h
 simp only[bNot_eq,bOr_eq,iLt_eq,iGt_eq,lLen_eq,Bool.and_eq_true,Bool.or_eq_true,Bool.not_eq_true',Bool.not_eq_false',Bool.and_eq_false_iff,Bool.or_eq_false_iff,decide_eq_true_eq,decide_eq_false_iff_not,Bool.not_eq_true,Bool.not_eq_false,beq_iff_eq,beq_eq_false_iff_ne] at h1
 rw[bNot_eq,Bool.not_eq_true',iLt_eq _ (lLen _),lLen_eq,decide_eq_false_iff_not] at h2
 have hs:sm_ActionSS x:=hs.1
 have all:=scan_all h2 (by show (x.length:Int)≤_;omega) (fun i hi hc=>by
  rw[bAnd_eq,iLt_eq (i:Int),lLen_eq,Bool.and_eq_true,decide_eq_true_eq] at hc
  have:=hc.1;show i<x.length;simp only at this;omega) (fun i hi=>rfl)
 have row:∀ i:Nat,i<x.length→((x.getD i []).length:Int)=k∧∀ j:Nat,j<(x.getD i []).length→v_impl_IsAction ((x.getD i []).getD j (0,0,0,0))=true∧(i=0→((x.getD i []).getD j (0,0,0,0)).1≠1)∧(((x.getD i []).getD j (0,0,0,0)).1≠9→((x.getD i []).getD j (0,0,0,0)).2.2.2<x.length):=by
  intro i hi
  have hc:=all i hi
  rw[bAnd_eq,bAnd_eq,Bool.and_eq_true,Bool.and_eq_true] at hc
  obtain⟨_,c1,c2⟩:=hc
  simp only[bNot_eq,iNe_eq,lLen_eq,lGet_eq,iNat_eq,Int.toNat_natCast,Bool.not_not,decide_eq_true_eq] at c1
  rw[bNot_eq,Bool.not_eq_true',iLt_eq _ (lLen _),lLen_eq,decide_eq_false_iff_not] at c2
  have hli:=(hs.2 _ (getD_mem x i [] hi)).1
  have hin:(lGet x (iNat (i:Int)) [])=x.getD i []:=by rw[lGet_eq,iNat_eq,Int.toNat_natCast]
  have all2:=scan_all c2 (by show ((lGet x (iNat (i:Int)) []).length:Int)≤_;rw[hin];omega) (fun j hj hc=>by
   simp only[bAnd_eq,iLt_eq,lLen_eq,Bool.and_eq_true,decide_eq_true_eq] at hc
   have:=hc.1;show j<(lGet x (iNat (i:Int)) []).length;omega) (fun j hj=>rfl)
  refine⟨c1,fun j hj=>?_⟩
  have hc:=all2 j (by show j<(lGet x (iNat (i:Int)) []).length;rw[hin];exact hj)
  simp only[hin] at hc
  simp only[bAnd_eq,bNot_eq,bOr_eq,bSel_eq,iEq_eq,iNe_eq,iGe_eq,lLen_eq,lGet_eq,iNat_eq,Int.toNat_natCast,Bool.and_eq_true,Bool.not_eq_true',Bool.or_eq_false_iff,Bool.not_eq_false'] at hc
  obtain⟨_,d1,d2⟩:=hc
  refine⟨d1,fun hz=>?_,fun h9=>?_⟩
  · subst hz
    simp only[Int.ofNat_zero,Int.natCast_zero,decide_true,if_true,Bool.or_eq_false_iff,decide_eq_false_iff_not] at d2
    exact d2.1
  · split at d2
    · simp only[Bool.or_eq_false_iff,Bool.and_eq_false_iff,decide_eq_false_iff_not,Bool.not_eq_false',decide_eq_true_eq] at d2
      rcases d2.2 with d2|d2
      · exact absurd d2 h9
      · omega
    · simp only[Bool.and_eq_false_iff,decide_eq_false_iff_not,Bool.not_eq_false',decide_eq_true_eq] at d2
      rcases d2 with d2|d2
      · exact absurd d2 h9
      · omega
 exact⟨by omega,by omega,by omega,by omega,fun i hi=>(row i hi).1,fun i j hi hj=>(row i hi).2 j hj⟩
theorem iAdd_def(a:Int):iAdd .i64 a 1=IntKind.i64.wrap (a+1):=by simp only[iAdd_u]
theorem iConv_def(k:IntKind)(a:Int):iConv k a=k.wrap a:=by simp only[iConv_u]
theorem iRem_def(a b:Int):iRem a b=a.tmod b:=by simp only[iRem_u]
section
variable {α:Type} {f:α→Int→α×Int} {l:List α} {c:Nat} {m:Int}
def UpF(f:α→Int→α×Int)(l:List α)(c:Nat):Prop:=∀ a∈l,∀ m:Int,0≤m→m+c≤2305843009213693952→m≤(f a m).2∧(f a m).2≤m+c
theorem mkPre_up(hf:UpF f l c)(h0:0≤m)(h1:m+(l.length*c:Nat)≤2305843009213693952)(d:α):∀ i,i≤l.length→m≤(mkPre f l m i).2∧(mkPre f l m i).2≤m+(i*c:Nat):=by
 intro i
 induction i with
 |zero=>intro _;rw[mkPre_zero];simp
 | succ i ih=>
   intro hi
   obtain⟨h2,h3⟩:=ih (by omega)
   rw[mkPre_succ f l m (by omega) d]
   have hm:l.getD i d∈l:=getD_mem l i d (by omega)
   have hmul:(i+1)*c≤l.length*c:=Nat.mul_le_mul_right _ (by omega)
   rw[Nat.add_mul,Nat.one_mul] at hmul ⊢
   obtain⟨h4,h5⟩:=hf _ hm (mkPre f l m i).2 (by omega) (by omega)
   exact⟨by omega,by simp only;omega⟩
theorem mkL_up(hf:UpF f l c)(h0:0≤m)(h1:m+(l.length*c:Nat)≤2305843009213693952):m≤(mkL f l m).2∧(mkL f l m).2≤m+(l.length*c:Nat):=by
 cases l with
 |nil=>simp[mkL]
 | cons a r=>
   have:=mkPre_up hf h0 h1 a (a::r).length (Nat.le_refl _)
   rw[mkPre_all] at this
   exact this
theorem mkL_getD(f:α→Int→α×Int)(l:List α)(m:Int){i:Nat}(hi:i<l.length)(d:α):(mkL f l m).1.getD i d=(f (l.getD i d) (mkPre f l m i).2).1:=by
 have h1:=mkPre_succ f l m hi d
 have h2:(mkPre f l m (i+1)).1.getD i d=(f (l.getD i d) (mkPre f l m i).2).1:=by
  rw[h1]
  simp only
  rw[List.getD_eq_getElem?_getD,List.getElem?_set_self (by rw[mkPre_len];exact hi)];rfl
 rw[← h2,← mkPre_all f l m]
 have:∀ k,i<k→k≤l.length→(mkPre f l m k).1.getD i d=(mkPre f l m (i+1)).1.getD i d:=by
  intro k
  induction k with
  |zero=>intro h;omega
  | succ k ih=>
    intro h h'
    by_cases hk:k=i
    · rw[hk]
    · rw[← ih (by omega) (by omega),mkPre_succ f l m (by omega) d]
      simp only[List.getD_eq_getElem?_getD]
      rw[List.getElem?_set_ne hk]
 exact this _ hi (Nat.le_refl _)
theorem held_loop {C:Int×Int→Bool} {F:Int×Int→Int×Int} {p:Int×Int→Prop} (hl:l.length≤1048576) (d:α)
 (hs:∀ i,i<l.length→p ((mkPre f l m i).2,(i:Int))∧C ((mkPre f l m i).2,(i:Int))=true∧F ((mkPre f l m i).2,(i:Int))=((f (l.getD i d) (mkPre f l m i).2).2,iAdd .i64 (i:Int) 1))
 (he:p ((mkL f l m).2,(l.length:Int))∧C ((mkL f l m).2,(l.length:Int))=false):LoopOk C F p (m,0)∧loopV C F (m,0)=((mkL f l m).2,(l.length:Int)):=by
 have:=loop_for (p:=p) (c:=C) (f:=F) l.length (fun i=>((mkPre f l m i).2,(i:Int))) (x0:=(m,0)) rfl (fun k hk=>by
  obtain⟨h1,h2,h3⟩:=hs k hk
  refine⟨h1,h2,?_⟩
  rw[h3,mkPre_succ f l m hk d,iAdd_i64 (by unfold In64;omega)]
  simp) (by rw[mkPre_all];exact he)
 simp only[mkPre_all] at this
 exact this
end
theorem mul_step{i n c:Nat}(h:i<n):i*c+c≤n*c:=by
 have:=Nat.mul_le_mul_right c (show i+1≤n from h)
 rw[Nat.add_mul,Nat.one_mul] at this
 exact this
theorem mul_lim{n m c B:Nat}(h:n≤m)(e:m*c=B):n*c≤B:=e▸Nat.mul_le_mul_right c h
theorem wrapP{m:Int}(h0:0≤m)(h1:m≤2305843009213693960):IntKind.i64.wrap (m+1)=m+1:=wrapI (by omega)
section
set_option maxRecDepth 8000
noncomputable def c_laws_markActionS:ACode:=
 (.seq (.region [⟨0,some 4,.mv (.c (.int .i64 0)),none,[]⟩])
 (.seq (.seq (.region [⟨0,some 5,.mv (.c (.int .i64 0)),none,[]⟩])
 (.block 0 (.loop [0,1,5] (.seq (.seq (.region [⟨0,some 6,.mv (.t 5),none,[]⟩,
 ⟨1,some 7,.mv (.t 0),none,[]⟩,
 ⟨2,some 8,.len (.t 7),none,[]⟩,
 ⟨3,some 9,.bin .lss (.t 6) (.t 8),none,[]⟩])
  (.cond (.t 9) .skip (.exit 0)))
  (.seq (.block 1 (.seq (.region [⟨0,some 12,.mv (.t 0),none,[]⟩,
 ⟨1,some 13,.mv (.t 5),none,[]⟩,
 ⟨2,some 14,.mv (.t 1),none,[]⟩,
 ⟨3,some 15,.indexA 4 (.t 12) (.t 13),none,[]⟩,
 ⟨4,some 16,.fieldA 0 (.t 15),none,[]⟩,
 ⟨5,none,.storeH 1 (.t 16) (.t 14),none,[]⟩])
  (.seq (.region [⟨0,some 17,.mv (.t 1),none,[]⟩,
 ⟨1,some 18,.bin .add (.t 17) (.c (.int .i64 1)),none,[]⟩,
 ⟨2,some 1,.mv (.t 18),none,[]⟩])
  (.seq (.region [⟨0,some 19,.mv (.t 0),none,[]⟩,
 ⟨1,some 20,.mv (.t 5),none,[]⟩,
 ⟨2,some 21,.mv (.t 1),none,[]⟩,
 ⟨3,some 22,.indexA 4 (.t 19) (.t 20),none,[]⟩,
 ⟨4,some 23,.fieldA 1 (.t 22),none,[]⟩,
 ⟨5,none,.storeH 1 (.t 23) (.t 21),none,[]⟩])
  (.seq (.region [⟨0,some 24,.mv (.t 1),none,[]⟩,
 ⟨1,some 25,.bin .add (.t 24) (.c (.int .i64 1)),none,[]⟩,
 ⟨2,some 1,.mv (.t 25),none,[]⟩])
  (.seq (.region [⟨0,some 26,.mv (.t 0),none,[]⟩,
 ⟨1,some 27,.mv (.t 5),none,[]⟩,
 ⟨2,some 28,.mv (.t 1),none,[]⟩,
 ⟨3,some 29,.indexA 4 (.t 26) (.t 27),none,[]⟩,
 ⟨4,some 30,.fieldA 2 (.t 29),none,[]⟩,
 ⟨5,none,.storeH 1 (.t 30) (.t 28),none,[]⟩])
  (.seq (.region [⟨0,some 31,.mv (.t 1),none,[]⟩,
 ⟨1,some 32,.bin .add (.t 31) (.c (.int .i64 1)),none,[]⟩,
 ⟨2,some 1,.mv (.t 32),none,[]⟩])
  (.seq (.region [⟨0,some 33,.mv (.t 0),none,[]⟩,
 ⟨1,some 34,.mv (.t 5),none,[]⟩,
 ⟨2,some 35,.mv (.t 1),none,[]⟩,
 ⟨3,some 36,.indexA 4 (.t 33) (.t 34),none,[]⟩,
 ⟨4,some 37,.fieldA 3 (.t 36),none,[]⟩,
 ⟨5,none,.storeH 1 (.t 37) (.t 35),none,[]⟩])
  (.region [⟨0,some 38,.mv (.t 1),none,[]⟩,
 ⟨1,some 39,.bin .add (.t 38) (.c (.int .i64 1)),none,[]⟩,
 ⟨2,some 1,.mv (.t 39),none,[]⟩])))))))))
  (.region [⟨0,some 10,.mv (.t 5),none,[]⟩,
 ⟨1,some 11,.bin .add (.t 10) (.c (.int .i64 1)),none,[]⟩,
 ⟨2,some 5,.mv (.t 11),none,[]⟩]))))))
  (.seq (.region [⟨0,some 40,.mv (.t 1),none,[]⟩,
 ⟨1,some 4,.mv (.t 40),none,[]⟩])
  .ret)))
noncomputable def f_laws_markActionS:AFun:=⟨2,41,0,false,[.tmp 4],c_laws_markActionS⟩
@[irreducible] noncomputable def s_laws_markActionS:CallSem:=funSem f_laws_markActionS
@[irreducible] noncomputable def mg_laws_markActionS(x:List (Int×Int×Int×Int))(m:Int):(List (Int×Int×Int×Int))×Int:=(shut fun(x:List (Int×Int×Int×Int)) (m:Int)=>mkL (RT.mkI rI4) x m).1 x m
@[irreducible] noncomputable def mok_laws_markActionS(x:List (Int×Int×Int×Int)):Prop:=(shut fun(x:List (Int×Int×Int×Int))=>CT.wl (.sl rI4) x).1 x
theorem mgu_laws_markActionS:mg_laws_markActionS=fun x m=>mkL (RT.mkI rI4) x m:=by unfold mg_laws_markActionS;exact(shut _).2
theorem mou_laws_markActionS:mok_laws_markActionS=fun x=>CT.wl (.sl rI4) x:=by unfold mok_laws_markActionS;exact(shut _).2
theorem sl_laws_markActionS:SlC s_laws_markActionS rI4:=by
 rintro h ω hd p l u m Q hok hinj hM hQ
 have hn:=hM.len
 have hlb:l.length≤9223372036854775807:=hok.1
 unfold s_laws_markActionS
 refine fun_intro rfl ?_
 unfold c_laws_markActionS
 repeat' (first|(simp only[go_sem,reduceIte,reduceCtorEq,Nat.reduceAdd,Nat.reduceBEq,Int.reduceLT,Int.reduceLE,Int.reduceGT,Int.reduceGE,Int.reduceBEq,Int.reduceBNe,Nat.reduceEqDiff,Nat.reduceLeDiff,Nat.reduceLT,hn])|(refine aops_part rfl (fun hb=>?_) (fun hb=>?_)<;>simp only[hb,go_sem,reduceIte,reduceCtorEq,Nat.reduceAdd,Nat.reduceBEq,Int.reduceLT,Int.reduceLE,Int.reduceGT,Int.reduceGE,Int.reduceBEq,Int.reduceBNe,Nat.reduceEqDiff,Nat.reduceLeDiff,Nat.reduceLT,hn])|(refine awp_part rfl (fun hb=>?_) (fun hb=>?_)<;>simp only[hb,go_sem,reduceIte,reduceCtorEq,Nat.reduceAdd,Nat.reduceBEq,Int.reduceLT,Int.reduceLE,Int.reduceGT,Int.reduceGE,Int.reduceBEq,Int.reduceBNe,Nat.reduceEqDiff,Nat.reduceLeDiff,Nat.reduceLT,hn])|(refine wop_pick_part rfl (fun hb=>?_) (fun hb=>?_)<;>simp only[hb,go_sem,reduceIte,reduceCtorEq,Nat.reduceAdd,Nat.reduceBEq,Int.reduceLT,Int.reduceLE,Int.reduceGT,Int.reduceGE,Int.reduceBEq,Int.reduceBNe,Nat.reduceEqDiff,Nat.reduceLeDiff,Nat.reduceLT,hn]))
 refine loop_up l.length (fun i st=>∃ h',st=⟨[u,.int .i64 (mkPre (RT.mkI rI4) l m i).2,.undef,.undef,.undef,.int .i64 (i:Int)]++reps 35,[],h'⟩∧Only (Under ω hd p) h h'∧MS h' ω hd p rI4 (mkPre (RT.mkI rI4) l m i).1 u) ?_ ?_
 · refine⟨h,?_,Only.refl _ _,hM⟩
   simp only[mkPre_zero,keep,Int.natCast_zero]
   rfl
 · rintro i st next hi ⟨h1,rfl,hO,hR⟩ hnx
   by_cases hlt:i<l.length
   · have hc:decide ((i:Int)<(l.length:Int))=true:=decide_eq_true (by omega)
     have hw:IntKind.i64.wrap ((i:Int)+1)=((i+1:Nat):Int):=by rw[wrapI (by omega)];omega
     obtain⟨b,hub⟩:=hR.slice (by rw[mkPre_len];omega)
     rw[mkPre_len] at hub
     subst hub
     cases hL:mkPre (RT.mkI rI4) l m i with
     |mk L k0=>
     rw[hL] at hR
     obtain⟨hLl,hs,hx0⟩:=mkPre_step hlt hL
     have hiL:i<L.length:=by omega
     have hwx:=wl_get hok hlt
     rw[← hx0] at hwx
     have R0:=MS.frame hR hiL
     clear hx0
     generalize hx0:List.getD L i (RT.dflt rI4)=x0 at R0 hs hwx
     clear hx0
     have hx:=idx_own (b:=b) (w:=4) hlt (k:=.i64)
     simp only
     obtain⟨h2,s0,o0,R1⟩:=MS.st R0 hiL (off:=0) (by decide) (v:=(.int .i64 k0)) rfl rfl (y:=((k0,x0.2.1,x0.2.2.1,x0.2.2.2):RT.D rI4)) rfl hinj []
     replace s0:x_storeH [] h1 1 (.ptr b (i*4)) (.int .i64 k0)=some (.undef,[],h2):=s0
     obtain⟨h3,s1,o1,R2⟩:=MS.st R1 hiL (off:=1) (by decide) (v:=(.int .i64 (IntKind.i64.wrap (k0+1)))) rfl rfl (y:=((k0,(IntKind.i64.wrap (k0+1)),x0.2.2.1,x0.2.2.2):RT.D rI4)) rfl hinj []
     replace s1:x_storeH [] h2 1 (.ptr b (i*4+1)) (.int .i64 (IntKind.i64.wrap (k0+1)))=some (.undef,[],h3):=s1
     obtain⟨h4,s2,o2,R3⟩:=MS.st R2 hiL (off:=2) (by decide) (v:=(.int .i64 (IntKind.i64.wrap (IntKind.i64.wrap (k0+1)+1)))) rfl rfl (y:=((k0,(IntKind.i64.wrap (k0+1)),(IntKind.i64.wrap (IntKind.i64.wrap (k0+1)+1)),x0.2.2.2):RT.D rI4)) rfl hinj []
     replace s2:x_storeH [] h3 1 (.ptr b (i*4+2)) (.int .i64 (IntKind.i64.wrap (IntKind.i64.wrap (k0+1)+1)))=some (.undef,[],h4):=s2
     obtain⟨h5,s3,o3,R4⟩:=MS.st R3 hiL (off:=3) (by decide) (v:=(.int .i64 (IntKind.i64.wrap (IntKind.i64.wrap (IntKind.i64.wrap (k0+1)+1)+1)))) rfl rfl (y:=((k0,(IntKind.i64.wrap (k0+1)),(IntKind.i64.wrap (IntKind.i64.wrap (k0+1)+1)),(IntKind.i64.wrap (IntKind.i64.wrap (IntKind.i64.wrap (k0+1)+1)+1))):RT.D rI4)) rfl hinj []
     replace s3:x_storeH [] h4 1 (.ptr b (i*4+3)) (.int .i64 (IntKind.i64.wrap (IntKind.i64.wrap (IntKind.i64.wrap (k0+1)+1)+1)))=some (.undef,[],h5):=s3
     repeat' (first|(simp only[go_sem,reduceIte,reduceCtorEq,Nat.reduceAdd,Nat.reduceBEq,Int.reduceLT,Int.reduceLE,Int.reduceGT,Int.reduceGE,Int.reduceBEq,Int.reduceBNe,Nat.reduceEqDiff,Nat.reduceLeDiff,Nat.reduceLT,hn,hc,hw,hx,s0,s1,s2,s3])|(refine aops_part rfl (fun hb=>?_) (fun hb=>?_)<;>simp only[hb,go_sem,reduceIte,reduceCtorEq,Nat.reduceAdd,Nat.reduceBEq,Int.reduceLT,Int.reduceLE,Int.reduceGT,Int.reduceGE,Int.reduceBEq,Int.reduceBNe,Nat.reduceEqDiff,Nat.reduceLeDiff,Nat.reduceLT,hn,hc,hw,hx,s0,s1,s2,s3])|(refine awp_part rfl (fun hb=>?_) (fun hb=>?_)<;>simp only[hb,go_sem,reduceIte,reduceCtorEq,Nat.reduceAdd,Nat.reduceBEq,Int.reduceLT,Int.reduceLE,Int.reduceGT,Int.reduceGE,Int.reduceBEq,Int.reduceBNe,Nat.reduceEqDiff,Nat.reduceLeDiff,Nat.reduceLT,hn,hc,hw,hx,s0,s1,s2,s3])|(refine wop_pick_part rfl (fun hb=>?_) (fun hb=>?_)<;>simp only[hb,go_sem,reduceIte,reduceCtorEq,Nat.reduceAdd,Nat.reduceBEq,Int.reduceLT,Int.reduceLE,Int.reduceGT,Int.reduceGE,Int.reduceBEq,Int.reduceBNe,Nat.reduceEqDiff,Nat.reduceLeDiff,Nat.reduceLT,hn,hc,hw,hx,s0,s1,s2,s3]))
     exact hnx _ hlt ⟨h5,by rw[hs];rfl,(Only.trans (Only.trans (Only.trans (Only.trans hO o0) o1) o2) o3),by rw[hs];exact R4⟩
   · have hc:decide ((i:Int)<(l.length:Int))=false:=decide_eq_false (by omega)
     have hi':i=l.length:=by omega
     subst hi'
     repeat' (first|(simp only[go_sem,reduceIte,reduceCtorEq,Nat.reduceAdd,Nat.reduceBEq,Int.reduceLT,Int.reduceLE,Int.reduceGT,Int.reduceGE,Int.reduceBEq,Int.reduceBNe,Nat.reduceEqDiff,Nat.reduceLeDiff,Nat.reduceLT,hn,hc])|(refine aops_part rfl (fun hb=>?_) (fun hb=>?_)<;>simp only[hb,go_sem,reduceIte,reduceCtorEq,Nat.reduceAdd,Nat.reduceBEq,Int.reduceLT,Int.reduceLE,Int.reduceGT,Int.reduceGE,Int.reduceBEq,Int.reduceBNe,Nat.reduceEqDiff,Nat.reduceLeDiff,Nat.reduceLT,hn,hc])|(refine awp_part rfl (fun hb=>?_) (fun hb=>?_)<;>simp only[hb,go_sem,reduceIte,reduceCtorEq,Nat.reduceAdd,Nat.reduceBEq,Int.reduceLT,Int.reduceLE,Int.reduceGT,Int.reduceGE,Int.reduceBEq,Int.reduceBNe,Nat.reduceEqDiff,Nat.reduceLeDiff,Nat.reduceLT,hn,hc])|(refine wop_pick_part rfl (fun hb=>?_) (fun hb=>?_)<;>simp only[hb,go_sem,reduceIte,reduceCtorEq,Nat.reduceAdd,Nat.reduceBEq,Int.reduceLT,Int.reduceLE,Int.reduceGT,Int.reduceGE,Int.reduceBEq,Int.reduceBNe,Nat.reduceEqDiff,Nat.reduceLeDiff,Nat.reduceLT,hn,hc]))
     have e:=mkPre_all (RT.mkI rI4) l m
     rw[e] at hR ⊢
     exact hQ h1 hO hR
noncomputable def c_laws_markActionSS:ACode:=
 (.seq (.region [⟨0,some 4,.mv (.c (.int .i64 0)),none,[]⟩])
 (.seq (.seq (.region [⟨0,some 5,.mv (.c (.int .i64 0)),none,[]⟩])
 (.block 0 (.loop [0,1,5] (.seq (.seq (.region [⟨0,some 6,.mv (.t 5),none,[]⟩,
 ⟨1,some 7,.mv (.t 0),none,[]⟩,
 ⟨2,some 8,.len (.t 7),none,[]⟩,
 ⟨3,some 9,.bin .lss (.t 6) (.t 8),none,[]⟩])
  (.cond (.t 9) .skip (.exit 0)))
  (.seq (.block 1 (.region [⟨0,some 12,.mv (.t 0),none,[]⟩,
 ⟨1,some 13,.mv (.t 5),none,[]⟩,
 ⟨2,some 14,.indexA 1 (.t 12) (.t 13),none,[]⟩,
 ⟨3,some 15,.loadH none (.t 14),none,[]⟩,
 ⟨4,some 16,.mv (.t 1),none,[]⟩,
 ⟨5,some 17,.call s_laws_markActionS [(.t 15),(.t 16)],none,[]⟩,
 ⟨6,some 1,.mv (.t 17),none,[]⟩]))
  (.region [⟨0,some 10,.mv (.t 5),none,[]⟩,
 ⟨1,some 11,.bin .add (.t 10) (.c (.int .i64 1)),none,[]⟩,
 ⟨2,some 5,.mv (.t 11),none,[]⟩]))))))
  (.seq (.region [⟨0,some 18,.mv (.t 1),none,[]⟩,
 ⟨1,some 4,.mv (.t 18),none,[]⟩])
  .ret)))
noncomputable def f_laws_markActionSS:AFun:=⟨2,19,0,false,[.tmp 4],c_laws_markActionSS⟩
@[irreducible] noncomputable def s_laws_markActionSS:CallSem:=funSem f_laws_markActionSS
@[irreducible] noncomputable def mg_laws_markActionSS(x:List (List (Int×Int×Int×Int)))(m:Int):(List (List (Int×Int×Int×Int)))×Int:=(shut fun(x:List (List (Int×Int×Int×Int))) (m:Int)=>mkL (RT.mkI (.one (.sl rI4))) x m).1 x m
@[irreducible] noncomputable def mok_laws_markActionSS(x:List (List (Int×Int×Int×Int))):Prop:=(shut fun(x:List (List (Int×Int×Int×Int)))=>CT.wl (.sl (.one (.sl rI4))) x).1 x
theorem mgu_laws_markActionSS:mg_laws_markActionSS=fun x m=>mkL (RT.mkI (.one (.sl rI4))) x m:=by unfold mg_laws_markActionSS;exact(shut _).2
theorem mou_laws_markActionSS:mok_laws_markActionSS=fun x=>CT.wl (.sl (.one (.sl rI4))) x:=by unfold mok_laws_markActionSS;exact(shut _).2
theorem sl_laws_markActionSS:SlC s_laws_markActionSS (.one (.sl rI4)):=by
 rintro h ω hd p l u m Q hok hinj hM hQ
 have hn:=hM.len
 have hlb:l.length≤9223372036854775807:=hok.1
 unfold s_laws_markActionSS
 refine fun_intro rfl ?_
 unfold c_laws_markActionSS
 repeat' (first|(simp only[go_sem,reduceIte,reduceCtorEq,Nat.reduceAdd,Nat.reduceBEq,Int.reduceLT,Int.reduceLE,Int.reduceGT,Int.reduceGE,Int.reduceBEq,Int.reduceBNe,Nat.reduceEqDiff,Nat.reduceLeDiff,Nat.reduceLT,hn])|(refine aops_part rfl (fun hb=>?_) (fun hb=>?_)<;>simp only[hb,go_sem,reduceIte,reduceCtorEq,Nat.reduceAdd,Nat.reduceBEq,Int.reduceLT,Int.reduceLE,Int.reduceGT,Int.reduceGE,Int.reduceBEq,Int.reduceBNe,Nat.reduceEqDiff,Nat.reduceLeDiff,Nat.reduceLT,hn])|(refine awp_part rfl (fun hb=>?_) (fun hb=>?_)<;>simp only[hb,go_sem,reduceIte,reduceCtorEq,Nat.reduceAdd,Nat.reduceBEq,Int.reduceLT,Int.reduceLE,Int.reduceGT,Int.reduceGE,Int.reduceBEq,Int.reduceBNe,Nat.reduceEqDiff,Nat.reduceLeDiff,Nat.reduceLT,hn])|(refine wop_pick_part rfl (fun hb=>?_) (fun hb=>?_)<;>simp only[hb,go_sem,reduceIte,reduceCtorEq,Nat.reduceAdd,Nat.reduceBEq,Int.reduceLT,Int.reduceLE,Int.reduceGT,Int.reduceGE,Int.reduceBEq,Int.reduceBNe,Nat.reduceEqDiff,Nat.reduceLeDiff,Nat.reduceLT,hn]))
 refine loop_up l.length (fun i st=>∃ h',st=⟨[u,.int .i64 (mkPre (RT.mkI (.one (.sl rI4))) l m i).2,.undef,.undef,.undef,.int .i64 (i:Int)]++reps 13,[],h'⟩∧Only (Under ω hd p) h h'∧MS h' ω hd p (.one (.sl rI4)) (mkPre (RT.mkI (.one (.sl rI4))) l m i).1 u) ?_ ?_
 · refine⟨h,?_,Only.refl _ _,hM⟩
   simp only[mkPre_zero,keep,Int.natCast_zero]
   rfl
 · rintro i st next hi ⟨h1,rfl,hO,hR⟩ hnx
   by_cases hlt:i<l.length
   · have hc:decide ((i:Int)<(l.length:Int))=true:=decide_eq_true (by omega)
     have hw:IntKind.i64.wrap ((i:Int)+1)=((i+1:Nat):Int):=by rw[wrapI (by omega)];omega
     obtain⟨b,hub⟩:=hR.slice (by rw[mkPre_len];omega)
     rw[mkPre_len] at hub
     subst hub
     cases hL:mkPre (RT.mkI (.one (.sl rI4))) l m i with
     |mk L k0=>
     rw[hL] at hR
     obtain⟨hLl,hs,hx0⟩:=mkPre_step hlt hL
     have hiL:i<L.length:=by omega
     have hwx:=wl_get hok hlt
     rw[← hx0] at hwx
     have R0:=MS.frame hR hiL
     clear hx0
     generalize hx0:List.getD L i (RT.dflt (.one (.sl rI4)))=x0 at R0 hs hwx
     clear hx0
     have hx:=idx_own (b:=b) (w:=1) hlt (k:=.i64)
     simp only
     obtain⟨u0,s0,M0,f0⟩:=MS.sb R0 hiL (off:=0) (by decide) (r':=rI4) (l':=x0) rfl
     replace s0:v_loadH h1 none (.ptr b (i*1))=some u0:=s0
     have ok0:=(MS.ok1 M0).1
     repeat' (first|(simp only[go_sem,reduceIte,reduceCtorEq,Nat.reduceAdd,Nat.reduceBEq,Int.reduceLT,Int.reduceLE,Int.reduceGT,Int.reduceGE,Int.reduceBEq,Int.reduceBNe,Nat.reduceEqDiff,Nat.reduceLeDiff,Nat.reduceLT,hn,hc,hw,hx,s0,ok0])|(refine aops_part rfl (fun hb=>?_) (fun hb=>?_)<;>simp only[hb,go_sem,reduceIte,reduceCtorEq,Nat.reduceAdd,Nat.reduceBEq,Int.reduceLT,Int.reduceLE,Int.reduceGT,Int.reduceGE,Int.reduceBEq,Int.reduceBNe,Nat.reduceEqDiff,Nat.reduceLeDiff,Nat.reduceLT,hn,hc,hw,hx,s0,ok0])|(refine awp_part rfl (fun hb=>?_) (fun hb=>?_)<;>simp only[hb,go_sem,reduceIte,reduceCtorEq,Nat.reduceAdd,Nat.reduceBEq,Int.reduceLT,Int.reduceLE,Int.reduceGT,Int.reduceGE,Int.reduceBEq,Int.reduceBNe,Nat.reduceEqDiff,Nat.reduceLeDiff,Nat.reduceLT,hn,hc,hw,hx,s0,ok0])|(refine wop_pick_part rfl (fun hb=>?_) (fun hb=>?_)<;>simp only[hb,go_sem,reduceIte,reduceCtorEq,Nat.reduceAdd,Nat.reduceBEq,Int.reduceLT,Int.reduceLE,Int.reduceGT,Int.reduceGE,Int.reduceBEq,Int.reduceBNe,Nat.reduceEqDiff,Nat.reduceLeDiff,Nat.reduceLT,hn,hc,hw,hx,s0,ok0]))
     refine callN (sl_laws_markActionS h1 ω hd _ x0 u0 k0 _ hwx hinj M0 fun h2 O0 N0=>?_)
     obtain⟨o0,R1⟩:=f0 h2 _ ((mkL (RT.mkI rI4) x0 k0).1:RT.D (.one (.sl rI4))) O0 N0 rfl
     repeat' (first|(simp only[go_sem,reduceIte,reduceCtorEq,Nat.reduceAdd,Nat.reduceBEq,Int.reduceLT,Int.reduceLE,Int.reduceGT,Int.reduceGE,Int.reduceBEq,Int.reduceBNe,Nat.reduceEqDiff,Nat.reduceLeDiff,Nat.reduceLT,hn,hc,hw,hx,s0,ok0])|(refine aops_part rfl (fun hb=>?_) (fun hb=>?_)<;>simp only[hb,go_sem,reduceIte,reduceCtorEq,Nat.reduceAdd,Nat.reduceBEq,Int.reduceLT,Int.reduceLE,Int.reduceGT,Int.reduceGE,Int.reduceBEq,Int.reduceBNe,Nat.reduceEqDiff,Nat.reduceLeDiff,Nat.reduceLT,hn,hc,hw,hx,s0,ok0])|(refine awp_part rfl (fun hb=>?_) (fun hb=>?_)<;>simp only[hb,go_sem,reduceIte,reduceCtorEq,Nat.reduceAdd,Nat.reduceBEq,Int.reduceLT,Int.reduceLE,Int.reduceGT,Int.reduceGE,Int.reduceBEq,Int.reduceBNe,Nat.reduceEqDiff,Nat.reduceLeDiff,Nat.reduceLT,hn,hc,hw,hx,s0,ok0])|(refine wop_pick_part rfl (fun hb=>?_) (fun hb=>?_)<;>simp only[hb,go_sem,reduceIte,reduceCtorEq,Nat.reduceAdd,Nat.reduceBEq,Int.reduceLT,Int.reduceLE,Int.reduceGT,Int.reduceGE,Int.reduceBEq,Int.reduceBNe,Nat.reduceEqDiff,Nat.reduceLeDiff,Nat.reduceLT,hn,hc,hw,hx,s0,ok0]))
     exact hnx _ hlt ⟨h2,by rw[hs];rfl,(Only.trans hO o0),by rw[hs];exact R1⟩
   · have hc:decide ((i:Int)<(l.length:Int))=false:=decide_eq_false (by omega)
     have hi':i=l.length:=by omega
     subst hi'
     repeat' (first|(simp only[go_sem,reduceIte,reduceCtorEq,Nat.reduceAdd,Nat.reduceBEq,Int.reduceLT,Int.reduceLE,Int.reduceGT,Int.reduceGE,Int.reduceBEq,Int.reduceBNe,Nat.reduceEqDiff,Nat.reduceLeDiff,Nat.reduceLT,hn,hc])|(refine aops_part rfl (fun hb=>?_) (fun hb=>?_)<;>simp only[hb,go_sem,reduceIte,reduceCtorEq,Nat.reduceAdd,Nat.reduceBEq,Int.reduceLT,Int.reduceLE,Int.reduceGT,Int.reduceGE,Int.reduceBEq,Int.reduceBNe,Nat.reduceEqDiff,Nat.reduceLeDiff,Nat.reduceLT,hn,hc])|(refine awp_part rfl (fun hb=>?_) (fun hb=>?_)<;>simp only[hb,go_sem,reduceIte,reduceCtorEq,Nat.reduceAdd,Nat.reduceBEq,Int.reduceLT,Int.reduceLE,Int.reduceGT,Int.reduceGE,Int.reduceBEq,Int.reduceBNe,Nat.reduceEqDiff,Nat.reduceLeDiff,Nat.reduceLT,hn,hc])|(refine wop_pick_part rfl (fun hb=>?_) (fun hb=>?_)<;>simp only[hb,go_sem,reduceIte,reduceCtorEq,Nat.reduceAdd,Nat.reduceBEq,Int.reduceLT,Int.reduceLE,Int.reduceGT,Int.reduceGE,Int.reduceBEq,Int.reduceBNe,Nat.reduceEqDiff,Nat.reduceLeDiff,Nat.reduceLT,hn,hc]))
     have e:=mkPre_all (RT.mkI (.one (.sl rI4))) l m
     rw[e] at hR ⊢
     exact hQ h1 hO hR
noncomputable def c_laws_markKeymap:ACode:=
 (.seq (.region [⟨0,some 2,.boxB 0 2 (.t 0),none,[]⟩,
 ⟨1,some 4,.mv (.c (.int .i64 0)),none,[]⟩])
  (.seq (.region [⟨0,some 5,.fieldA 1 (.t 2),none,[]⟩,
 ⟨1,some 6,.loadB 0 none (.t 5),none,[]⟩,
 ⟨2,some 7,.mv (.t 1),none,[]⟩,
 ⟨3,some 8,.call s_laws_markActionSS [(.t 6),(.t 7)],none,[]⟩,
 ⟨4,some 1,.mv (.t 8),none,[]⟩])
  (.seq (.region [⟨0,some 9,.mv (.t 1),none,[]⟩,
 ⟨1,some 4,.mv (.t 9),none,[]⟩])
  .ret)))
noncomputable def f_laws_markKeymap:AFun:=⟨2,10,1,false,[.tmp 4],c_laws_markKeymap⟩
@[irreducible] noncomputable def s_laws_markKeymap:CallSem:=funSem f_laws_markKeymap
@[irreducible] noncomputable def mg_laws_markKeymap(x:Int×(List (List (Int×Int×Int×Int))))(m:Int):(Int×(List (List (Int×Int×Int×Int))))×Int:=(shut fun(x:Int×(List (List (Int×Int×Int×Int)))) (m:Int)=>RT.mkT (.cons (.int .i64) (.one (.sl (.one (.sl rI4))))) x m).1 x m
@[irreducible] noncomputable def mok_laws_markKeymap(x:Int×(List (List (Int×Int×Int×Int)))):Prop:=(shut fun(x:Int×(List (List (Int×Int×Int×Int))))=>RT.wl (.cons (.int .i64) (.one (.sl (.one (.sl rI4))))) x).1 x
theorem mgu_laws_markKeymap:mg_laws_markKeymap=fun x m=>RT.mkT (.cons (.int .i64) (.one (.sl (.one (.sl rI4))))) x m:=by unfold mg_laws_markKeymap;exact(shut _).2
theorem mou_laws_markKeymap:mok_laws_markKeymap=fun x=>RT.wl (.cons (.int .i64) (.one (.sl (.one (.sl rI4))))) x:=by unfold mok_laws_markKeymap;exact(shut _).2
theorem mk_laws_markKeymap:SoundM s_laws_markKeymap (agMk (.cons (.int .i64) (.one (.sl (.one (.sl rI4)))))).P:=by
 rintro h ω hd P b olds us u m K Q hinj hu hl hr ⟨x,rfl,hok,hK⟩ hQ
 have hu:u= .agg us:=hu
 subst hu
 show s_laws_markKeymap [.agg us,.int .i64 m] h Q
 obtain⟨u0,u1,rfl⟩:=len_2 hl
 have c0:RC h ω (.inn hd (P++[b+0])) (CT.enc (.int .i64) x.1) u0:=hr 0 (lt_enc (by decide))
 have c1:RC h ω (.inn hd (P++[b+1])) (CT.enc (.sl (.one (.sl rI4))) x.2) u1:=hr 1 (lt_enc (by decide))
 have e0:=c0.cellV rfl
 have e1:=c1.cellV rfl
 have g1:=(RC.own1 c1).1
 have z1:=(RC.own1 c1).2.2
 unfold s_laws_markKeymap
 refine fun_intro rfl ?_
 unfold c_laws_markKeymap
 repeat' (first|(simp only[go_sem,reduceIte,reduceCtorEq,Nat.reduceAdd,Nat.reduceBEq,Int.reduceLT,Int.reduceLE,Int.reduceGT,Int.reduceGE,Int.reduceBEq,Int.reduceBNe,Nat.reduceEqDiff,Nat.reduceLeDiff,Nat.reduceLT,e0,e1,g1])|(refine aops_part rfl (fun hb=>?_) (fun hb=>?_)<;>simp only[hb,go_sem,reduceIte,reduceCtorEq,Nat.reduceAdd,Nat.reduceBEq,Int.reduceLT,Int.reduceLE,Int.reduceGT,Int.reduceGE,Int.reduceBEq,Int.reduceBNe,Nat.reduceEqDiff,Nat.reduceLeDiff,Nat.reduceLT,e0,e1,g1])|(refine awp_part rfl (fun hb=>?_) (fun hb=>?_)<;>simp only[hb,go_sem,reduceIte,reduceCtorEq,Nat.reduceAdd,Nat.reduceBEq,Int.reduceLT,Int.reduceLE,Int.reduceGT,Int.reduceGE,Int.reduceBEq,Int.reduceBNe,Nat.reduceEqDiff,Nat.reduceLeDiff,Nat.reduceLT,e0,e1,g1])|(refine wop_pick_part rfl (fun hb=>?_) (fun hb=>?_)<;>simp only[hb,go_sem,reduceIte,reduceCtorEq,Nat.reduceAdd,Nat.reduceBEq,Int.reduceLT,Int.reduceLE,Int.reduceGT,Int.reduceGE,Int.reduceBEq,Int.reduceBNe,Nat.reduceEqDiff,Nat.reduceLeDiff,Nat.reduceLT,e0,e1,g1]))
 refine callN (sl_laws_markActionSS h ω hd (P++[b+1]) x.2 u1 m _ hok.2 hinj c1 fun h1 O0 N0=>?_)
 replace N0:RC h1 ω (.inn hd (P++[b+1])) (CT.enc (.sl (.one (.sl rI4))) (mkL (RT.mkI (.one (.sl rI4))) x.2 m).1) u1:=N0
 have b0_0:=RC.beside c0 O0 (fun l hs=>by obtain⟨q,e⟩:=hs;exact⟨b+1,q,by omega,by rw[e];simp⟩)
 repeat' (first|(simp only[go_sem,reduceIte,reduceCtorEq,Nat.reduceAdd,Nat.reduceBEq,Int.reduceLT,Int.reduceLE,Int.reduceGT,Int.reduceGE,Int.reduceBEq,Int.reduceBNe,Nat.reduceEqDiff,Nat.reduceLeDiff,Nat.reduceLT,e0,e1,g1])|(refine aops_part rfl (fun hb=>?_) (fun hb=>?_)<;>simp only[hb,go_sem,reduceIte,reduceCtorEq,Nat.reduceAdd,Nat.reduceBEq,Int.reduceLT,Int.reduceLE,Int.reduceGT,Int.reduceGE,Int.reduceBEq,Int.reduceBNe,Nat.reduceEqDiff,Nat.reduceLeDiff,Nat.reduceLT,e0,e1,g1])|(refine awp_part rfl (fun hb=>?_) (fun hb=>?_)<;>simp only[hb,go_sem,reduceIte,reduceCtorEq,Nat.reduceAdd,Nat.reduceBEq,Int.reduceLT,Int.reduceLE,Int.reduceGT,Int.reduceGE,Int.reduceBEq,Int.reduceBNe,Nat.reduceEqDiff,Nat.reduceLeDiff,Nat.reduceLT,e0,e1,g1])|(refine wop_pick_part rfl (fun hb=>?_) (fun hb=>?_)<;>simp only[hb,go_sem,reduceIte,reduceCtorEq,Nat.reduceAdd,Nat.reduceBEq,Int.reduceLT,Int.reduceLE,Int.reduceGT,Int.reduceGE,Int.reduceBEq,Int.reduceBNe,Nat.reduceEqDiff,Nat.reduceLeDiff,Nat.reduceLT,e0,e1,g1]))
 refine hQ _ _ h1 hK rfl ((Only.mono O0 fun l hs=>by obtain⟨q,e⟩:=hs;exact⟨1,_,q,lt_enc (by decide),rfl,by rw[e];simp⟩)) fun c hc=>?_
 have hc:c<2:=hc
 rcases (show c=0∨c=1 by omega) with rfl|rfl
 · exact b0_0
 · exact N0
noncomputable def M_laws_markKeymap:DMk:=⟨(.cons (.int .i64) (.one (.sl (.one (.sl rI4))))),true,mok_laws_markKeymap,mg_laws_markKeymap,false⟩
theorem smk_laws_markKeymap:SoundM s_laws_markKeymap (DMk.P M_laws_markKeymap):=by unfold M_laws_markKeymap;rw[mou_laws_markKeymap,mgu_laws_markKeymap];exact mk_laws_markKeymap
noncomputable def dc_laws_heldActionS:DCode:=
 (.seq [1,0] (.region [oi 0 4 0])
 (.seq [1] (.seq [5,1,0] (.region [oi 0 5 0])
 (.block 0 (.loop [0,1,5] 1 (.seq [5,1,0] (.seq [9,5,1,0] (.region [om 0 6 5,
 on 1 7 0,
 oa 2 8 (.len (.t 7)),
 oa 3 9 (.bin .lss (.t 6) (.t 8))])
  (.cond (.t 9) .skip (.exit 0)))
  (.seq [5,1,0] (.block 1 (.seq [5,1,0] (.seq [18,5,1,0] (.region [on 0 12 0,
 om 1 13 5,
 oa 2 14 (.indexA 4 (.t 12) (.t 13)),
 oa 3 15 (.fieldA 0 (.t 14)),
 oa 4 16 (.loadH none (.t 15)),
 om 5 17 1,
 oa 6 18 (.bin .neq (.t 16) (.t 17))])
  (.cond (.t 18) (.seq [4] (.region [oi 0 4 (-1)])
  .ret) .skip))
  (.seq [5,1,0] (.region [om 0 19 1,
 oa 1 20 (.bin .add (.t 19) (.c (.int .i64 1))),
 om 2 1 20])
  (.seq [5,1,0] (.seq [27,5,1,0] (.region [on 0 21 0,
 om 1 22 5,
 oa 2 23 (.indexA 4 (.t 21) (.t 22)),
 oa 3 24 (.fieldA 1 (.t 23)),
 oa 4 25 (.loadH none (.t 24)),
 om 5 26 1,
 oa 6 27 (.bin .neq (.t 25) (.t 26))])
  (.cond (.t 27) (.seq [4] (.region [oi 0 4 (-1)])
  .ret) .skip))
  (.seq [5,1,0] (.region [om 0 28 1,
 oa 1 29 (.bin .add (.t 28) (.c (.int .i64 1))),
 om 2 1 29])
  (.seq [5,1,0] (.seq [36,5,1,0] (.region [on 0 30 0,
 om 1 31 5,
 oa 2 32 (.indexA 4 (.t 30) (.t 31)),
 oa 3 33 (.fieldA 2 (.t 32)),
 oa 4 34 (.loadH none (.t 33)),
 om 5 35 1,
 oa 6 36 (.bin .neq (.t 34) (.t 35))])
  (.cond (.t 36) (.seq [4] (.region [oi 0 4 (-1)])
  .ret) .skip))
  (.seq [5,1,0] (.region [om 0 37 1,
 oa 1 38 (.bin .add (.t 37) (.c (.int .i64 1))),
 om 2 1 38])
  (.seq [5,1,0] (.seq [45,5,1,0] (.region [on 0 39 0,
 om 1 40 5,
 oa 2 41 (.indexA 4 (.t 39) (.t 40)),
 oa 3 42 (.fieldA 3 (.t 41)),
 oa 4 43 (.loadH none (.t 42)),
 om 5 44 1,
 oa 6 45 (.bin .neq (.t 43) (.t 44))])
  (.cond (.t 45) (.seq [4] (.region [oi 0 4 (-1)])
  .ret) .skip))
  (.region [om 0 46 1,
 oa 1 47 (.bin .add (.t 46) (.c (.int .i64 1))),
 om 2 1 47])))))))))
  (.region [om 0 10 5,
 oa 1 11 (.bin .add (.t 10) (.c (.int .i64 1))),
 om 2 5 11]))))))
  (.seq [4] (.region [om 0 48 1,
 om 1 4 48])
  .ret)))
noncomputable def df_laws_heldActionS:DFun:=⟨2,49,0,true,[.tmp 4],dc_laws_heldActionS⟩
noncomputable def pf_laws_heldActionS:PFun:=df_laws_heldActionS.er
noncomputable def f_laws_heldActionS:AFun:=pf_laws_heldActionS.er
@[irreducible] noncomputable def s_laws_heldActionS:CallSem:=funSem f_laws_heldActionS
@[irreducible] noncomputable def p_laws_heldActionS:PSem:=pfunSem pf_laws_heldActionS
theorem sp_laws_heldActionS:SoundP s_laws_heldActionS p_laws_heldActionS:=by unfold s_laws_heldActionS p_laws_heldActionS;exact pfun_sound (f:=pf_laws_heldActionS) trivial
def h_laws_heldActionS:List HT:=[.one .frz (.sl rI4),.one .frz (.int .i64)]
def q_laws_heldActionS:QT:=.one (.one .own (.int .i64))
@[irreducible] noncomputable def v_laws_heldActionS(x:(List (Int×Int×Int×Int))×Int):Int:=(shut fun x=>fnV df_laws_heldActionS h_laws_heldActionS q_laws_heldActionS x).1 x
@[irreducible] noncomputable def ok_laws_heldActionS(x:(List (Int×Int×Int×Int))×Int):Prop:=(shut fun x=>fnOk df_laws_heldActionS h_laws_heldActionS q_laws_heldActionS x).1 x
theorem vu_laws_heldActionS (x):v_laws_heldActionS x=fnV df_laws_heldActionS h_laws_heldActionS q_laws_heldActionS x:=by unfold v_laws_heldActionS;exact congrFun (shut _).2 x
theorem ou_laws_heldActionS (x):ok_laws_heldActionS x=fnOk df_laws_heldActionS h_laws_heldActionS q_laws_heldActionS x:=by unfold ok_laws_heldActionS;exact congrFun (shut _).2 x
noncomputable def D_laws_heldActionS:DSem:=DSemOf h_laws_heldActionS q_laws_heldActionS ok_laws_heldActionS v_laws_heldActionS
theorem ck_laws_heldActionS(x:(List (Int×Int×Int×Int))×Int):fnChk df_laws_heldActionS h_laws_heldActionS q_laws_heldActionS x=true:=by kernel_rfl
theorem ob_laws_heldActionS:AllD df_laws_heldActionS.body.obs:=trivial
theorem st_laws_heldActionS:fnSt df_laws_heldActionS h_laws_heldActionS q_laws_heldActionS=true:=by kernel_rfl
theorem sd_laws_heldActionS:SoundD p_laws_heldActionS D_laws_heldActionS:=by unfold p_laws_heldActionS;exact soundD_of (f:=df_laws_heldActionS) (hs:=h_laws_heldActionS) (q:=q_laws_heldActionS) ob_laws_heldActionS st_laws_heldActionS ck_laws_heldActionS (fun x h=>Eq.mp (ou_laws_heldActionS x) h) (fun x=>(vu_laws_heldActionS x).symm)
noncomputable def dc_laws_heldActionSS:DCode:=
 (.seq [1,0] (.region [oi 0 4 0])
 (.seq [1] (.seq [5,1,0] (.region [oi 0 5 0])
 (.block 0 (.loop [0,1,5] 1 (.seq [5,1,0] (.seq [9,5,1,0] (.region [om 0 6 5,
 on 1 7 0,
 oa 2 8 (.len (.t 7)),
 oa 3 9 (.bin .lss (.t 6) (.t 8))])
  (.cond (.t 9) .skip (.exit 0)))
  (.seq [5,1,0] (.block 1 (.seq [5,1,0] (.region [on 0 12 0,
 om 1 13 5,
 oa 2 14 (.indexA 1 (.t 12) (.t 13)),
 oa 3 15 (.loadH none (.t 14)),
 om 4 16 1,
 oc 5 17 s_laws_heldActionS p_laws_heldActionS D_laws_heldActionS [(.t 15),(.t 16)],
 om 6 1 17])
  (.seq [19,5,1,0] (.region [om 0 18 1,
 oa 1 19 (.bin .lss (.t 18) (.c (.int .i64 0)))])
  (.cond (.t 19) (.seq [4] (.region [oi 0 4 (-1)])
  .ret) .skip))))
  (.region [om 0 10 5,
 oa 1 11 (.bin .add (.t 10) (.c (.int .i64 1))),
 om 2 5 11]))))))
  (.seq [4] (.region [om 0 20 1,
 om 1 4 20])
  .ret)))
noncomputable def df_laws_heldActionSS:DFun:=⟨2,21,0,true,[.tmp 4],dc_laws_heldActionSS⟩
noncomputable def pf_laws_heldActionSS:PFun:=df_laws_heldActionSS.er
noncomputable def f_laws_heldActionSS:AFun:=pf_laws_heldActionSS.er
@[irreducible] noncomputable def s_laws_heldActionSS:CallSem:=funSem f_laws_heldActionSS
@[irreducible] noncomputable def p_laws_heldActionSS:PSem:=pfunSem pf_laws_heldActionSS
theorem sp_laws_heldActionSS:SoundP s_laws_heldActionSS p_laws_heldActionSS:=by unfold s_laws_heldActionSS p_laws_heldActionSS;exact pfun_sound (f:=pf_laws_heldActionSS) ⟨sp_laws_heldActionS,trivial⟩
def h_laws_heldActionSS:List HT:=[.one .frz (.sl (.one (.sl rI4))),.one .frz (.int .i64)]
def q_laws_heldActionSS:QT:=.one (.one .own (.int .i64))
@[irreducible] noncomputable def v_laws_heldActionSS(x:(List (List (Int×Int×Int×Int)))×Int):Int:=(shut fun x=>fnV df_laws_heldActionSS h_laws_heldActionSS q_laws_heldActionSS x).1 x
@[irreducible] noncomputable def ok_laws_heldActionSS(x:(List (List (Int×Int×Int×Int)))×Int):Prop:=(shut fun x=>fnOk df_laws_heldActionSS h_laws_heldActionSS q_laws_heldActionSS x).1 x
theorem vu_laws_heldActionSS (x):v_laws_heldActionSS x=fnV df_laws_heldActionSS h_laws_heldActionSS q_laws_heldActionSS x:=by unfold v_laws_heldActionSS;exact congrFun (shut _).2 x
theorem ou_laws_heldActionSS (x):ok_laws_heldActionSS x=fnOk df_laws_heldActionSS h_laws_heldActionSS q_laws_heldActionSS x:=by unfold ok_laws_heldActionSS;exact congrFun (shut _).2 x
noncomputable def D_laws_heldActionSS:DSem:=DSemOf h_laws_heldActionSS q_laws_heldActionSS ok_laws_heldActionSS v_laws_heldActionSS
theorem ck_laws_heldActionSS(x:(List (List (Int×Int×Int×Int)))×Int):fnChk df_laws_heldActionSS h_laws_heldActionSS q_laws_heldActionSS x=true:=by kernel_rfl
theorem ob_laws_heldActionSS:AllD df_laws_heldActionSS.body.obs:=⟨sd_laws_heldActionS,trivial⟩
theorem st_laws_heldActionSS:fnSt df_laws_heldActionSS h_laws_heldActionSS q_laws_heldActionSS=true:=by kernel_rfl
theorem sd_laws_heldActionSS:SoundD p_laws_heldActionSS D_laws_heldActionSS:=by unfold p_laws_heldActionSS;exact soundD_of (f:=df_laws_heldActionSS) (hs:=h_laws_heldActionSS) (q:=q_laws_heldActionSS) ob_laws_heldActionSS st_laws_heldActionSS ck_laws_heldActionSS (fun x h=>Eq.mp (ou_laws_heldActionSS x) h) (fun x=>(vu_laws_heldActionSS x).symm)
noncomputable def dc_laws_heldKeymap:DCode:=
 (.seq [2,1] (.region [oa 0 2 (.boxB 0 2 (.t 0)),
 oi 1 4 0])
  (.seq [1] (.region [oa 0 5 (.fieldA 1 (.t 2)),
 oa 1 6 (.loadB 0 none (.t 5)),
 om 2 7 1,
 oc 3 8 s_laws_heldActionSS p_laws_heldActionSS D_laws_heldActionSS [(.t 6),(.t 7)],
 om 4 1 8])
  (.seq [1] (.seq [10,1] (.region [om 0 9 1,
 oa 1 10 (.bin .lss (.t 9) (.c (.int .i64 0)))])
  (.cond (.t 10) (.seq [4] (.region [oi 0 4 (-1)])
  .ret) .skip))
  (.seq [4] (.region [om 0 11 1,
 om 1 4 11])
  .ret))))
noncomputable def df_laws_heldKeymap:DFun:=⟨2,12,1,true,[.tmp 4],dc_laws_heldKeymap⟩
noncomputable def pf_laws_heldKeymap:PFun:=df_laws_heldKeymap.er
noncomputable def f_laws_heldKeymap:AFun:=pf_laws_heldKeymap.er
@[irreducible] noncomputable def s_laws_heldKeymap:CallSem:=funSem f_laws_heldKeymap
@[irreducible] noncomputable def p_laws_heldKeymap:PSem:=pfunSem pf_laws_heldKeymap
theorem sp_laws_heldKeymap:SoundP s_laws_heldKeymap p_laws_heldKeymap:=by unfold s_laws_heldKeymap p_laws_heldKeymap;exact pfun_sound (f:=pf_laws_heldKeymap) ⟨sp_laws_heldActionSS,trivial⟩
def h_laws_heldKeymap:List HT:=[.agg [(.frz,.int .i64),(.frz,.sl (.one (.sl rI4)))],.one .frz (.int .i64)]
def q_laws_heldKeymap:QT:=.one (.one .own (.int .i64))
@[irreducible] noncomputable def v_laws_heldKeymap(x:(Int×(List (List (Int×Int×Int×Int))))×Int):Int:=(shut fun x=>fnV df_laws_heldKeymap h_laws_heldKeymap q_laws_heldKeymap x).1 x
@[irreducible] noncomputable def ok_laws_heldKeymap(x:(Int×(List (List (Int×Int×Int×Int))))×Int):Prop:=(shut fun x=>fnOk df_laws_heldKeymap h_laws_heldKeymap q_laws_heldKeymap x).1 x
theorem vu_laws_heldKeymap (x):v_laws_heldKeymap x=fnV df_laws_heldKeymap h_laws_heldKeymap q_laws_heldKeymap x:=by unfold v_laws_heldKeymap;exact congrFun (shut _).2 x
theorem ou_laws_heldKeymap (x):ok_laws_heldKeymap x=fnOk df_laws_heldKeymap h_laws_heldKeymap q_laws_heldKeymap x:=by unfold ok_laws_heldKeymap;exact congrFun (shut _).2 x
noncomputable def D_laws_heldKeymap:DSem:=DSemOf h_laws_heldKeymap q_laws_heldKeymap ok_laws_heldKeymap v_laws_heldKeymap
theorem ck_laws_heldKeymap(x:(Int×(List (List (Int×Int×Int×Int))))×Int):fnChk df_laws_heldKeymap h_laws_heldKeymap q_laws_heldKeymap x=true:=by kernel_rfl
theorem ob_laws_heldKeymap:AllD df_laws_heldKeymap.body.obs:=⟨sd_laws_heldActionSS,trivial⟩
theorem st_laws_heldKeymap:fnSt df_laws_heldKeymap h_laws_heldKeymap q_laws_heldKeymap=true:=by kernel_rfl
theorem sd_laws_heldKeymap:SoundD p_laws_heldKeymap D_laws_heldKeymap:=by unfold p_laws_heldKeymap;exact soundD_of (f:=df_laws_heldKeymap) (hs:=h_laws_heldKeymap) (q:=q_laws_heldKeymap) ob_laws_heldKeymap st_laws_heldKeymap ck_laws_heldKeymap (fun x h=>Eq.mp (ou_laws_heldKeymap x) h) (fun x=>(vu_laws_heldKeymap x).symm)
end
section
set_option maxRecDepth 100000
theorem ve_laws_heldActionS (x):v_laws_heldActionS x=(bSel (iLt (loopV (fun(x0:(Int×Int))=>(bAnd (iLt x0.2 (lLen x.1)) (bAnd (bNot (iNe (lGet x.1 (iNat x0.2) (0,0,0,0)).1 x0.1)) (bAnd (bNot (iNe (lGet x.1 (iNat x0.2) (0,0,0,0)).2.1 (iAdd .i64 x0.1 1))) (bAnd (bNot (iNe (lGet x.1 (iNat x0.2) (0,0,0,0)).2.2.1 (iAdd .i64 (iAdd .i64 x0.1 1) 1))) (bNot (iNe (lGet x.1 (iNat x0.2) (0,0,0,0)).2.2.2 (iAdd .i64 (iAdd .i64 (iAdd .i64 x0.1 1) 1) 1)))))))) (fun(x0:(Int×Int))=>((iAdd .i64 (iAdd .i64 (iAdd .i64 (iAdd .i64 x0.1 1) 1) 1) 1),(iAdd .i64 x0.2 1))) (x.2,0)).2 (lLen x.1)) (bSel (iNe (lGet x.1 (iNat (loopV (fun(x0:(Int×Int))=>(bAnd (iLt x0.2 (lLen x.1)) (bAnd (bNot (iNe (lGet x.1 (iNat x0.2) (0,0,0,0)).1 x0.1)) (bAnd (bNot (iNe (lGet x.1 (iNat x0.2) (0,0,0,0)).2.1 (iAdd .i64 x0.1 1))) (bAnd (bNot (iNe (lGet x.1 (iNat x0.2) (0,0,0,0)).2.2.1 (iAdd .i64 (iAdd .i64 x0.1 1) 1))) (bNot (iNe (lGet x.1 (iNat x0.2) (0,0,0,0)).2.2.2 (iAdd .i64 (iAdd .i64 (iAdd .i64 x0.1 1) 1) 1)))))))) (fun(x0:(Int×Int))=>((iAdd .i64 (iAdd .i64 (iAdd .i64 (iAdd .i64 x0.1 1) 1) 1) 1),(iAdd .i64 x0.2 1))) (x.2,0)).2) (0,0,0,0)).1 (loopV (fun(x0:(Int×Int))=>(bAnd (iLt x0.2 (lLen x.1)) (bAnd (bNot (iNe (lGet x.1 (iNat x0.2) (0,0,0,0)).1 x0.1)) (bAnd (bNot (iNe (lGet x.1 (iNat x0.2) (0,0,0,0)).2.1 (iAdd .i64 x0.1 1))) (bAnd (bNot (iNe (lGet x.1 (iNat x0.2) (0,0,0,0)).2.2.1 (iAdd .i64 (iAdd .i64 x0.1 1) 1))) (bNot (iNe (lGet x.1 (iNat x0.2) (0,0,0,0)).2.2.2 (iAdd .i64 (iAdd .i64 (iAdd .i64 x0.1 1) 1) 1)))))))) (fun(x0:(Int×Int))=>((iAdd .i64 (iAdd .i64 (iAdd .i64 (iAdd .i64 x0.1 1) 1) 1) 1),(iAdd .i64 x0.2 1))) (x.2,0)).1) (-1) (bSel (iNe (lGet x.1 (iNat (loopV (fun(x0:(Int×Int))=>(bAnd (iLt x0.2 (lLen x.1)) (bAnd (bNot (iNe (lGet x.1 (iNat x0.2) (0,0,0,0)).1 x0.1)) (bAnd (bNot (iNe (lGet x.1 (iNat x0.2) (0,0,0,0)).2.1 (iAdd .i64 x0.1 1))) (bAnd (bNot (iNe (lGet x.1 (iNat x0.2) (0,0,0,0)).2.2.1 (iAdd .i64 (iAdd .i64 x0.1 1) 1))) (bNot (iNe (lGet x.1 (iNat x0.2) (0,0,0,0)).2.2.2 (iAdd .i64 (iAdd .i64 (iAdd .i64 x0.1 1) 1) 1)))))))) (fun(x0:(Int×Int))=>((iAdd .i64 (iAdd .i64 (iAdd .i64 (iAdd .i64 x0.1 1) 1) 1) 1),(iAdd .i64 x0.2 1))) (x.2,0)).2) (0,0,0,0)).2.1 (iAdd .i64 (loopV (fun(x0:(Int×Int))=>(bAnd (iLt x0.2 (lLen x.1)) (bAnd (bNot (iNe (lGet x.1 (iNat x0.2) (0,0,0,0)).1 x0.1)) (bAnd (bNot (iNe (lGet x.1 (iNat x0.2) (0,0,0,0)).2.1 (iAdd .i64 x0.1 1))) (bAnd (bNot (iNe (lGet x.1 (iNat x0.2) (0,0,0,0)).2.2.1 (iAdd .i64 (iAdd .i64 x0.1 1) 1))) (bNot (iNe (lGet x.1 (iNat x0.2) (0,0,0,0)).2.2.2 (iAdd .i64 (iAdd .i64 (iAdd .i64 x0.1 1) 1) 1)))))))) (fun(x0:(Int×Int))=>((iAdd .i64 (iAdd .i64 (iAdd .i64 (iAdd .i64 x0.1 1) 1) 1) 1),(iAdd .i64 x0.2 1))) (x.2,0)).1 1)) (-1) (bSel (iNe (lGet x.1 (iNat (loopV (fun(x0:(Int×Int))=>(bAnd (iLt x0.2 (lLen x.1)) (bAnd (bNot (iNe (lGet x.1 (iNat x0.2) (0,0,0,0)).1 x0.1)) (bAnd (bNot (iNe (lGet x.1 (iNat x0.2) (0,0,0,0)).2.1 (iAdd .i64 x0.1 1))) (bAnd (bNot (iNe (lGet x.1 (iNat x0.2) (0,0,0,0)).2.2.1 (iAdd .i64 (iAdd .i64 x0.1 1) 1))) (bNot (iNe (lGet x.1 (iNat x0.2) (0,0,0,0)).2.2.2 (iAdd .i64 (iAdd .i64 (iAdd .i64 x0.1 1) 1) 1)))))))) (fun(x0:(Int×Int))=>((iAdd .i64 (iAdd .i64 (iAdd .i64 (iAdd .i64 x0.1 1) 1) 1) 1),(iAdd .i64 x0.2 1))) (x.2,0)).2) (0,0,0,0)).2.2.1 (iAdd .i64 (iAdd .i64 (loopV (fun(x0:(Int×Int))=>(bAnd (iLt x0.2 (lLen x.1)) (bAnd (bNot (iNe (lGet x.1 (iNat x0.2) (0,0,0,0)).1 x0.1)) (bAnd (bNot (iNe (lGet x.1 (iNat x0.2) (0,0,0,0)).2.1 (iAdd .i64 x0.1 1))) (bAnd (bNot (iNe (lGet x.1 (iNat x0.2) (0,0,0,0)).2.2.1 (iAdd .i64 (iAdd .i64 x0.1 1) 1))) (bNot (iNe (lGet x.1 (iNat x0.2) (0,0,0,0)).2.2.2 (iAdd .i64 (iAdd .i64 (iAdd .i64 x0.1 1) 1) 1)))))))) (fun(x0:(Int×Int))=>((iAdd .i64 (iAdd .i64 (iAdd .i64 (iAdd .i64 x0.1 1) 1) 1) 1),(iAdd .i64 x0.2 1))) (x.2,0)).1 1) 1)) (-1) (-1)))) (loopV (fun(x0:(Int×Int))=>(bAnd (iLt x0.2 (lLen x.1)) (bAnd (bNot (iNe (lGet x.1 (iNat x0.2) (0,0,0,0)).1 x0.1)) (bAnd (bNot (iNe (lGet x.1 (iNat x0.2) (0,0,0,0)).2.1 (iAdd .i64 x0.1 1))) (bAnd (bNot (iNe (lGet x.1 (iNat x0.2) (0,0,0,0)).2.2.1 (iAdd .i64 (iAdd .i64 x0.1 1) 1))) (bNot (iNe (lGet x.1 (iNat x0.2) (0,0,0,0)).2.2.2 (iAdd .i64 (iAdd .i64 (iAdd .i64 x0.1 1) 1) 1)))))))) (fun(x0:(Int×Int))=>((iAdd .i64 (iAdd .i64 (iAdd .i64 (iAdd .i64 x0.1 1) 1) 1) 1),(iAdd .i64 x0.2 1))) (x.2,0)).1):=(vu_laws_heldActionS x).trans (by kernel_rfl)
theorem oe_laws_heldActionS (x):ok_laws_heldActionS x=(LoopOk (fun(x0:(Int×Int))=>(bAnd (iLt x0.2 (lLen x.1)) (bAnd (bNot (iNe (lGet x.1 (iNat x0.2) (0,0,0,0)).1 x0.1)) (bAnd (bNot (iNe (lGet x.1 (iNat x0.2) (0,0,0,0)).2.1 (iAdd .i64 x0.1 1))) (bAnd (bNot (iNe (lGet x.1 (iNat x0.2) (0,0,0,0)).2.2.1 (iAdd .i64 (iAdd .i64 x0.1 1) 1))) (bNot (iNe (lGet x.1 (iNat x0.2) (0,0,0,0)).2.2.2 (iAdd .i64 (iAdd .i64 (iAdd .i64 x0.1 1) 1) 1)))))))) (fun(x0:(Int×Int))=>((iAdd .i64 (iAdd .i64 (iAdd .i64 (iAdd .i64 x0.1 1) 1) 1) 1),(iAdd .i64 x0.2 1))) (fun(x0:(Int×Int))=>(((iLt x0.2 (lLen x.1))=true→((((0:Int)≤x0.2)∧(x0.2<(((List.length x.1):Int))))∧(((iNat x0.2)<(List.length x.1))∧(((iNe (lGet x.1 (iNat x0.2) (0,0,0,0)).1 x0.1)=true→True)∧((iNe (lGet x.1 (iNat x0.2) (0,0,0,0)).1 x0.1)=false→((((0:Int)≤x0.2)∧(x0.2<(((List.length x.1):Int))))∧(((iNat x0.2)<(List.length x.1))∧(((iNe (lGet x.1 (iNat x0.2) (0,0,0,0)).2.1 (iAdd .i64 x0.1 1))=true→True)∧((iNe (lGet x.1 (iNat x0.2) (0,0,0,0)).2.1 (iAdd .i64 x0.1 1))=false→((((0:Int)≤x0.2)∧(x0.2<(((List.length x.1):Int))))∧(((iNat x0.2)<(List.length x.1))∧(((iNe (lGet x.1 (iNat x0.2) (0,0,0,0)).2.2.1 (iAdd .i64 (iAdd .i64 x0.1 1) 1))=true→True)∧((iNe (lGet x.1 (iNat x0.2) (0,0,0,0)).2.2.1 (iAdd .i64 (iAdd .i64 x0.1 1) 1))=false→((((0:Int)≤x0.2)∧(x0.2<(((List.length x.1):Int))))∧((iNat x0.2)<(List.length x.1))))))))))))))))∧((iLt x0.2 (lLen x.1))=false→True))) (x.2,0)):=(ou_laws_heldActionS x).trans (by kernel_rfl)
theorem ve_laws_heldActionSS (x):v_laws_heldActionSS x=(bSel (iLt (loopV (fun(x0:(Int×Int))=>(bAnd (iLt x0.2 (lLen x.1)) (bNot (iLt (v_laws_heldActionS ((lGet x.1 (iNat x0.2) []),x0.1)) 0)))) (fun(x0:(Int×Int))=>((v_laws_heldActionS ((lGet x.1 (iNat x0.2) []),x0.1)),(iAdd .i64 x0.2 1))) (x.2,0)).2 (lLen x.1)) (-1) (loopV (fun(x0:(Int×Int))=>(bAnd (iLt x0.2 (lLen x.1)) (bNot (iLt (v_laws_heldActionS ((lGet x.1 (iNat x0.2) []),x0.1)) 0)))) (fun(x0:(Int×Int))=>((v_laws_heldActionS ((lGet x.1 (iNat x0.2) []),x0.1)),(iAdd .i64 x0.2 1))) (x.2,0)).1):=(vu_laws_heldActionSS x).trans (by kernel_rfl)
theorem oe_laws_heldActionSS (x):ok_laws_heldActionSS x=(LoopOk (fun(x0:(Int×Int))=>(bAnd (iLt x0.2 (lLen x.1)) (bNot (iLt (v_laws_heldActionS ((lGet x.1 (iNat x0.2) []),x0.1)) 0)))) (fun(x0:(Int×Int))=>((v_laws_heldActionS ((lGet x.1 (iNat x0.2) []),x0.1)),(iAdd .i64 x0.2 1))) (fun(x0:(Int×Int))=>(((iLt x0.2 (lLen x.1))=true→((((0:Int)≤x0.2)∧(x0.2<(((List.length x.1):Int))))∧(((iNat x0.2)<(List.length x.1))∧(ok_laws_heldActionS ((lGet x.1 (iNat x0.2) []),x0.1)))))∧((iLt x0.2 (lLen x.1))=false→True))) (x.2,0)):=(ou_laws_heldActionSS x).trans (by kernel_rfl)
theorem ve_laws_heldKeymap (x):v_laws_heldKeymap x=(bSel (iLt (v_laws_heldActionSS (x.1.2,x.2)) 0) (-1) (v_laws_heldActionSS (x.1.2,x.2))):=(vu_laws_heldKeymap x).trans (by kernel_rfl)
theorem oe_laws_heldKeymap (x):ok_laws_heldKeymap x=(ok_laws_heldActionSS (x.1.2,x.2)):=(ou_laws_heldKeymap x).trans (by kernel_rfl)
end
section
set_option maxRecDepth 20000
def mi_ActionS(a:Int×Int×Int×Int)(k:Int):(Int×Int×Int×Int)×Int:=((k,(IntKind.i64.wrap (k+1)),(IntKind.i64.wrap ((IntKind.i64.wrap (k+1))+1)),(IntKind.i64.wrap ((IntKind.i64.wrap ((IntKind.i64.wrap (k+1))+1))+1))),(IntKind.i64.wrap ((IntKind.i64.wrap ((IntKind.i64.wrap ((IntKind.i64.wrap (k+1))+1))+1))+1)))
theorem mh_ActionS(x:List (Int×Int×Int×Int))(h:sm_ActionS x)(m:Int)(h0:0≤m)(h1:m+4194304≤2305843009213693952):mok_laws_markActionS x∧(m≤(mg_laws_markActionS x m).2∧(mg_laws_markActionS x m).2≤m+4194304)∧ok_laws_heldActionS ((mg_laws_markActionS x m).1,m)∧v_laws_heldActionS ((mg_laws_markActionS x m).1,m)=(mg_laws_markActionS x m).2:=by
 have hl:x.length≤1048576:=h.1
 have hU:UpF mi_ActionS x 4:=by
  intro a ha k k0 k1
  have e0:IntKind.i64.wrap (k+1)=k+1:=wrapP (by omega) (by omega)
  have e1:IntKind.i64.wrap ((k+1)+1)=(k+1)+1:=wrapP (by omega) (by omega)
  have e2:IntKind.i64.wrap (((k+1)+1)+1)=((k+1)+1)+1:=wrapP (by omega) (by omega)
  have e3:IntKind.i64.wrap ((((k+1)+1)+1)+1)=(((k+1)+1)+1)+1:=wrapP (by omega) (by omega)
  have ee:(mi_ActionS a k).2=((((k+1)+1)+1)+1):=by simp only[mi_ActionS,e0,e1,e2,e3]
  rw[ee]
  omega
 have hB:x.length*4≤4194304:=mul_lim hl (by decide)
 have up:=mkL_up (m:=m) hU h0 (by omega)
 have hmg:mg_laws_markActionS x m=mkL mi_ActionS x m:=by unfold mi_ActionS;rw[mgu_laws_markActionS];rfl
 rw[hmg]
 have hL:=mkL_len mi_ActionS x m
 have hg:∀ i,i<x.length→(mkL mi_ActionS x m).1.getD i (0,0,0,0)=(mi_ActionS (x.getD i (0,0,0,0)) (mkPre mi_ActionS x m i).2).1:=fun i hi=>mkL_getD _ _ _ hi _
 have hok:mok_laws_markActionS x:=by rw[mou_laws_markActionS];exact⟨Nat.le_trans h.1 (by decide),fun a ha=>⟨trivial,trivial,trivial,trivial⟩⟩
 rw[oe_laws_heldActionS,ve_laws_heldActionS]
 dsimp only
 generalize (mkL mi_ActionS x m).1=L at hL hg ⊢
 have key:LoopOk (fun(x0:(Int×Int))=>(bAnd (iLt x0.2 (lLen L)) (bAnd (bNot (iNe (lGet L (iNat x0.2) (0,0,0,0)).1 x0.1)) (bAnd (bNot (iNe (lGet L (iNat x0.2) (0,0,0,0)).2.1 (iAdd .i64 x0.1 1))) (bAnd (bNot (iNe (lGet L (iNat x0.2) (0,0,0,0)).2.2.1 (iAdd .i64 (iAdd .i64 x0.1 1) 1))) (bNot (iNe (lGet L (iNat x0.2) (0,0,0,0)).2.2.2 (iAdd .i64 (iAdd .i64 (iAdd .i64 x0.1 1) 1) 1)))))))) (fun(x0:(Int×Int))=>((iAdd .i64 (iAdd .i64 (iAdd .i64 (iAdd .i64 x0.1 1) 1) 1) 1),(iAdd .i64 x0.2 1))) (fun(x0:(Int×Int))=>(((iLt x0.2 (lLen L))=true→((((0:Int)≤x0.2)∧(x0.2<(((List.length L):Int))))∧(((iNat x0.2)<(List.length L))∧(((iNe (lGet L (iNat x0.2) (0,0,0,0)).1 x0.1)=true→True)∧((iNe (lGet L (iNat x0.2) (0,0,0,0)).1 x0.1)=false→((((0:Int)≤x0.2)∧(x0.2<(((List.length L):Int))))∧(((iNat x0.2)<(List.length L))∧(((iNe (lGet L (iNat x0.2) (0,0,0,0)).2.1 (iAdd .i64 x0.1 1))=true→True)∧((iNe (lGet L (iNat x0.2) (0,0,0,0)).2.1 (iAdd .i64 x0.1 1))=false→((((0:Int)≤x0.2)∧(x0.2<(((List.length L):Int))))∧(((iNat x0.2)<(List.length L))∧(((iNe (lGet L (iNat x0.2) (0,0,0,0)).2.2.1 (iAdd .i64 (iAdd .i64 x0.1 1) 1))=true→True)∧((iNe (lGet L (iNat x0.2) (0,0,0,0)).2.2.1 (iAdd .i64 (iAdd .i64 x0.1 1) 1))=false→((((0:Int)≤x0.2)∧(x0.2<(((List.length L):Int))))∧((iNat x0.2)<(List.length L))))))))))))))))∧((iLt x0.2 (lLen L))=false→True))) (m,0)∧loopV (fun(x0:(Int×Int))=>(bAnd (iLt x0.2 (lLen L)) (bAnd (bNot (iNe (lGet L (iNat x0.2) (0,0,0,0)).1 x0.1)) (bAnd (bNot (iNe (lGet L (iNat x0.2) (0,0,0,0)).2.1 (iAdd .i64 x0.1 1))) (bAnd (bNot (iNe (lGet L (iNat x0.2) (0,0,0,0)).2.2.1 (iAdd .i64 (iAdd .i64 x0.1 1) 1))) (bNot (iNe (lGet L (iNat x0.2) (0,0,0,0)).2.2.2 (iAdd .i64 (iAdd .i64 (iAdd .i64 x0.1 1) 1) 1)))))))) (fun(x0:(Int×Int))=>((iAdd .i64 (iAdd .i64 (iAdd .i64 (iAdd .i64 x0.1 1) 1) 1) 1),(iAdd .i64 x0.2 1))) (m,0)=((mkL mi_ActionS x m).2,(x.length:Int)):=by
  refine held_loop hl (0,0,0,0) (fun i hi=>?_) ?_
  · obtain⟨b1,b2⟩:=mkPre_up (m:=m) hU h0 (by omega) (0,0,0,0) i (by omega)
    have bm:i*4+4≤x.length*4:=mul_step hi
    have g:=hg i hi
    have hlt:(i:Int)<(L.length:Int):=by omega
    have hlN:i<L.length:=by omega
    have ha:=getD_mem x i (0,0,0,0) hi
    generalize (mkPre mi_ActionS x m i).2=k at b1 b2 g ⊢
    generalize x.getD i (0,0,0,0)=a at g ha ⊢
    have e0:IntKind.i64.wrap (k+1)=k+1:=wrapP (by omega) (by omega)
    have e1:IntKind.i64.wrap ((k+1)+1)=(k+1)+1:=wrapP (by omega) (by omega)
    have e2:IntKind.i64.wrap (((k+1)+1)+1)=((k+1)+1)+1:=wrapP (by omega) (by omega)
    have e3:IntKind.i64.wrap ((((k+1)+1)+1)+1)=(((k+1)+1)+1)+1:=wrapP (by omega) (by omega)
    simp only[lGet_eq,iNat_eq,lLen_eq,Int.toNat_natCast,iAdd_def,iConv_def,iNe_eq,iLt_eq,iEq_eq,iRem_def,bAnd_eq,bNot_eq,bIff_eq,g,mi_ActionS,e0,e1,e2,e3]
    simp[hlt,hlN]
  · simp[iLt_eq,lLen_eq,hL,bAnd_eq]
 refine⟨hok,⟨up.1,by omega⟩,key.1,?_⟩
 simp only[key.2]
 simp[bSel_eq,iLt_eq,lLen_eq,hL]
noncomputable def mi_ActionSS(a:List (Int×Int×Int×Int))(k:Int):(List (Int×Int×Int×Int))×Int:=((mg_laws_markActionS a k).1,(mg_laws_markActionS a k).2)
theorem mh_ActionSS(x:List (List (Int×Int×Int×Int)))(h:sm_ActionSS x)(m:Int)(h0:0≤m)(h1:m+4398046511104≤2305843009213693952):mok_laws_markActionSS x∧(m≤(mg_laws_markActionSS x m).2∧(mg_laws_markActionSS x m).2≤m+4398046511104)∧ok_laws_heldActionSS ((mg_laws_markActionSS x m).1,m)∧v_laws_heldActionSS ((mg_laws_markActionSS x m).1,m)=(mg_laws_markActionSS x m).2:=by
 have hl:x.length≤1048576:=h.1
 have hU:UpF mi_ActionSS x 4194304:=by
  intro a ha k k0 k1
  obtain⟨_,⟨p0,q0⟩,y0,z0⟩:=mh_ActionS a (h.2 a ha) k (by omega) (by omega)
  have t0:¬ (mg_laws_markActionS a k).2<0:=by omega
  have ee:(mi_ActionSS a k).2=(mg_laws_markActionS a k).2:=by simp only[mi_ActionSS]
  rw[ee]
  omega
 have hB:x.length*4194304≤4398046511104:=mul_lim hl (by decide)
 have up:=mkL_up (m:=m) hU h0 (by omega)
 have hmg:mg_laws_markActionSS x m=mkL mi_ActionSS x m:=by unfold mi_ActionSS;rw[mgu_laws_markActionSS,mgu_laws_markActionS];rfl
 rw[hmg]
 have hL:=mkL_len mi_ActionSS x m
 have hg:∀ i,i<x.length→(mkL mi_ActionSS x m).1.getD i []=(mi_ActionSS (x.getD i []) (mkPre mi_ActionSS x m i).2).1:=fun i hi=>mkL_getD _ _ _ hi _
 have hok:mok_laws_markActionSS x:=by rw[mou_laws_markActionSS];exact⟨Nat.le_trans h.1 (by decide),fun a ha=>⟨Nat.le_trans (h.2 a ha).1 (by decide),fun a ha=>⟨trivial,trivial,trivial,trivial⟩⟩⟩
 rw[oe_laws_heldActionSS,ve_laws_heldActionSS]
 dsimp only
 generalize (mkL mi_ActionSS x m).1=L at hL hg ⊢
 have key:LoopOk (fun(x0:(Int×Int))=>(bAnd (iLt x0.2 (lLen L)) (bNot (iLt (v_laws_heldActionS ((lGet L (iNat x0.2) []),x0.1)) 0)))) (fun(x0:(Int×Int))=>((v_laws_heldActionS ((lGet L (iNat x0.2) []),x0.1)),(iAdd .i64 x0.2 1))) (fun(x0:(Int×Int))=>(((iLt x0.2 (lLen L))=true→((((0:Int)≤x0.2)∧(x0.2<(((List.length L):Int))))∧(((iNat x0.2)<(List.length L))∧(ok_laws_heldActionS ((lGet L (iNat x0.2) []),x0.1)))))∧((iLt x0.2 (lLen L))=false→True))) (m,0)∧loopV (fun(x0:(Int×Int))=>(bAnd (iLt x0.2 (lLen L)) (bNot (iLt (v_laws_heldActionS ((lGet L (iNat x0.2) []),x0.1)) 0)))) (fun(x0:(Int×Int))=>((v_laws_heldActionS ((lGet L (iNat x0.2) []),x0.1)),(iAdd .i64 x0.2 1))) (m,0)=((mkL mi_ActionSS x m).2,(x.length:Int)):=by
  refine held_loop hl [] (fun i hi=>?_) ?_
  · obtain⟨b1,b2⟩:=mkPre_up (m:=m) hU h0 (by omega) [] i (by omega)
    have bm:i*4194304+4194304≤x.length*4194304:=mul_step hi
    have g:=hg i hi
    have hlt:(i:Int)<(L.length:Int):=by omega
    have hlN:i<L.length:=by omega
    have ha:=getD_mem x i [] hi
    generalize (mkPre mi_ActionSS x m i).2=k at b1 b2 g ⊢
    generalize x.getD i []=a at g ha ⊢
    obtain⟨_,⟨p0,q0⟩,y0,z0⟩:=mh_ActionS a (h.2 a ha) k (by omega) (by omega)
    have t0:¬ (mg_laws_markActionS a k).2<0:=by omega
    simp only[lGet_eq,iNat_eq,lLen_eq,Int.toNat_natCast,iAdd_def,iConv_def,iNe_eq,iLt_eq,iEq_eq,iRem_def,bAnd_eq,bNot_eq,bIff_eq,g,mi_ActionSS,y0,z0,t0]
    simp[hlt,hlN,y0,z0,t0]
  · simp[iLt_eq,lLen_eq,hL,bAnd_eq]
 refine⟨hok,⟨up.1,by omega⟩,key.1,?_⟩
 simp only[key.2]
 simp[bSel_eq,iLt_eq,lLen_eq,hL]
theorem mh_Keymap(x:Int×(List (List (Int×Int×Int×Int))))(h:sm_Keymap x)(m:Int)(h0:0≤m)(h1:m+4398046511104≤2305843009213693952):mok_laws_markKeymap x∧(m≤(mg_laws_markKeymap x m).2∧(mg_laws_markKeymap x m).2≤m+4398046511104)∧ok_laws_heldKeymap ((x.1,(mg_laws_markKeymap x m).1.2),m)∧v_laws_heldKeymap ((x.1,(mg_laws_markKeymap x m).1.2),m)=(mg_laws_markKeymap x m).2:=by
 unfold sm_Keymap at h
 obtain⟨k0,⟨p0,q0⟩,y0,z0⟩:=mh_ActionSS x.2 h.1 m (by omega) (by omega)
 have t0:¬ (mg_laws_markActionSS x.2 m).2<0:=by omega
 have e:mg_laws_markKeymap x m=((x.1,(mg_laws_markActionSS x.2 m).1),(mg_laws_markActionSS x.2 m).2):=by rw[mgu_laws_markKeymap,mgu_laws_markActionSS];rfl
 have hok:mok_laws_markKeymap x:=by rw[mou_laws_markKeymap];exact⟨trivial,⟨Nat.le_trans h.1.1 (by decide),fun a ha=>⟨Nat.le_trans (h.1.2 a ha).1 (by decide),fun a ha=>⟨trivial,trivial,trivial,trivial⟩⟩⟩⟩
 rw[e]
 refine⟨hok,⟨by simp only;omega,by simp only;omega⟩,?_,?_⟩
 · rw[oe_laws_heldKeymap];simp[iLt_eq,bSel_eq,y0,z0,t0]
 · rw[ve_laws_heldKeymap];simp[iLt_eq,bSel_eq,y0,z0,t0]
end
theorem take_snoc{α:Type}(x:List α)(d:α){i:Nat}(h:i<x.length):x.take i++[x.getD i d]=x.take (i+1):=by
 rw[List.take_add_one,List.getD_eq_getElem?_getD,List.getElem?_eq_getElem h];rfl
theorem copy_app {α:Type} {c:Int×List α→Bool} {f:Int×List α→Int×List α} {p:Int×List α→Prop} (x:List α) (d:α) (hl:x.length≤1048576)
 (hc:∀ (i:Nat) (l:List α),c ((i:Int),l)=decide (i<x.length)) (hf:∀ (i:Nat) (l:List α),i<x.length→f ((i:Int),l)=(iAdd .i64 (i:Int) 1,l++[x.getD i d])) (hp:∀ (i:Nat) (l:List α),i≤x.length→l.length=i→p ((i:Int),l)) :
 LoopOk c f p (0,[])∧loopV c f (0,[])=((x.length:Int),x):=by
 have:=loop_for (c:=c) (f:=f) (p:=p) x.length (fun i=>((i:Int),x.take i)) (x0:=(0,[])) rfl (fun k hk=>by
  refine⟨hp k _ (by omega) (by rw[List.length_take];omega),by rw[hc];simpa using hk,?_⟩
  rw[hf k _ hk,iAdd_i64 (by unfold In64;omega),take_snoc x d hk]
  simp) ⟨hp _ _ (by omega) (by rw[List.length_take];omega),by rw[hc];simp⟩
 rw[List.take_length] at this
 exact this
def Bytes(x:List Int):Prop:=∀ a∈x,0≤a∧a<256
theorem Bytes.get{x:List Int}(h:Bytes x)(i:Nat):∃ n:Nat,n<256∧x.getD i 0=(n:Int):=by
 by_cases hi:i<x.length
 · obtain⟨h0,h1⟩:=h _ (getD_mem x i 0 hi)
   exact⟨(x.getD i 0).toNat,by omega,by omega⟩
 · exact⟨0,by omega,by rw[List.getD_eq_getElem?_getD,List.getElem?_eq_none (by omega)];rfl⟩
theorem Bytes.of{x:List Int}(h:CT.wf (.sl (.one (.int .u8))) x):Bytes x:=by
 intro a ha
 have:=h.2 a ha
 simp only[RT.wf,CT.wf] at this
 have h:IntKind.u8.min≤a∧a≤IntKind.u8.max:=by simpa [Lit.wf] using this
 have e1:IntKind.u8.min=0:=by decide
 have e2:IntKind.u8.max=255:=by decide
 rw[e1,e2] at h
 omega
section
set_option maxRecDepth 8000
noncomputable def dc_spec_l6Copy:DCode:=
 (.seq [2,1] (.region [oa 0 1 (.boxB 0 2 (.t 0)),
 oa 1 2 (.allocB 1 [(.int .i64 0),.nils])])
  (.seq [3,2,1] (.region [oa 0 5 (.fieldA 0 (.t 1)),
 ob 1 6 (.loadB 0 none (.t 5)),
 oa 2 7 (.build [(.int .i64 0),.nils] [(0,1,(.t 6))]),
 oa 3 3 (.allocB 2 [(.int .i64 0),.nils]),
 os 4 (.storeB 2 2 (.t 3) (.t 7))])
  (.seq [3,2] (.seq [4,3,2,1] (.region [oi 0 4 0])
  (.block 0 (.loop [1,2,3,4] 1 (.seq [4,3,2,1] (.seq [12,4,3,2,1] (.region [om 0 8 4,
 oa 1 9 (.fieldA 1 (.t 1)),
 oa 2 10 (.loadB 0 none (.t 9)),
 oa 3 11 (.len (.t 10)),
 oa 4 12 (.bin .lss (.t 8) (.t 11))])
  (.cond (.t 12) .skip (.exit 0)))
  (.seq [4,3,2,1] (.block 1 (.region [oa 0 15 (.fieldA 1 (.t 3)),
 xB 1 16 (.loadB 2 none (.t 15)) (rg 1),
 oa 3 18 (.fieldA 1 (.t 1)),
 xA 4 19 (.loadB 0 none (.t 18)) [3],
 om 5 20 4,
 xA 6 21 (.indexA 1 (.t 19) (.t 20)) [3,4,5],
 xA 7 22 (.loadH none (.t 21)) [3,4,5,6],
 ⟨2,some 17,.a false (.litSlice 4 0 [] []) (some rI4),none,[]⟩,
 xA 8 23 (.app 4 (.t 17) (.t 22)) [2,3,4,5,6,7],
 ⟨9,some 24,.a false (.litSlice 1 1 [.nils] [(0,1,(.t 23))]) (some (.one (.sl rI4))),none,[2,3,4,5,6,7,8]⟩,
 xA 10 25 (.app 1 (.t 16) (.t 24)) (rg 10),
 xA 11 26 (.fieldA 1 (.t 3)) (rg 11),
 xS 12 (.storeB 2 1 (.t 26) (.t 25)) (rg 12)]))
  (.region [om 0 13 4,
 oa 1 14 (.bin .add (.t 13) (.c (.int .i64 1))),
 om 2 4 14]))))))
  (.seq [2] (.region [ob 0 27 (.loadB 2 (some 2) (.t 3)),
 os 1 (.storeB 1 2 (.t 2) (.t 27))])
  .ret))))
noncomputable def df_spec_l6Copy:DFun:=⟨1,28,3,false,[.cell 2 (some 2)],dc_spec_l6Copy⟩
noncomputable def pf_spec_l6Copy:PFun:=df_spec_l6Copy.er
noncomputable def f_spec_l6Copy:AFun:=pf_spec_l6Copy.er
@[irreducible] noncomputable def s_spec_l6Copy:CallSem:=funSem f_spec_l6Copy
@[irreducible] noncomputable def p_spec_l6Copy:PSem:=pfunSem pf_spec_l6Copy
theorem sp_spec_l6Copy:SoundP s_spec_l6Copy p_spec_l6Copy:=by unfold s_spec_l6Copy p_spec_l6Copy;exact pfun_sound (f:=pf_spec_l6Copy) trivial
def h_spec_l6Copy:List HT:=[.agg [(.frz,.int .i64),(.frz,.sl (.one (.sl rI4)))]]
def q_spec_l6Copy:QT:=.one (.agg [(.own,.int .i64),(.own,.sl (.one (.sl rI4)))])
@[irreducible] noncomputable def v_spec_l6Copy(x:Int×(List (List (Int×Int×Int×Int)))):Int×(List (List (Int×Int×Int×Int))):=(shut fun x=>fnV df_spec_l6Copy h_spec_l6Copy q_spec_l6Copy x).1 x
@[irreducible] noncomputable def ok_spec_l6Copy(x:Int×(List (List (Int×Int×Int×Int)))):Prop:=(shut fun x=>fnOk df_spec_l6Copy h_spec_l6Copy q_spec_l6Copy x).1 x
theorem vu_spec_l6Copy (x):v_spec_l6Copy x=fnV df_spec_l6Copy h_spec_l6Copy q_spec_l6Copy x:=by unfold v_spec_l6Copy;exact congrFun (shut _).2 x
theorem ou_spec_l6Copy (x):ok_spec_l6Copy x=fnOk df_spec_l6Copy h_spec_l6Copy q_spec_l6Copy x:=by unfold ok_spec_l6Copy;exact congrFun (shut _).2 x
noncomputable def D_spec_l6Copy:DSem:=DSemOf h_spec_l6Copy q_spec_l6Copy ok_spec_l6Copy v_spec_l6Copy
theorem ck_spec_l6Copy(x:Int×(List (List (Int×Int×Int×Int)))):fnChk df_spec_l6Copy h_spec_l6Copy q_spec_l6Copy x=true:=by kernel_rfl
theorem ob_spec_l6Copy:AllD df_spec_l6Copy.body.obs:=trivial
theorem st_spec_l6Copy:fnSt df_spec_l6Copy h_spec_l6Copy q_spec_l6Copy=true:=by kernel_rfl
theorem sd_spec_l6Copy:SoundD p_spec_l6Copy D_spec_l6Copy:=by unfold p_spec_l6Copy;exact soundD_of (f:=df_spec_l6Copy) (hs:=h_spec_l6Copy) (q:=q_spec_l6Copy) ob_spec_l6Copy st_spec_l6Copy ck_spec_l6Copy (fun x h=>Eq.mp (ou_spec_l6Copy x) h) (fun x=>(vu_spec_l6Copy x).symm)
noncomputable def dc_spec_SetAction:DCode:=
 (.seq [8,7,4,2,1] (.region [oa 0 4 (.boxB 0 2 (.t 0)),
 oa 1 7 (.boxB 1 4 (.t 3)),
 oa 2 8 (.allocB 2 [(.int .i64 0),.nils]),
 oa 3 9 (.mv (.c (.bool false)))])
  (.seq [8,7,4,2,1] (.seq [30,8,7,4,2,1] (.region [oa 0 11 (.loadB 0 (some 2) (.t 4)),
 oc 1 12 s_spec_IsKeymap p_spec_IsKeymap D_spec_IsKeymap [(.t 11)],
 oa 2 13 (.un .not (.t 12)),
 om 3 14 13,
 og 4 15 (.mv (.t 1)) 14 false,
 og 5 16 (.fieldA 1 (.t 4)) 14 false,
 og 6 17 (.loadB 0 none (.t 16)) 14 false,
 og 7 18 (.len (.t 17)) 14 false,
 og 8 19 (.bin .sub (.t 18) (.c (.int .i64 1))) 14 false,
 ⟨9,some 20,.call false s_spec_l1In p_spec_l1In D_spec_l1In [(.t 15),(.c (.int .i64 0)),(.t 19)],(some (14,false)),[]⟩,
 og 10 21 (.un .not (.t 20)) 14 false,
 oa 11 22 (.pick (.t 14) (.c (.bool true)) (.t 21)),
 om 12 23 22,
 og 13 24 (.mv (.t 2)) 23 false,
 og 14 25 (.fieldA 0 (.t 4)) 23 false,
 og 15 26 (.loadB 0 none (.t 25)) 23 false,
 og 16 27 (.bin .sub (.t 26) (.c (.int .i64 1))) 23 false,
 ⟨17,some 28,.call false s_spec_l1In p_spec_l1In D_spec_l1In [(.t 24),(.c (.int .i64 0)),(.t 27)],(some (23,false)),[]⟩,
 og 18 29 (.un .not (.t 28)) 23 false,
 oa 19 30 (.pick (.t 23) (.c (.bool true)) (.t 29))])
  (.cond (.t 30) (.seq [9,8] (.region [oa 0 31 (.build [(.int .i64 0),.nils] []),
 os 1 (.storeB 2 2 (.t 8) (.t 31)),
 oa 2 9 (.mv (.c (.bool false)))])
  .ret) .skip))
  (.seq [10,8,7,2,1] (.region [oa 0 32 (.loadB 0 (some 2) (.t 4)),
 oc 1 33 s_spec_l6Copy p_spec_l6Copy D_spec_l6Copy [(.t 32)],
 oa 2 10 (.allocB 3 [(.int .i64 0),.nils]),
 os 3 (.storeB 3 2 (.t 10) (.t 33))])
  (.seq [10,8] (.region [oa 0 34 (.fieldA 1 (.t 10)),
 xA 1 35 (.loadB 3 none (.t 34)) (rg 1),
 om 2 36 1,
 xA 3 37 (.indexA 1 (.t 35) (.t 36)) (rg 3),
 xB 4 38 (.loadH none (.t 37)) (rg 4),
 om 5 39 2,
 ob 6 40 (.loadB 1 (some 4) (.t 7)),
 xA 7 41 (.indexA 4 (.t 38) (.t 39)) (rg 7),
 xS 8 (.storeH 4 (.t 41) (.t 40)) (rg 8)])
  (.seq [10,8] (.seq [44,10,8] (.region [oa 0 42 (.loadB 3 (some 2) (.t 10)),
 oc 1 43 s_spec_IsKeymap p_spec_IsKeymap D_spec_IsKeymap [(.t 42)],
 oa 2 44 (.un .not (.t 43))])
  (.cond (.t 44) (.seq [9,8] (.region [oa 0 45 (.build [(.int .i64 0),.nils] []),
 os 1 (.storeB 2 2 (.t 8) (.t 45)),
 oa 2 9 (.mv (.c (.bool false)))])
  .ret) .skip))
  (.seq [9,8] (.region [ob 0 46 (.loadB 3 (some 2) (.t 10)),
 os 1 (.storeB 2 2 (.t 8) (.t 46)),
 oa 2 9 (.mv (.c (.bool true)))])
  .ret))))))
noncomputable def df_spec_SetAction:DFun:=⟨4,47,4,false,[.cell 8 (some 2),.tmp 9],dc_spec_SetAction⟩
noncomputable def pf_spec_SetAction:PFun:=df_spec_SetAction.er
noncomputable def f_spec_SetAction:AFun:=pf_spec_SetAction.er
@[irreducible] noncomputable def s_spec_SetAction:CallSem:=funSem f_spec_SetAction
@[irreducible] noncomputable def p_spec_SetAction:PSem:=pfunSem pf_spec_SetAction
theorem sp_spec_SetAction:SoundP s_spec_SetAction p_spec_SetAction:=by unfold s_spec_SetAction p_spec_SetAction;exact pfun_sound (f:=pf_spec_SetAction) ⟨sp_spec_IsKeymap,sp_spec_l1In,sp_spec_l1In,sp_spec_l6Copy,sp_spec_IsKeymap,trivial⟩
def h_spec_SetAction:List HT:=[.agg [(.frz,.int .i64),(.frz,.sl (.one (.sl rI4)))],.one .frz (.int .i64),.one .frz (.int .i64),.agg [(.frz,.int .i64),(.frz,.int .i64),(.frz,.int .i64),(.frz,.int .i64)]]
def q_spec_SetAction:QT:=.tup [.agg [(.own,.int .i64),(.own,.sl (.one (.sl rI4)))],.one .own (.bool)]
@[irreducible] noncomputable def v_spec_SetAction(x:(Int×(List (List (Int×Int×Int×Int))))×Int×Int×(Int×Int×Int×Int)):(Int×(List (List (Int×Int×Int×Int))))×Bool:=(shut fun x=>fnV df_spec_SetAction h_spec_SetAction q_spec_SetAction x).1 x
@[irreducible] noncomputable def ok_spec_SetAction(x:(Int×(List (List (Int×Int×Int×Int))))×Int×Int×(Int×Int×Int×Int)):Prop:=(shut fun x=>fnOk df_spec_SetAction h_spec_SetAction q_spec_SetAction x).1 x
theorem vu_spec_SetAction (x):v_spec_SetAction x=fnV df_spec_SetAction h_spec_SetAction q_spec_SetAction x:=by unfold v_spec_SetAction;exact congrFun (shut _).2 x
theorem ou_spec_SetAction (x):ok_spec_SetAction x=fnOk df_spec_SetAction h_spec_SetAction q_spec_SetAction x:=by unfold ok_spec_SetAction;exact congrFun (shut _).2 x
noncomputable def D_spec_SetAction:DSem:=DSemOf h_spec_SetAction q_spec_SetAction ok_spec_SetAction v_spec_SetAction
theorem ck_spec_SetAction(x:(Int×(List (List (Int×Int×Int×Int))))×Int×Int×(Int×Int×Int×Int)):fnChk df_spec_SetAction h_spec_SetAction q_spec_SetAction x=true:=by kernel_rfl
theorem ob_spec_SetAction:AllD df_spec_SetAction.body.obs:=⟨sd_spec_IsKeymap,sd_spec_l1In,sd_spec_l1In,sd_spec_l6Copy,sd_spec_IsKeymap,trivial⟩
theorem st_spec_SetAction:fnSt df_spec_SetAction h_spec_SetAction q_spec_SetAction=true:=by kernel_rfl
theorem sd_spec_SetAction:SoundD p_spec_SetAction D_spec_SetAction:=by unfold p_spec_SetAction;exact soundD_of (f:=df_spec_SetAction) (hs:=h_spec_SetAction) (q:=q_spec_SetAction) ob_spec_SetAction st_spec_SetAction ck_spec_SetAction (fun x h=>Eq.mp (ou_spec_SetAction x) h) (fun x=>(vu_spec_SetAction x).symm)
noncomputable def dc_impl_copyKeymap:DCode:=
 (.seq [2,1] (.region [oa 0 1 (.boxB 0 2 (.t 0)),
 oa 1 2 (.allocB 1 [(.int .i64 0),.nils])])
  (.seq [3,2,1] (.region [oa 0 6 (.fieldA 0 (.t 1)),
 ob 1 7 (.loadB 0 none (.t 6)),
 oa 2 8 (.build [(.int .i64 0),.nils] [(0,1,(.t 7))]),
 oa 3 3 (.allocB 2 [(.int .i64 0),.nils]),
 os 4 (.storeB 2 2 (.t 3) (.t 8))])
  (.seq [3,2] (.seq [12,11,10,3,2] (.region [oa 0 9 (.fieldA 1 (.t 1)),
 oa 1 10 (.loadB 0 none (.t 9)),
 oa 2 11 (.len (.t 10)),
 oi 3 12 0])
  (.block 0 (.loop [2,3,10,11,12] 1 (.seq [13,12,11,10,3,2] (.region [oa 0 13 (.bin .lss (.t 12) (.t 11))])
  (.seq [12,11,10,3,2] (.cond (.t 13) .skip (.exit 0))
  (.seq [12,11,10,3,2] (.block 1 (.seq [12,11,10,5,3,2] (.region [oa 0 14 (.indexA 1 (.t 10) (.t 12)),
 oa 1 15 (.loadH none (.t 14)),
 on 2 5 15])
  (.region [oa 0 16 (.fieldA 1 (.t 3)),
 xB 1 17 (.loadB 2 none (.t 16)) (rg 1),
 on 2 18 5,
 xA 3 19 (.app 4 (.c .nils) (.t 18)) [2],
 ⟨4,some 20,.a false (.litSlice 1 1 [.nils] [(0,1,(.t 19))]) (some (.one (.sl rI4))),none,[2,3]⟩,
 xA 5 21 (.app 1 (.t 17) (.t 20)) (rg 5),
 xA 6 22 (.fieldA 1 (.t 3)) (rg 6),
 xS 7 (.storeB 2 1 (.t 22) (.t 21)) (rg 7)])))
  (.region [oa 0 23 (.bin .add (.t 12) (.c (.int .i64 1))),
 om 1 12 23])))))))
  (.seq [2] (.region [ob 0 24 (.loadB 2 (some 2) (.t 3)),
 os 1 (.storeB 1 2 (.t 2) (.t 24))])
  .ret))))
noncomputable def df_impl_copyKeymap:DFun:=⟨1,25,3,false,[.cell 2 (some 2)],dc_impl_copyKeymap⟩
noncomputable def pf_impl_copyKeymap:PFun:=df_impl_copyKeymap.er
noncomputable def f_impl_copyKeymap:AFun:=pf_impl_copyKeymap.er
@[irreducible] noncomputable def s_impl_copyKeymap:CallSem:=funSem f_impl_copyKeymap
@[irreducible] noncomputable def p_impl_copyKeymap:PSem:=pfunSem pf_impl_copyKeymap
theorem sp_impl_copyKeymap:SoundP s_impl_copyKeymap p_impl_copyKeymap:=by unfold s_impl_copyKeymap p_impl_copyKeymap;exact pfun_sound (f:=pf_impl_copyKeymap) trivial
def h_impl_copyKeymap:List HT:=[.agg [(.frz,.int .i64),(.frz,.sl (.one (.sl rI4)))]]
def q_impl_copyKeymap:QT:=.one (.agg [(.own,.int .i64),(.own,.sl (.one (.sl rI4)))])
@[irreducible] noncomputable def v_impl_copyKeymap(x:Int×(List (List (Int×Int×Int×Int)))):Int×(List (List (Int×Int×Int×Int))):=(shut fun x=>fnV df_impl_copyKeymap h_impl_copyKeymap q_impl_copyKeymap x).1 x
@[irreducible] noncomputable def ok_impl_copyKeymap(x:Int×(List (List (Int×Int×Int×Int)))):Prop:=(shut fun x=>fnOk df_impl_copyKeymap h_impl_copyKeymap q_impl_copyKeymap x).1 x
theorem vu_impl_copyKeymap (x):v_impl_copyKeymap x=fnV df_impl_copyKeymap h_impl_copyKeymap q_impl_copyKeymap x:=by unfold v_impl_copyKeymap;exact congrFun (shut _).2 x
theorem ou_impl_copyKeymap (x):ok_impl_copyKeymap x=fnOk df_impl_copyKeymap h_impl_copyKeymap q_impl_copyKeymap x:=by unfold ok_impl_copyKeymap;exact congrFun (shut _).2 x
noncomputable def D_impl_copyKeymap:DSem:=DSemOf h_impl_copyKeymap q_impl_copyKeymap ok_impl_copyKeymap v_impl_copyKeymap
theorem ck_impl_copyKeymap(x:Int×(List (List (Int×Int×Int×Int)))):fnChk df_impl_copyKeymap h_impl_copyKeymap q_impl_copyKeymap x=true:=by kernel_rfl
theorem ob_impl_copyKeymap:AllD df_impl_copyKeymap.body.obs:=trivial
theorem st_impl_copyKeymap:fnSt df_impl_copyKeymap h_impl_copyKeymap q_impl_copyKeymap=true:=by kernel_rfl
theorem sd_impl_copyKeymap:SoundD p_impl_copyKeymap D_impl_copyKeymap:=by unfold p_impl_copyKeymap;exact soundD_of (f:=df_impl_copyKeymap) (hs:=h_impl_copyKeymap) (q:=q_impl_copyKeymap) ob_impl_copyKeymap st_impl_copyKeymap ck_impl_copyKeymap (fun x h=>Eq.mp (ou_impl_copyKeymap x) h) (fun x=>(vu_impl_copyKeymap x).symm)
noncomputable def dc_impl_SetAction:DCode:=
 (.seq [8,7,4,2,1] (.region [oa 0 4 (.boxB 0 2 (.t 0)),
 oa 1 7 (.boxB 1 4 (.t 3)),
 oa 2 8 (.allocB 2 [(.int .i64 0),.nils]),
 oa 3 9 (.mv (.c (.bool false)))])
  (.seq [8,7,4,2,1] (.seq [34,8,7,4,2,1] (.region [oa 0 11 (.loadB 0 (some 2) (.t 4)),
 oc 1 12 s_impl_IsKeymap p_impl_IsKeymap D_impl_IsKeymap [(.t 11)],
 oa 2 13 (.un .not (.t 12)),
 om 3 14 13,
 og 4 15 (.mv (.t 1)) 14 false,
 og 5 16 (.bin .lss (.t 15) (.c (.int .i64 0))) 14 false,
 oa 6 17 (.pick (.t 14) (.c (.bool true)) (.t 16)),
 om 7 18 17,
 og 8 19 (.mv (.t 1)) 18 false,
 og 9 20 (.fieldA 1 (.t 4)) 18 false,
 og 10 21 (.loadB 0 none (.t 20)) 18 false,
 og 11 22 (.len (.t 21)) 18 false,
 og 12 23 (.bin .geq (.t 19) (.t 22)) 18 false,
 oa 13 24 (.pick (.t 18) (.c (.bool true)) (.t 23)),
 om 14 25 24,
 og 15 26 (.mv (.t 2)) 25 false,
 og 16 27 (.bin .lss (.t 26) (.c (.int .i64 0))) 25 false,
 oa 17 28 (.pick (.t 25) (.c (.bool true)) (.t 27)),
 om 18 29 28,
 og 19 30 (.mv (.t 2)) 29 false,
 og 20 31 (.fieldA 0 (.t 4)) 29 false,
 og 21 32 (.loadB 0 none (.t 31)) 29 false,
 og 22 33 (.bin .geq (.t 30) (.t 32)) 29 false,
 oa 23 34 (.pick (.t 29) (.c (.bool true)) (.t 33))])
  (.cond (.t 34) (.seq [9,8] (.region [oa 0 35 (.build [(.int .i64 0),.nils] []),
 os 1 (.storeB 2 2 (.t 8) (.t 35)),
 oa 2 9 (.mv (.c (.bool false)))])
  .ret) .skip))
  (.seq [10,8,7,2,1] (.region [oa 0 36 (.loadB 0 (some 2) (.t 4)),
 oc 1 37 s_impl_copyKeymap p_impl_copyKeymap D_impl_copyKeymap [(.t 36)],
 oa 2 10 (.allocB 3 [(.int .i64 0),.nils]),
 os 3 (.storeB 3 2 (.t 10) (.t 37))])
  (.seq [10,8] (.region [oa 0 38 (.fieldA 1 (.t 10)),
 xA 1 39 (.loadB 3 none (.t 38)) (rg 1),
 om 2 40 1,
 xA 3 41 (.indexA 1 (.t 39) (.t 40)) (rg 3),
 xB 4 42 (.loadH none (.t 41)) (rg 4),
 om 5 43 2,
 ob 6 44 (.loadB 1 (some 4) (.t 7)),
 xA 7 45 (.indexA 4 (.t 42) (.t 43)) (rg 7),
 xS 8 (.storeH 4 (.t 45) (.t 44)) (rg 8)])
  (.seq [10,8] (.seq [48,10,8] (.region [oa 0 46 (.loadB 3 (some 2) (.t 10)),
 oc 1 47 s_impl_IsKeymap p_impl_IsKeymap D_impl_IsKeymap [(.t 46)],
 oa 2 48 (.un .not (.t 47))])
  (.cond (.t 48) (.seq [9,8] (.region [oa 0 49 (.build [(.int .i64 0),.nils] []),
 os 1 (.storeB 2 2 (.t 8) (.t 49)),
 oa 2 9 (.mv (.c (.bool false)))])
  .ret) .skip))
  (.seq [9,8] (.region [ob 0 50 (.loadB 3 (some 2) (.t 10)),
 os 1 (.storeB 2 2 (.t 8) (.t 50)),
 oa 2 9 (.mv (.c (.bool true)))])
  .ret))))))
noncomputable def df_impl_SetAction:DFun:=⟨4,51,4,false,[.cell 8 (some 2),.tmp 9],dc_impl_SetAction⟩
noncomputable def pf_impl_SetAction:PFun:=df_impl_SetAction.er
noncomputable def f_impl_SetAction:AFun:=pf_impl_SetAction.er
@[irreducible] noncomputable def s_impl_SetAction:CallSem:=funSem f_impl_SetAction
@[irreducible] noncomputable def p_impl_SetAction:PSem:=pfunSem pf_impl_SetAction
theorem sp_impl_SetAction:SoundP s_impl_SetAction p_impl_SetAction:=by unfold s_impl_SetAction p_impl_SetAction;exact pfun_sound (f:=pf_impl_SetAction) ⟨sp_impl_IsKeymap,sp_impl_copyKeymap,sp_impl_IsKeymap,trivial⟩
def h_impl_SetAction:List HT:=[.agg [(.frz,.int .i64),(.frz,.sl (.one (.sl rI4)))],.one .frz (.int .i64),.one .frz (.int .i64),.agg [(.frz,.int .i64),(.frz,.int .i64),(.frz,.int .i64),(.frz,.int .i64)]]
def q_impl_SetAction:QT:=.tup [.agg [(.own,.int .i64),(.own,.sl (.one (.sl rI4)))],.one .own (.bool)]
@[irreducible] noncomputable def v_impl_SetAction(x:(Int×(List (List (Int×Int×Int×Int))))×Int×Int×(Int×Int×Int×Int)):(Int×(List (List (Int×Int×Int×Int))))×Bool:=(shut fun x=>fnV df_impl_SetAction h_impl_SetAction q_impl_SetAction x).1 x
@[irreducible] noncomputable def ok_impl_SetAction(x:(Int×(List (List (Int×Int×Int×Int))))×Int×Int×(Int×Int×Int×Int)):Prop:=(shut fun x=>fnOk df_impl_SetAction h_impl_SetAction q_impl_SetAction x).1 x
theorem vu_impl_SetAction (x):v_impl_SetAction x=fnV df_impl_SetAction h_impl_SetAction q_impl_SetAction x:=by unfold v_impl_SetAction;exact congrFun (shut _).2 x
theorem ou_impl_SetAction (x):ok_impl_SetAction x=fnOk df_impl_SetAction h_impl_SetAction q_impl_SetAction x:=by unfold ok_impl_SetAction;exact congrFun (shut _).2 x
noncomputable def D_impl_SetAction:DSem:=DSemOf h_impl_SetAction q_impl_SetAction ok_impl_SetAction v_impl_SetAction
theorem ck_impl_SetAction(x:(Int×(List (List (Int×Int×Int×Int))))×Int×Int×(Int×Int×Int×Int)):fnChk df_impl_SetAction h_impl_SetAction q_impl_SetAction x=true:=by kernel_rfl
theorem ob_impl_SetAction:AllD df_impl_SetAction.body.obs:=⟨sd_impl_IsKeymap,sd_impl_copyKeymap,sd_impl_IsKeymap,trivial⟩
theorem st_impl_SetAction:fnSt df_impl_SetAction h_impl_SetAction q_impl_SetAction=true:=by kernel_rfl
theorem sd_impl_SetAction:SoundD p_impl_SetAction D_impl_SetAction:=by unfold p_impl_SetAction;exact soundD_of (f:=df_impl_SetAction) (hs:=h_impl_SetAction) (q:=q_impl_SetAction) ob_impl_SetAction st_impl_SetAction ck_impl_SetAction (fun x h=>Eq.mp (ou_impl_SetAction x) h) (fun x=>(vu_impl_SetAction x).symm)
noncomputable def dc_laws_FnExactSetAction:DCode:=
 (.seq [7,4,2,1] (.region [oa 0 4 (.boxB 0 2 (.t 0)),
 oa 1 7 (.boxB 1 4 (.t 3)),
 oa 2 8 (.mv (.c (.bool false)))])
  (.seq [9,7,4,2,1] (.region [oi 0 9 1048576])
  (.seq [9,7,4,2,1] (.region [oa 0 20 (.loadB 0 (some 2) (.t 4)),
 om 1 21 9,
 oc 2 22 s_laws_szKeymap p_laws_szKeymap D_laws_szKeymap [(.t 20),(.t 21)],
 om 3 9 22])
  (.seq [7,4,2,1] (.seq [24,7,4,2,1] (.region [om 0 23 9,
 oa 1 24 (.bin .lss (.t 23) (.c (.int .i64 0)))])
  (.cond (.t 24) (.seq [8] (.region [oa 0 8 (.mv (.c (.bool true)))])
  .ret) .skip))
  (.seq [11,10,7,4,2,1] (.region [oa 10 10 (.allocH [(.int .i64 0),.nils]),
 oa 0 26 (.loadB 0 (some 2) (.t 4)),
 om 2 28 1,
 om 3 29 2,
 oa 4 30 (.loadB 1 (some 4) (.t 7)),
 xC 1 27 s_laws_toKeymap p_laws_toKeymap D_laws_toKeymap [(.t 26)] (rg 1),
 xC 5 31 s_laws_toAction p_laws_toAction D_laws_toAction [(.t 30)] [0,1,4],
 xC 6 32 s_spec_SetAction p_spec_SetAction D_spec_SetAction [(.t 27),(.t 28),(.t 29),(.t 31)] (rg 6),
 xA 7 25 (.mv (.t 32)) (rg 7),
 xA 8 33 (.extract (.t 25) 0) (rg 8),
 xA 9 34 (.extract (.t 25) 1) [0,1,2,3,4,5,6,7],
 xS 11 (.storeH 2 (.t 10) (.t 33)) [0,1,2,3,4,5,6,7,8,10],
 xA 12 11 (.mv (.t 34)) (rg 12)])
  (.seq [12,11,10,7,4,2,1] (.region [oa 0 35 (.loadB 0 (some 2) (.t 4)),
 oc 1 36 s_laws_toKeymap p_laws_toKeymap D_laws_toKeymap [(.t 35)],
 oa 2 12 (.allocB 2 [(.int .i64 0),.nils]),
 os 3 (.storeB 2 2 (.t 12) (.t 36))])
  (.seq [14,13,12,11,10,7,4,2,1] (.region [oa 9 13 (.allocH [(.int .i64 0),.nils]),
 oa 0 38 (.loadB 2 (some 2) (.t 12)),
 om 1 39 1,
 om 2 40 2,
 oa 3 41 (.loadB 1 (some 4) (.t 7)),
 xC 4 42 s_laws_toAction p_laws_toAction D_laws_toAction [(.t 41)] [3],
 xC 5 43 s_impl_SetAction p_impl_SetAction D_impl_SetAction [(.t 38),(.t 39),(.t 40),(.t 42)] (rg 5),
 xA 6 37 (.mv (.t 43)) (rg 6),
 xA 7 44 (.extract (.t 37) 0) (rg 7),
 xA 8 45 (.extract (.t 37) 1) [0,1,2,3,4,5,6],
 xS 10 (.storeH 2 (.t 13) (.t 44)) [0,1,2,3,4,5,6,7,9],
 xA 11 14 (.mv (.t 45)) (rg 11)])
  (.seq [14,13,12,11,10,7,4,2,1] (.seq [54,14,13,12,11,10,7,4,2,1] (.region [oa 0 46 (.loadH (some 2) (.t 13)),
 oa 1 47 (.loadH (some 2) (.t 10)),
 oc 2 48 s_laws_eqKeymap p_laws_eqKeymap D_laws_eqKeymap [(.t 46),(.t 47)],
 oa 3 49 (.un .not (.t 48)),
 om 4 50 49,
 og 5 51 (.mv (.t 14)) 50 false,
 og 6 52 (.mv (.t 11)) 50 false,
 og 7 53 (.eqB true (.t 51) (.t 52)) 50 false,
 oa 8 54 (.pick (.t 50) (.c (.bool true)) (.t 53))])
  (.cond (.t 54) (.seq [8] (.region [oa 0 8 (.mv (.c (.bool false)))])
  .ret) .skip))
  (.seq [14,13,12,11,10,7,4,2,1] (.seq [59,14,13,12,11,10,7,4,2,1] (.region [oa 0 55 (.loadB 2 (some 2) (.t 12)),
 oa 1 56 (.loadB 0 (some 2) (.t 4)),
 xC 2 57 s_laws_toKeymap p_laws_toKeymap D_laws_toKeymap [(.t 56)] [1],
 xC 3 58 s_laws_eqKeymap p_laws_eqKeymap D_laws_eqKeymap [(.t 55),(.t 57)] (rg 3),
 xA 4 59 (.un .not (.t 58)) (rg 4)])
  (.cond (.t 59) (.seq [8] (.region [oa 0 8 (.mv (.c (.bool false)))])
  .ret) .skip))
  (.seq [15,14,13,12,11,10,7,4,2,1] (.region [oi 0 15 1])
  (.seq [15,14,13,11,10,7,4,2,1] (.region [oa 0 60 (.loadB 2 (some 2) (.t 12)),
 om 1 61 15,
 ⟨2,some 62,.mark s_laws_markKeymap M_laws_markKeymap (.t 60) (.t 61),none,[]⟩,
 om 3 15 62])
  (.seq [13,11,10,7,4,2,1] (.seq [75,13,11,10,7,4,2,1] (.region [om 0 63 15,
 oa 1 64 (.bin .lss (.t 63) (.c (.int .i64 0))),
 om 2 65 64,
 og 3 66 (.loadH (some 2) (.t 13)) 65 false,
 og 4 67 (.loadH (some 2) (.t 10)) 65 false,
 ⟨5,some 68,.call false s_laws_eqKeymap p_laws_eqKeymap D_laws_eqKeymap [(.t 66),(.t 67)],(some (65,false)),[]⟩,
 og 6 69 (.un .not (.t 68)) 65 false,
 oa 7 70 (.pick (.t 65) (.c (.bool true)) (.t 69)),
 om 8 71 70,
 og 9 72 (.mv (.t 14)) 71 false,
 og 10 73 (.mv (.t 11)) 71 false,
 og 11 74 (.eqB true (.t 72) (.t 73)) 71 false,
 oa 12 75 (.pick (.t 71) (.c (.bool true)) (.t 74))])
  (.cond (.t 75) (.seq [8] (.region [oa 0 8 (.mv (.c (.bool false)))])
  .ret) .skip))
  (.seq [16,13,11,10,7,4,2,1] (.region [oi 0 16 1])
  (.seq [16,13,11,10,7,4,2,1] (.region [oa 0 76 (.loadH (some 2) (.t 13)),
 om 1 77 16,
 ⟨2,some 78,.mark s_laws_markKeymap M_laws_markKeymap (.t 76) (.t 77),none,[]⟩,
 om 3 16 78])
  (.seq [17,16,13,11,10,7,4,2,1] (.region [oi 0 17 1])
  (.seq [17,16,13,11,10,7,4,2,1] (.region [oa 0 79 (.loadH (some 2) (.t 13)),
 om 1 80 17,
 oc 2 81 s_laws_heldKeymap p_laws_heldKeymap D_laws_heldKeymap [(.t 79),(.t 80)],
 om 3 17 81])
  (.seq [17,16,13,11,10,7,4,2,1] (.seq [83,17,16,13,11,10,7,4,2,1] (.region [om 0 82 17,
 oa 1 83 (.bin .lss (.t 82) (.c (.int .i64 0)))])
  (.cond (.t 83) (.seq [8] (.region [oa 0 8 (.mv (.c (.bool false)))])
  .ret) .skip))
  (.seq [16,13,11,10,7,4,2,1] (.seq [86,16,13,11,10,7,4,2,1] (.region [om 0 84 17,
 om 1 85 16,
 oa 2 86 (.bin .neq (.t 84) (.t 85))])
  (.cond (.t 86) (.seq [8] (.region [oa 0 8 (.mv (.c (.bool false)))])
  .ret) .skip))
  (.seq [19,18,16,13,11,10] (.region [oa 10 18 (.allocH [(.int .i64 0),.nils]),
 oa 0 88 (.loadB 0 (some 2) (.t 4)),
 om 2 90 1,
 om 3 91 2,
 oa 4 92 (.loadB 1 (some 4) (.t 7)),
 xC 1 89 s_laws_toKeymap p_laws_toKeymap D_laws_toKeymap [(.t 88)] (rg 1),
 xC 5 93 s_laws_toAction p_laws_toAction D_laws_toAction [(.t 92)] [0,1,4],
 xC 6 94 s_impl_SetAction p_impl_SetAction D_impl_SetAction [(.t 89),(.t 90),(.t 91),(.t 93)] (rg 6),
 xA 7 87 (.mv (.t 94)) (rg 7),
 xA 8 95 (.extract (.t 87) 0) (rg 8),
 xA 9 96 (.extract (.t 87) 1) [0,1,2,3,4,5,6,7],
 xS 11 (.storeH 2 (.t 18) (.t 95)) [0,1,2,3,4,5,6,7,8,10],
 xA 12 19 (.mv (.t 96)) (rg 12)])
  (.seq [16,13] (.seq [105,16,13] (.region [oa 0 97 (.loadH (some 2) (.t 18)),
 oa 1 98 (.loadH (some 2) (.t 10)),
 oc 2 99 s_laws_eqKeymap p_laws_eqKeymap D_laws_eqKeymap [(.t 97),(.t 98)],
 oa 3 100 (.un .not (.t 99)),
 om 4 101 100,
 og 5 102 (.mv (.t 19)) 101 false,
 og 6 103 (.mv (.t 11)) 101 false,
 og 7 104 (.eqB true (.t 102) (.t 103)) 101 false,
 oa 8 105 (.pick (.t 101) (.c (.bool true)) (.t 104))])
  (.cond (.t 105) (.seq [8] (.region [oa 0 8 (.mv (.c (.bool false)))])
  .ret) .skip))
  (.seq [17,16,13] (.region [oi 0 17 1])
  (.seq [17,16] (.region [oa 0 106 (.loadH (some 2) (.t 13)),
 om 1 107 17,
 oc 2 108 s_laws_heldKeymap p_laws_heldKeymap D_laws_heldKeymap [(.t 106),(.t 107)],
 om 3 17 108])
  (.seq [17,16] (.seq [110,17,16] (.region [om 0 109 17,
 oa 1 110 (.bin .lss (.t 109) (.c (.int .i64 0)))])
  (.cond (.t 110) (.seq [8] (.region [oa 0 8 (.mv (.c (.bool false)))])
  .ret) .skip))
  (.seq [] (.seq [113] (.region [om 0 111 17,
 om 1 112 16,
 oa 2 113 (.bin .neq (.t 111) (.t 112))])
  (.cond (.t 113) (.seq [8] (.region [oa 0 8 (.mv (.c (.bool false)))])
  .ret) .skip))
  (.seq [8] (.region [oa 0 8 (.mv (.c (.bool true)))])
  .ret)))))))))))))))))))))))))
noncomputable def df_laws_FnExactSetAction:DFun:=⟨4,114,3,true,[.tmp 8],dc_laws_FnExactSetAction⟩
noncomputable def pf_laws_FnExactSetAction:PFun:=df_laws_FnExactSetAction.er
noncomputable def f_laws_FnExactSetAction:AFun:=pf_laws_FnExactSetAction.er
@[irreducible] noncomputable def s_laws_FnExactSetAction:CallSem:=funSem f_laws_FnExactSetAction
@[irreducible] noncomputable def p_laws_FnExactSetAction:PSem:=pfunSem pf_laws_FnExactSetAction
theorem sp_laws_FnExactSetAction:SoundP s_laws_FnExactSetAction p_laws_FnExactSetAction:=by unfold s_laws_FnExactSetAction p_laws_FnExactSetAction;exact pfun_sound (f:=pf_laws_FnExactSetAction) ⟨sp_laws_szKeymap,sp_laws_toKeymap,sp_laws_toAction,sp_spec_SetAction,sp_laws_toKeymap,sp_laws_toAction,sp_impl_SetAction,sp_laws_eqKeymap,sp_laws_toKeymap,sp_laws_eqKeymap,smk_laws_markKeymap,sp_laws_eqKeymap,smk_laws_markKeymap,sp_laws_heldKeymap,sp_laws_toKeymap,sp_laws_toAction,sp_impl_SetAction,sp_laws_eqKeymap,sp_laws_heldKeymap,trivial⟩
def h_laws_FnExactSetAction:List HT:=[.agg [(.frz,.int .i64),(.frz,.sl (.one (.sl rI4)))],.one .frz (.int .i64),.one .frz (.int .i64),.agg [(.frz,.int .i64),(.frz,.int .i64),(.frz,.int .i64),(.frz,.int .i64)]]
def q_laws_FnExactSetAction:QT:=.one (.one .own (.bool))
@[irreducible] noncomputable def v_laws_FnExactSetAction(x:(Int×(List (List (Int×Int×Int×Int))))×Int×Int×(Int×Int×Int×Int)):Bool:=(shut fun x=>fnV df_laws_FnExactSetAction h_laws_FnExactSetAction q_laws_FnExactSetAction x).1 x
@[irreducible] noncomputable def ok_laws_FnExactSetAction(x:(Int×(List (List (Int×Int×Int×Int))))×Int×Int×(Int×Int×Int×Int)):Prop:=(shut fun x=>fnOk df_laws_FnExactSetAction h_laws_FnExactSetAction q_laws_FnExactSetAction x).1 x
theorem vu_laws_FnExactSetAction (x):v_laws_FnExactSetAction x=fnV df_laws_FnExactSetAction h_laws_FnExactSetAction q_laws_FnExactSetAction x:=by unfold v_laws_FnExactSetAction;exact congrFun (shut _).2 x
theorem ou_laws_FnExactSetAction (x):ok_laws_FnExactSetAction x=fnOk df_laws_FnExactSetAction h_laws_FnExactSetAction q_laws_FnExactSetAction x:=by unfold ok_laws_FnExactSetAction;exact congrFun (shut _).2 x
theorem ck_laws_FnExactSetAction(x:(Int×(List (List (Int×Int×Int×Int))))×Int×Int×(Int×Int×Int×Int)):fnChk df_laws_FnExactSetAction h_laws_FnExactSetAction q_laws_FnExactSetAction x=true:=by kernel_rfl
theorem ob_laws_FnExactSetAction:AllD df_laws_FnExactSetAction.body.obs:=⟨sd_laws_szKeymap,sd_laws_toKeymap,sd_laws_toAction,sd_spec_SetAction,sd_laws_toKeymap,sd_laws_toAction,sd_impl_SetAction,sd_laws_eqKeymap,sd_laws_toKeymap,sd_laws_eqKeymap,sd_laws_eqKeymap,sd_laws_heldKeymap,sd_laws_toKeymap,sd_laws_toAction,sd_impl_SetAction,sd_laws_eqKeymap,sd_laws_heldKeymap,trivial⟩
theorem st_laws_FnExactSetAction:fnSt df_laws_FnExactSetAction h_laws_FnExactSetAction q_laws_FnExactSetAction=true:=by kernel_rfl
end
section
set_option maxRecDepth 100000
noncomputable def lc_spec_l6Copy_1(x:Int×(List (List (Int×Int×Int×Int))))(x0:(Int×(List (List (Int×(Int×(Int×Int))))))):Bool:=(iLt x0.1 (lLen x.2))
noncomputable def lf_spec_l6Copy_1(x:Int×(List (List (Int×Int×Int×Int))))(x0:(Int×(List (List (Int×(Int×(Int×Int))))))):(Int×(List (List (Int×(Int×(Int×Int)))))):=((iAdd .i64 x0.1 1),(lApp x0.2 [(lApp [] (lGet x.2 (iNat x0.1) []))]))
noncomputable def lp_spec_l6Copy_1(x:Int×(List (List (Int×Int×Int×Int))))(x0:(Int×(List (List (Int×(Int×(Int×Int))))))):Prop:=(((iLt x0.1 (lLen x.2))=true→((((0:Int)≤x0.1)∧(x0.1<(((List.length x.2):Int))))∧(((iNat x0.1)<(List.length x.2))∧((roomy (((List.length ([]:List (Int×(Int×(Int×Int)))))+(List.length (lGet x.2 (iNat x0.1) [])))*4))∧(roomy (((List.length x0.2)+(List.length [(lApp [] (lGet x.2 (iNat x0.1) []))]))*1))))))∧((iLt x0.1 (lLen x.2))=false→True))
theorem ve_spec_l6Copy (x):v_spec_l6Copy x=(x.1,(loopV (lc_spec_l6Copy_1 x) (lf_spec_l6Copy_1 x) (0,[])).2):=(vu_spec_l6Copy x).trans (by kernel_rfl)
theorem oe_spec_l6Copy (x):ok_spec_l6Copy x=(LoopOk (lc_spec_l6Copy_1 x) (lf_spec_l6Copy_1 x) (lp_spec_l6Copy_1 x) (0,[])):=(ou_spec_l6Copy x).trans (by kernel_rfl)
theorem ve_spec_SetAction (x):v_spec_SetAction x=(bSel (bOr (bNot (v_spec_IsKeymap x.1)) (bOr (bNot (v_spec_l1In (x.2.1,0,(iSub .i64 (lLen x.1.2) 1)))) (bNot (v_spec_l1In (x.2.2.1,0,(iSub .i64 x.1.1 1)))))) ((0,[]),false) (bSel (bNot (v_spec_IsKeymap ((v_spec_l6Copy x.1).1,(lSet (v_spec_l6Copy x.1).2 (iNat x.2.1) (lSet (lGet (v_spec_l6Copy x.1).2 (iNat x.2.1) []) (iNat x.2.2.1) x.2.2.2))))) ((0,[]),false) (((v_spec_l6Copy x.1).1,(lSet (v_spec_l6Copy x.1).2 (iNat x.2.1) (lSet (lGet (v_spec_l6Copy x.1).2 (iNat x.2.1) []) (iNat x.2.2.1) x.2.2.2))),true))):=(vu_spec_SetAction x).trans (by kernel_rfl)
theorem oe_spec_SetAction (x):ok_spec_SetAction x=(((ok_spec_IsKeymap x.1)∧(((bNot (v_spec_IsKeymap x.1))=true→True)∧((bNot (v_spec_IsKeymap x.1))=false→((ok_spec_l1In (x.2.1,0,(iSub .i64 (lLen x.1.2) 1)))∧(((bNot (v_spec_l1In (x.2.1,0,(iSub .i64 (lLen x.1.2) 1))))=true→True)∧((bNot (v_spec_l1In (x.2.1,0,(iSub .i64 (lLen x.1.2) 1))))=false→(ok_spec_l1In (x.2.2.1,0,(iSub .i64 x.1.1 1)))))))))∧(((bOr (bNot (v_spec_IsKeymap x.1)) (bOr (bNot (v_spec_l1In (x.2.1,0,(iSub .i64 (lLen x.1.2) 1)))) (bNot (v_spec_l1In (x.2.2.1,0,(iSub .i64 x.1.1 1))))))=true→True)∧((bOr (bNot (v_spec_IsKeymap x.1)) (bOr (bNot (v_spec_l1In (x.2.1,0,(iSub .i64 (lLen x.1.2) 1)))) (bNot (v_spec_l1In (x.2.2.1,0,(iSub .i64 x.1.1 1))))))=false→((ok_spec_l6Copy x.1)∧((((0:Int)≤x.2.1)∧(x.2.1<(((List.length (v_spec_l6Copy x.1).2):Int))))∧((((iNat x.2.1)<(List.length (v_spec_l6Copy x.1).2))∧((iNat x.2.1)<(List.length (v_spec_l6Copy x.1).2)))∧((((0:Int)≤x.2.2.1)∧(x.2.2.1<(((List.length (lGet (v_spec_l6Copy x.1).2 (iNat x.2.1) [])):Int))))∧((((iNat x.2.1)<(List.length (v_spec_l6Copy x.1).2))∧((iNat x.2.2.1)<(List.length (lGet (v_spec_l6Copy x.1).2 (iNat x.2.1) []))))∧(ok_spec_IsKeymap ((v_spec_l6Copy x.1).1,(lSet (v_spec_l6Copy x.1).2 (iNat x.2.1) (lSet (lGet (v_spec_l6Copy x.1).2 (iNat x.2.1) []) (iNat x.2.2.1) x.2.2.2)))))))))))):=(ou_spec_SetAction x).trans (by kernel_rfl)
noncomputable def lc_impl_copyKeymap_1(x:Int×(List (List (Int×Int×Int×Int))))(x0:(Int×(List (List (Int×(Int×(Int×Int))))))):Bool:=(iLt x0.1 (lLen x.2))
noncomputable def lf_impl_copyKeymap_1(x:Int×(List (List (Int×Int×Int×Int))))(x0:(Int×(List (List (Int×(Int×(Int×Int))))))):(Int×(List (List (Int×(Int×(Int×Int)))))):=((iAdd .i64 x0.1 1),(lApp x0.2 [(lGet x.2 (iNat x0.1) [])]))
noncomputable def lp_impl_copyKeymap_1(x:Int×(List (List (Int×Int×Int×Int))))(x0:(Int×(List (List (Int×(Int×(Int×Int))))))):Prop:=(((iLt x0.1 (lLen x.2))=true→((((0:Int)≤x0.1)∧(x0.1<(((List.length x.2):Int))))∧(((iNat x0.1)<(List.length x.2))∧((roomy ((List.length (lGet x.2 (iNat x0.1) []))*4))∧(roomy (((List.length x0.2)+(List.length [(lGet x.2 (iNat x0.1) [])]))*1))))))∧((iLt x0.1 (lLen x.2))=false→True))
theorem ve_impl_copyKeymap (x):v_impl_copyKeymap x=(x.1,(loopV (lc_impl_copyKeymap_1 x) (lf_impl_copyKeymap_1 x) (0,[])).2):=(vu_impl_copyKeymap x).trans (by kernel_rfl)
theorem oe_impl_copyKeymap (x):ok_impl_copyKeymap x=(LoopOk (lc_impl_copyKeymap_1 x) (lf_impl_copyKeymap_1 x) (lp_impl_copyKeymap_1 x) (0,[])):=(ou_impl_copyKeymap x).trans (by kernel_rfl)
theorem ve_impl_SetAction (x):v_impl_SetAction x=(bSel (bOr (bNot (v_impl_IsKeymap x.1)) (bOr (iLt x.2.1 0) (bOr (iGe x.2.1 (lLen x.1.2)) (bOr (iLt x.2.2.1 0) (iGe x.2.2.1 x.1.1))))) ((0,[]),false) (bSel (bNot (v_impl_IsKeymap ((v_impl_copyKeymap x.1).1,(lSet (v_impl_copyKeymap x.1).2 (iNat x.2.1) (lSet (lGet (v_impl_copyKeymap x.1).2 (iNat x.2.1) []) (iNat x.2.2.1) x.2.2.2))))) ((0,[]),false) (((v_impl_copyKeymap x.1).1,(lSet (v_impl_copyKeymap x.1).2 (iNat x.2.1) (lSet (lGet (v_impl_copyKeymap x.1).2 (iNat x.2.1) []) (iNat x.2.2.1) x.2.2.2))),true))):=(vu_impl_SetAction x).trans (by kernel_rfl)
theorem oe_impl_SetAction (x):ok_impl_SetAction x=((ok_impl_IsKeymap x.1)∧(((bOr (bNot (v_impl_IsKeymap x.1)) (bOr (iLt x.2.1 0) (bOr (iGe x.2.1 (lLen x.1.2)) (bOr (iLt x.2.2.1 0) (iGe x.2.2.1 x.1.1)))))=true→True)∧((bOr (bNot (v_impl_IsKeymap x.1)) (bOr (iLt x.2.1 0) (bOr (iGe x.2.1 (lLen x.1.2)) (bOr (iLt x.2.2.1 0) (iGe x.2.2.1 x.1.1)))))=false→((ok_impl_copyKeymap x.1)∧((((0:Int)≤x.2.1)∧(x.2.1<(((List.length (v_impl_copyKeymap x.1).2):Int))))∧((((iNat x.2.1)<(List.length (v_impl_copyKeymap x.1).2))∧((iNat x.2.1)<(List.length (v_impl_copyKeymap x.1).2)))∧((((0:Int)≤x.2.2.1)∧(x.2.2.1<(((List.length (lGet (v_impl_copyKeymap x.1).2 (iNat x.2.1) [])):Int))))∧((((iNat x.2.1)<(List.length (v_impl_copyKeymap x.1).2))∧((iNat x.2.2.1)<(List.length (lGet (v_impl_copyKeymap x.1).2 (iNat x.2.1) []))))∧(ok_impl_IsKeymap ((v_impl_copyKeymap x.1).1,(lSet (v_impl_copyKeymap x.1).2 (iNat x.2.1) (lSet (lGet (v_impl_copyKeymap x.1).2 (iNat x.2.1) []) (iNat x.2.2.1) x.2.2.2)))))))))))):=(ou_impl_SetAction x).trans (by kernel_rfl)
theorem ve_laws_FnExactSetAction (x):v_laws_FnExactSetAction x=(bOr (iLt (v_laws_szKeymap (x.1,1048576)) 0) (bAnd (bNot (bOr (bNot (v_laws_eqKeymap ((v_impl_SetAction ((v_laws_toKeymap x.1),x.2.1,x.2.2.1,(v_laws_toAction x.2.2.2))).1,(v_spec_SetAction ((v_laws_toKeymap x.1),x.2.1,x.2.2.1,(v_laws_toAction x.2.2.2))).1))) (bNot (bIff (v_impl_SetAction ((v_laws_toKeymap x.1),x.2.1,x.2.2.1,(v_laws_toAction x.2.2.2))).2 (v_spec_SetAction ((v_laws_toKeymap x.1),x.2.1,x.2.2.1,(v_laws_toAction x.2.2.2))).2)))) (bAnd (bNot (bNot (v_laws_eqKeymap ((v_laws_toKeymap x.1),(v_laws_toKeymap x.1))))) (bAnd (bNot (bOr (iLt (mg_laws_markKeymap (v_laws_toKeymap x.1) 1).2 0) (bOr (bNot (v_laws_eqKeymap ((v_impl_SetAction ((v_laws_toKeymap x.1),x.2.1,x.2.2.1,(v_laws_toAction x.2.2.2))).1,(v_spec_SetAction ((v_laws_toKeymap x.1),x.2.1,x.2.2.1,(v_laws_toAction x.2.2.2))).1))) (bNot (bIff (v_impl_SetAction ((v_laws_toKeymap x.1),x.2.1,x.2.2.1,(v_laws_toAction x.2.2.2))).2 (v_spec_SetAction ((v_laws_toKeymap x.1),x.2.1,x.2.2.1,(v_laws_toAction x.2.2.2))).2))))) (bAnd (bNot (iLt (v_laws_heldKeymap (((v_impl_SetAction ((v_laws_toKeymap x.1),x.2.1,x.2.2.1,(v_laws_toAction x.2.2.2))).1.1,(mg_laws_markKeymap (v_impl_SetAction ((v_laws_toKeymap x.1),x.2.1,x.2.2.1,(v_laws_toAction x.2.2.2))).1 1).1.2),1)) 0)) (bAnd (bNot (iNe (v_laws_heldKeymap (((v_impl_SetAction ((v_laws_toKeymap x.1),x.2.1,x.2.2.1,(v_laws_toAction x.2.2.2))).1.1,(mg_laws_markKeymap (v_impl_SetAction ((v_laws_toKeymap x.1),x.2.1,x.2.2.1,(v_laws_toAction x.2.2.2))).1 1).1.2),1)) (mg_laws_markKeymap (v_impl_SetAction ((v_laws_toKeymap x.1),x.2.1,x.2.2.1,(v_laws_toAction x.2.2.2))).1 1).2)) (bAnd (bNot (bOr (bNot (v_laws_eqKeymap ((v_impl_SetAction ((v_laws_toKeymap x.1),x.2.1,x.2.2.1,(v_laws_toAction x.2.2.2))).1,(v_spec_SetAction ((v_laws_toKeymap x.1),x.2.1,x.2.2.1,(v_laws_toAction x.2.2.2))).1))) (bNot (bIff (v_impl_SetAction ((v_laws_toKeymap x.1),x.2.1,x.2.2.1,(v_laws_toAction x.2.2.2))).2 (v_spec_SetAction ((v_laws_toKeymap x.1),x.2.1,x.2.2.1,(v_laws_toAction x.2.2.2))).2)))) (bAnd (bNot (iLt (v_laws_heldKeymap (((v_impl_SetAction ((v_laws_toKeymap x.1),x.2.1,x.2.2.1,(v_laws_toAction x.2.2.2))).1.1,(mg_laws_markKeymap (v_impl_SetAction ((v_laws_toKeymap x.1),x.2.1,x.2.2.1,(v_laws_toAction x.2.2.2))).1 1).1.2),1)) 0)) (bNot (iNe (v_laws_heldKeymap (((v_impl_SetAction ((v_laws_toKeymap x.1),x.2.1,x.2.2.1,(v_laws_toAction x.2.2.2))).1.1,(mg_laws_markKeymap (v_impl_SetAction ((v_laws_toKeymap x.1),x.2.1,x.2.2.1,(v_laws_toAction x.2.2.2))).1 1).1.2),1)) (mg_laws_markKeymap (v_impl_SetAction ((v_laws_toKeymap x.1),x.2.1,x.2.2.1,(v_laws_toAction x.2.2.2))).1 1).2)))))))))):=(vu_laws_FnExactSetAction x).trans (by kernel_rfl)
theorem oe_laws_FnExactSetAction (x):ok_laws_FnExactSetAction x=((ok_laws_szKeymap (x.1,1048576))∧(((iLt (v_laws_szKeymap (x.1,1048576)) 0)=true→True)∧((iLt (v_laws_szKeymap (x.1,1048576)) 0)=false→((ok_laws_toKeymap x.1)∧((ok_laws_toAction x.2.2.2)∧((ok_spec_SetAction ((v_laws_toKeymap x.1),x.2.1,x.2.2.1,(v_laws_toAction x.2.2.2)))∧((ok_laws_toKeymap x.1)∧((ok_laws_toAction x.2.2.2)∧((ok_impl_SetAction ((v_laws_toKeymap x.1),x.2.1,x.2.2.1,(v_laws_toAction x.2.2.2)))∧((ok_laws_eqKeymap ((v_impl_SetAction ((v_laws_toKeymap x.1),x.2.1,x.2.2.1,(v_laws_toAction x.2.2.2))).1,(v_spec_SetAction ((v_laws_toKeymap x.1),x.2.1,x.2.2.1,(v_laws_toAction x.2.2.2))).1))∧(((bOr (bNot (v_laws_eqKeymap ((v_impl_SetAction ((v_laws_toKeymap x.1),x.2.1,x.2.2.1,(v_laws_toAction x.2.2.2))).1,(v_spec_SetAction ((v_laws_toKeymap x.1),x.2.1,x.2.2.1,(v_laws_toAction x.2.2.2))).1))) (bNot (bIff (v_impl_SetAction ((v_laws_toKeymap x.1),x.2.1,x.2.2.1,(v_laws_toAction x.2.2.2))).2 (v_spec_SetAction ((v_laws_toKeymap x.1),x.2.1,x.2.2.1,(v_laws_toAction x.2.2.2))).2)))=true→True)∧((bOr (bNot (v_laws_eqKeymap ((v_impl_SetAction ((v_laws_toKeymap x.1),x.2.1,x.2.2.1,(v_laws_toAction x.2.2.2))).1,(v_spec_SetAction ((v_laws_toKeymap x.1),x.2.1,x.2.2.1,(v_laws_toAction x.2.2.2))).1))) (bNot (bIff (v_impl_SetAction ((v_laws_toKeymap x.1),x.2.1,x.2.2.1,(v_laws_toAction x.2.2.2))).2 (v_spec_SetAction ((v_laws_toKeymap x.1),x.2.1,x.2.2.1,(v_laws_toAction x.2.2.2))).2)))=false→((ok_laws_toKeymap x.1)∧((ok_laws_eqKeymap ((v_laws_toKeymap x.1),(v_laws_toKeymap x.1)))∧(((bNot (v_laws_eqKeymap ((v_laws_toKeymap x.1),(v_laws_toKeymap x.1))))=true→True)∧((bNot (v_laws_eqKeymap ((v_laws_toKeymap x.1),(v_laws_toKeymap x.1))))=false→((((List.length (v_laws_toKeymap x.1).2)=(List.length (v_laws_toKeymap x.1).2))∧(DMk.ok (DMk.mk (RT.cons (CT.int IntKind.i64) (RT.one (CT.sl (RT.one (CT.sl (RT.cons (CT.int IntKind.i64) (RT.cons (CT.int IntKind.i64) (RT.cons (CT.int IntKind.i64) (RT.one (CT.int IntKind.i64)))))))))) true mok_laws_markKeymap mg_laws_markKeymap false) (v_laws_toKeymap x.1)))∧((((iLt (mg_laws_markKeymap (v_laws_toKeymap x.1) 1).2 0)=true→True)∧((iLt (mg_laws_markKeymap (v_laws_toKeymap x.1) 1).2 0)=false→(ok_laws_eqKeymap ((v_impl_SetAction ((v_laws_toKeymap x.1),x.2.1,x.2.2.1,(v_laws_toAction x.2.2.2))).1,(v_spec_SetAction ((v_laws_toKeymap x.1),x.2.1,x.2.2.1,(v_laws_toAction x.2.2.2))).1))))∧(((bOr (iLt (mg_laws_markKeymap (v_laws_toKeymap x.1) 1).2 0) (bOr (bNot (v_laws_eqKeymap ((v_impl_SetAction ((v_laws_toKeymap x.1),x.2.1,x.2.2.1,(v_laws_toAction x.2.2.2))).1,(v_spec_SetAction ((v_laws_toKeymap x.1),x.2.1,x.2.2.1,(v_laws_toAction x.2.2.2))).1))) (bNot (bIff (v_impl_SetAction ((v_laws_toKeymap x.1),x.2.1,x.2.2.1,(v_laws_toAction x.2.2.2))).2 (v_spec_SetAction ((v_laws_toKeymap x.1),x.2.1,x.2.2.1,(v_laws_toAction x.2.2.2))).2))))=true→True)∧((bOr (iLt (mg_laws_markKeymap (v_laws_toKeymap x.1) 1).2 0) (bOr (bNot (v_laws_eqKeymap ((v_impl_SetAction ((v_laws_toKeymap x.1),x.2.1,x.2.2.1,(v_laws_toAction x.2.2.2))).1,(v_spec_SetAction ((v_laws_toKeymap x.1),x.2.1,x.2.2.1,(v_laws_toAction x.2.2.2))).1))) (bNot (bIff (v_impl_SetAction ((v_laws_toKeymap x.1),x.2.1,x.2.2.1,(v_laws_toAction x.2.2.2))).2 (v_spec_SetAction ((v_laws_toKeymap x.1),x.2.1,x.2.2.1,(v_laws_toAction x.2.2.2))).2))))=false→((((List.length (v_impl_SetAction ((v_laws_toKeymap x.1),x.2.1,x.2.2.1,(v_laws_toAction x.2.2.2))).1.2)=(List.length (v_impl_SetAction ((v_laws_toKeymap x.1),x.2.1,x.2.2.1,(v_laws_toAction x.2.2.2))).1.2))∧(DMk.ok (DMk.mk (RT.cons (CT.int IntKind.i64) (RT.one (CT.sl (RT.one (CT.sl (RT.cons (CT.int IntKind.i64) (RT.cons (CT.int IntKind.i64) (RT.cons (CT.int IntKind.i64) (RT.one (CT.int IntKind.i64)))))))))) true mok_laws_markKeymap mg_laws_markKeymap false) (v_impl_SetAction ((v_laws_toKeymap x.1),x.2.1,x.2.2.1,(v_laws_toAction x.2.2.2))).1))∧((ok_laws_heldKeymap (((v_impl_SetAction ((v_laws_toKeymap x.1),x.2.1,x.2.2.1,(v_laws_toAction x.2.2.2))).1.1,(mg_laws_markKeymap (v_impl_SetAction ((v_laws_toKeymap x.1),x.2.1,x.2.2.1,(v_laws_toAction x.2.2.2))).1 1).1.2),1))∧(((iLt (v_laws_heldKeymap (((v_impl_SetAction ((v_laws_toKeymap x.1),x.2.1,x.2.2.1,(v_laws_toAction x.2.2.2))).1.1,(mg_laws_markKeymap (v_impl_SetAction ((v_laws_toKeymap x.1),x.2.1,x.2.2.1,(v_laws_toAction x.2.2.2))).1 1).1.2),1)) 0)=true→True)∧((iLt (v_laws_heldKeymap (((v_impl_SetAction ((v_laws_toKeymap x.1),x.2.1,x.2.2.1,(v_laws_toAction x.2.2.2))).1.1,(mg_laws_markKeymap (v_impl_SetAction ((v_laws_toKeymap x.1),x.2.1,x.2.2.1,(v_laws_toAction x.2.2.2))).1 1).1.2),1)) 0)=false→(((iNe (v_laws_heldKeymap (((v_impl_SetAction ((v_laws_toKeymap x.1),x.2.1,x.2.2.1,(v_laws_toAction x.2.2.2))).1.1,(mg_laws_markKeymap (v_impl_SetAction ((v_laws_toKeymap x.1),x.2.1,x.2.2.1,(v_laws_toAction x.2.2.2))).1 1).1.2),1)) (mg_laws_markKeymap (v_impl_SetAction ((v_laws_toKeymap x.1),x.2.1,x.2.2.1,(v_laws_toAction x.2.2.2))).1 1).2)=true→True)∧((iNe (v_laws_heldKeymap (((v_impl_SetAction ((v_laws_toKeymap x.1),x.2.1,x.2.2.1,(v_laws_toAction x.2.2.2))).1.1,(mg_laws_markKeymap (v_impl_SetAction ((v_laws_toKeymap x.1),x.2.1,x.2.2.1,(v_laws_toAction x.2.2.2))).1 1).1.2),1)) (mg_laws_markKeymap (v_impl_SetAction ((v_laws_toKeymap x.1),x.2.1,x.2.2.1,(v_laws_toAction x.2.2.2))).1 1).2)=false→((ok_laws_toKeymap x.1)∧((ok_laws_toAction x.2.2.2)∧((ok_impl_SetAction ((v_laws_toKeymap x.1),x.2.1,x.2.2.1,(v_laws_toAction x.2.2.2)))∧((ok_laws_eqKeymap ((v_impl_SetAction ((v_laws_toKeymap x.1),x.2.1,x.2.2.1,(v_laws_toAction x.2.2.2))).1,(v_spec_SetAction ((v_laws_toKeymap x.1),x.2.1,x.2.2.1,(v_laws_toAction x.2.2.2))).1))∧(((bOr (bNot (v_laws_eqKeymap ((v_impl_SetAction ((v_laws_toKeymap x.1),x.2.1,x.2.2.1,(v_laws_toAction x.2.2.2))).1,(v_spec_SetAction ((v_laws_toKeymap x.1),x.2.1,x.2.2.1,(v_laws_toAction x.2.2.2))).1))) (bNot (bIff (v_impl_SetAction ((v_laws_toKeymap x.1),x.2.1,x.2.2.1,(v_laws_toAction x.2.2.2))).2 (v_spec_SetAction ((v_laws_toKeymap x.1),x.2.1,x.2.2.1,(v_laws_toAction x.2.2.2))).2)))=true→True)∧((bOr (bNot (v_laws_eqKeymap ((v_impl_SetAction ((v_laws_toKeymap x.1),x.2.1,x.2.2.1,(v_laws_toAction x.2.2.2))).1,(v_spec_SetAction ((v_laws_toKeymap x.1),x.2.1,x.2.2.1,(v_laws_toAction x.2.2.2))).1))) (bNot (bIff (v_impl_SetAction ((v_laws_toKeymap x.1),x.2.1,x.2.2.1,(v_laws_toAction x.2.2.2))).2 (v_spec_SetAction ((v_laws_toKeymap x.1),x.2.1,x.2.2.1,(v_laws_toAction x.2.2.2))).2)))=false→(ok_laws_heldKeymap (((v_impl_SetAction ((v_laws_toKeymap x.1),x.2.1,x.2.2.1,(v_laws_toAction x.2.2.2))).1.1,(mg_laws_markKeymap (v_impl_SetAction ((v_laws_toKeymap x.1),x.2.1,x.2.2.1,(v_laws_toAction x.2.2.2))).1 1).1.2),1)))))))))))))))))))))))))))))))))):=(ou_laws_FnExactSetAction x).trans (by kernel_rfl)
end
theorem l6Copy_id(k:Int)(x:List (List (Int×Int×Int×Int)))(hs:sm_Keymap (k,x)):ok_spec_l6Copy (k,x)∧v_spec_l6Copy (k,x)=(k,x):=by
 rw[oe_spec_l6Copy,ve_spec_l6Copy]
 obtain⟨a1,a2⟩:=copy_app (c:=lc_spec_l6Copy_1 (k,x)) (f:=lf_spec_l6Copy_1 (k,x)) (p:=lp_spec_l6Copy_1 (k,x)) x [] hs.1.1 (fun i l=>by simp[lc_spec_l6Copy_1,iLt_eq,lLen_eq])
  (fun i l _=>by simp[lf_spec_l6Copy_1,lApp_eq,lGet_eq,iNat_eq]) (fun i l hi hl=>by
   simp only[lp_spec_l6Copy_1,iLt_eq,lLen_eq,decide_eq_true_eq]
   refine⟨fun h=>?_,fun _=>trivial⟩
   have e:lGet x (iNat (i:Int)) []=x.getD i []:=by rw[lGet_eq,iNat_eq,Int.toNat_natCast]
   have h1:(x.getD i []).length≤1048576:=(hs.1.2 _ (getD_mem x i [] (by omega))).1
   have h2:x.length≤1048576:=hs.1.1
   rw[e]
   refine⟨⟨by omega,h⟩,by rw[iNat_eq];omega,by unfold roomy;simp only[List.length_nil];omega,by unfold roomy;simp only[List.length_cons,List.length_nil];omega⟩)
 exact⟨a1,by rw[a2]⟩
theorem copyKeymap_id(k:Int)(x:List (List (Int×Int×Int×Int)))(hs:sm_Keymap (k,x)):ok_impl_copyKeymap (k,x)∧v_impl_copyKeymap (k,x)=(k,x):=by
 rw[oe_impl_copyKeymap,ve_impl_copyKeymap]
 obtain⟨a1,a2⟩:=copy_app (c:=lc_impl_copyKeymap_1 (k,x)) (f:=lf_impl_copyKeymap_1 (k,x)) (p:=lp_impl_copyKeymap_1 (k,x)) x [] hs.1.1 (fun i l=>by simp[lc_impl_copyKeymap_1,iLt_eq,lLen_eq])
  (fun i l _=>by simp[lf_impl_copyKeymap_1,lApp_eq,lGet_eq,iNat_eq]) (fun i l hi hl=>by
   simp only[lp_impl_copyKeymap_1,iLt_eq,lLen_eq,decide_eq_true_eq]
   refine⟨fun h=>?_,fun _=>trivial⟩
   have e:lGet x (iNat (i:Int)) []=x.getD i []:=by rw[lGet_eq,iNat_eq,Int.toNat_natCast]
   have h1:(x.getD i []).length≤1048576:=(hs.1.2 _ (getD_mem x i [] (by omega))).1
   have h2:x.length≤1048576:=hs.1.1
   rw[e]
   refine⟨⟨by omega,h⟩,by rw[iNat_eq];omega,by unfold roomy;omega,by unfold roomy;simp only[List.length_cons,List.length_nil];omega⟩)
 exact⟨a1,by rw[a2]⟩
section
set_option maxRecDepth 20000
theorem setAction_two(k:Int)(x:List (List (Int×Int×Int×Int)))(i q:Int)(a:Int×Int×Int×Int)(hs:sm_Keymap (k,x)) :
 ok_spec_SetAction ((k,x),i,q,a)∧ok_impl_SetAction ((k,x),i,q,a)∧v_impl_SetAction ((k,x),i,q,a)=v_spec_SetAction ((k,x),i,q,a)∧sm_Keymap (v_spec_SetAction ((k,x),i,q,a)).1:=by
 obtain⟨c1,c2⟩:=l6Copy_id k x hs
 obtain⟨d1,d2⟩:=copyKeymap_id k x hs
 obtain⟨m1,m2⟩:=ok_IsKeymap_t (k,x) hs
 have hz:sm_Keymap (0,[]):=⟨⟨by simp,by simp⟩,trivial⟩
 have hl:x.length≤1048576:=hs.1.1
 rw[oe_spec_SetAction,oe_impl_SetAction,ve_spec_SetAction,ve_impl_SetAction]
 simp only[isKeymap_eq,c1,c2,d1,d2,m1,m2,ok_l1In,l1In_eq]
 have hsub:iSub .i64 (lLen x) 1=x.length-1:=by rw[lLen_eq];exact iSub_i64 (by unfold In64;omega)
 have e1:bNot (decide (0≤i)&&decide (i≤iSub .i64 (lLen x) 1))=bOr (iLt i 0) (iGe i (lLen x)):=by
  rw[hsub,iLt_eq,iGe_eq,bOr_eq,bNot_eq,lLen_eq,Bool.eq_iff_iff];simp;omega
 by_cases hk:v_impl_IsKeymap (k,x)=true
 · have hkeys:1≤k∧k≤32:=by
    rw[ve_impl_IsKeymap] at hk
    simp only[bAnd_eq,bNot_eq,bOr_eq,iLt_eq,iGt_eq,Bool.and_eq_true,Bool.or_eq_false_iff,Bool.not_eq_true',decide_eq_false_iff_not] at hk
    omega
   have e2:bNot (decide (0≤q)&&decide (q≤iSub .i64 k 1))=bOr (iLt q 0) (iGe q k):=by
    rw[iSub_i64 (by unfold In64;omega),iLt_eq,iGe_eq,bOr_eq,bNot_eq,Bool.eq_iff_iff];simp;omega
   rw[hk,e1,e2]
   generalize hc:bOr (bNot true) (bOr (iLt i 0) (bOr (iGe i (lLen x)) (bOr (iLt q 0) (iGe q k))))=C
   have hc2:bOr (bNot true) (bOr (bOr (iLt i 0) (iGe i (lLen x))) (bOr (iLt q 0) (iGe q k)))=C:=by rw[← hc];simp only[bOr_eq,bNot_eq,Bool.or_assoc]
   rw[hc2]
   cases C with
   | true=>
     refine⟨?_,?_,by simp only[bSel_t],by simp only[bSel_t];exact hz⟩<;>simp
   | false=>
     simp only[bOr_eq,bNot_eq,iLt_eq,iGe_eq,lLen_eq,Bool.or_eq_false_iff,decide_eq_false_iff_not,Bool.not_true,true_and] at hc
     obtain⟨h1,h2,h3,h4⟩:=hc
     have hi:i.toNat<x.length:=by omega
     have hrow:(lGet x (iNat i) []).length=k.toNat:=by
      have hm:=(isKeymap_ok hs hk).row i.toNat hi
      rw[lGet_eq,iNat_eq];omega
     have hq:q.toNat<k.toNat:=by omega
     have hs2:sm_Keymap (k,lSet x (iNat i) (lSet (lGet x (iNat i) []) (iNat q) a)):=by
      refine⟨⟨by rw[lSet_eq,List.length_set];exact hl,fun l hl'=>?_⟩,trivial⟩
      rw[lSet_eq] at hl'
      rcases List.mem_or_eq_of_mem_set hl' with h|h
      · exact hs.1.2 l h
      · subst h
        refine⟨by rw[lSet_eq,List.length_set,hrow];omega,fun a _=>by simp[sm_Action]⟩
     obtain⟨n1,n2⟩:=ok_IsKeymap_t _ hs2
     refine⟨?_,?_,rfl,?_⟩
     · have g1:0≤i∧i<(x.length:Int):=⟨by omega,by omega⟩
       have g2:0≤q∧q<((lGet x (iNat i) []).length:Int):=by rw[hrow];omega
       have g3:iNat i<x.length:=by rw[iNat_eq];exact hi
       have g4:iNat q<(lGet x (iNat i) []).length:=by rw[hrow,iNat_eq];exact hq
       simp[n1,g1,g2,g3,g4]
     · have g1:0≤i∧i<(x.length:Int):=⟨by omega,by omega⟩
       have g2:0≤q∧q<((lGet x (iNat i) []).length:Int):=by rw[hrow];omega
       have g3:iNat i<x.length:=by rw[iNat_eq];exact hi
       have g4:iNat q<(lGet x (iNat i) []).length:=by rw[hrow,iNat_eq];exact hq
       simp[n2,g1,g2,g3,g4]
     · simp only[bSel_f]
       rw[bSel_eq];split
       · exact hz
       · exact hs2
 · have hk:v_impl_IsKeymap (k,x)=false:=by simpa using hk
   rw[hk]
   simp only[bNot_eq,Bool.not_false,bOr_eq,Bool.true_or,bSel_t]
   refine⟨by simp,by simp,trivial,hz⟩
theorem plain_FnExactSetAction(x:(Int×List (List (Int×Int×Int×Int)))×Int×Int×Int×Int×Int×Int)(hw:TuX.wf h_laws_FnExactSetAction x):ok_laws_FnExactSetAction x∧v_laws_FnExactSetAction x=true:=by
 obtain⟨⟨k,x⟩,i,q,a⟩:=x
 rw[oe_laws_FnExactSetAction,ve_laws_FnExactSetAction]
 obtain⟨k1,k2⟩:=sz_Keymap (k,x) (wl_Keymap_of hw.1.2) 1048576 (by omega) (by omega)
 rcases k2 with k2|⟨k2,_,k3⟩
 · have e:iLt (v_laws_szKeymap ((k,x),1048576)) 0=true:=by rw[iLt_eq];simpa using k2
   simp only[e];simp[bOr_eq,k1]
 · have e:iLt (v_laws_szKeymap ((k,x),1048576)) 0=false:=by rw[iLt_eq];simpa using k2
   obtain⟨t1,t2⟩:=to_Keymap (k,x) k3
   obtain⟨s1,s2⟩:=to_Action a (by simp[sm_Action])
   obtain⟨q1,q2⟩:=eq_Keymap (k,x) (k,x) k3
   have q2:=q2.2 rfl
   obtain⟨r1,r2,r3,r4⟩:=setAction_two k x i q a k3
   obtain⟨b1,b2⟩:=eq_Keymap _ (v_spec_SetAction ((k,x),i,q,a)).1 r4
   have b3:=b2.2 rfl
   obtain⟨m1,⟨m2,m3⟩,_,_⟩:=mh_Keymap (k,x) k3 1 (by omega) (by omega)
   obtain⟨n1,⟨n2,n3⟩,n4,n5⟩:=mh_Keymap _ r4 1 (by omega) (by omega)
   have c1:iLt (mg_laws_markKeymap (k,x) 1).2 0=false:=by rw[iLt_eq];simp;omega
   have c2:iLt (mg_laws_markKeymap (v_spec_SetAction ((k,x),i,q,a)).1 1).2 0=false:=by rw[iLt_eq];simp;omega
   simp only[e,t2,s2,r3,k1,t1,s1,r1,r2,q1,q2,b1,b3,m1,n1,n4,n5,c1,c2]
   simp[bOr_eq,bAnd_eq,bNot_eq,bIff_eq,iNe_eq]
end
end Go.Ag
