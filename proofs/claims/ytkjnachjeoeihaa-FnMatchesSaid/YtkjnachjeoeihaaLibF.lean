/- Part 6 of what FnMatches needs. No conditions. -/
import Derived.Test.YtkjnachjeoeihaaLibE
namespace Go.Ag
set_option linter.unusedSimpArgs false
set_option linter.unusedVariables false
section
set_option maxRecDepth 8000
noncomputable def dc_spec_l1New:DCode:=
 (.seq [0] (.region [oa 0 2 (.mv (.c .undef))])
 (.seq [3,0] (.region [on 0 5 0,
 oa 1 6 (.len (.t 5)),
 oa 2 7 (.bin .add (.c (.int .i64 10729)) (.t 6)),
 om 3 3 7])
  (.seq [3,0] (.seq [4,3,0] (.region [oi 0 4 0])
  (.block 0 (.loop [0,3,4] 1 (.seq [4,3,0] (.seq [15,4,3,0] (.region [om 0 8 4,
 on 1 9 0,
 oa 2 10 (.len (.t 9)),
 oa 3 11 (.bin .lss (.t 8) (.t 10)),
 om 4 12 11,
 og 5 13 (.mv (.t 4)) 12 true,
 og 6 14 (.bin .lss (.t 13) (.c (.int .i64 4000))) 12 true,
 oa 7 15 (.pick (.t 12) (.t 14) (.c (.bool false)))])
  (.cond (.t 15) .skip (.exit 0)))
  (.seq [4,3,0] (.block 1 (.region [om 0 18 3,
 oa 1 19 (.bin .mul (.t 18) (.c (.int .i64 131))),
 on 2 20 0,
 om 3 21 4,
 oa 4 22 (.indexA 1 (.t 20) (.t 21)),
 oa 5 23 (.loadH none (.t 22)),
 oa 6 24 (.conv .i64 (.t 23)),
 oa 7 25 (.bin .add (.t 19) (.t 24)),
 oa 8 26 (.bin .add (.t 25) (.c (.int .i64 7))),
 oa 9 27 (.bin .and (.t 26) (.c (.int .i64 1073741823))),
 om 10 3 27]))
  (.region [om 0 16 4,
 oa 1 17 (.bin .add (.t 16) (.c (.int .i64 1))),
 om 2 4 17]))))))
  (.seq [2] (.region [om 0 28 0,
 om 1 29 3,
 oa 2 30 (.build [.nils,(.int .i64 0),(.int .i64 0)] [(0,1,(.t 28)),(2,1,(.t 29))]),
 oa 3 31 (.boxH 3 (.t 30)),
 om 4 2 31])
  .ret))))
noncomputable def df_spec_l1New:DFun:=⟨1,32,0,false,[.tmp 2],dc_spec_l1New⟩
noncomputable def pf_spec_l1New:PFun:=df_spec_l1New.er
noncomputable def f_spec_l1New:AFun:=pf_spec_l1New.er
@[irreducible] noncomputable def s_spec_l1New:CallSem:=funSem f_spec_l1New
@[irreducible] noncomputable def p_spec_l1New:PSem:=pfunSem pf_spec_l1New
theorem sp_spec_l1New:SoundP s_spec_l1New p_spec_l1New:=by unfold s_spec_l1New p_spec_l1New;exact pfun_sound (f:=pf_spec_l1New) trivial
def h_spec_l1New:List HT:=[.one .frz (.sl (.one (.int .u8)))]
def c_spec_l1New:List (Ql×CT):=[(.frz,.sl (.one (.int .u8))),(.own,.int .i64),(.own,.int .i64)]
@[irreducible] noncomputable def v_spec_l1New(x:List (Int)):List (Int)×Int×Int:=(shut fun x=>fnNV df_spec_l1New h_spec_l1New c_spec_l1New x).1 x
@[irreducible] noncomputable def ok_spec_l1New(x:List (Int)):Prop:=(shut fun x=>fnNOk df_spec_l1New h_spec_l1New c_spec_l1New x).1 x
theorem vu_spec_l1New (x):v_spec_l1New x=fnNV df_spec_l1New h_spec_l1New c_spec_l1New x:=by unfold v_spec_l1New;exact congrFun (shut _).2 x
theorem ou_spec_l1New (x):ok_spec_l1New x=fnNOk df_spec_l1New h_spec_l1New c_spec_l1New x:=by unfold ok_spec_l1New;exact congrFun (shut _).2 x
noncomputable def D_spec_l1New:DSemP:=DSemOfN h_spec_l1New c_spec_l1New ok_spec_l1New v_spec_l1New
theorem ck_spec_l1New(x:List (Int)):fnNChk df_spec_l1New h_spec_l1New c_spec_l1New x=true:=by kernel_rfl
theorem ob_spec_l1New:AllD df_spec_l1New.body.obs:=trivial
theorem st_spec_l1New:fnNSt df_spec_l1New h_spec_l1New c_spec_l1New=true:=by kernel_rfl
theorem sd_spec_l1New:SoundDP p_spec_l1New D_spec_l1New:=by unfold p_spec_l1New;exact soundDN_of (f:=df_spec_l1New) (hs:=h_spec_l1New) (cs:=c_spec_l1New) ob_spec_l1New st_spec_l1New ck_spec_l1New (fun x h=>Eq.mp (ou_spec_l1New x) h) (fun x=>(vu_spec_l1New x).symm)
noncomputable def dc_spec_l1Byte:DCode:=
 (.seq [0] (.region [oi 0 2 0])
 (.seq [0] (.region [om 0 4 0,
 om 1 5 0,
 oa 2 6 (.nilck (.t 5)),
 oa 3 7 (.fieldA 2 (.t 6)),
 oa 4 8 (.loadH none (.t 7)),
 oa 5 9 (.bin .mul (.t 8) (.c (.int .i64 6364136223846793005))),
 oa 6 10 (.bin .add (.t 9) (.c (.int .i64 1442695040888963407))),
 oa 7 11 (.nilck (.t 4)),
 oa 8 12 (.fieldA 2 (.t 11)),
 os 9 (.storeH 1 (.t 12) (.t 10))])
  (.seq [3,0] (.region [om 0 13 0,
 xA 1 14 (.nilck (.t 13)) (rg 1),
 xA 2 15 (.fieldA 2 (.t 14)) (rg 2),
 xA 3 16 (.loadH none (.t 15)) (rg 3),
 xA 4 17 (.bin .shr (.t 16) (.c (.int .u64 33))) (rg 4),
 om 5 18 0,
 xA 6 19 (.nilck (.t 18)) [5],
 xA 7 20 (.fieldA 2 (.t 19)) [5,6],
 xA 8 21 (.loadH none (.t 20)) [5,6,7],
 xA 9 22 (.bin .shr (.t 21) (.c (.int .u64 45))) [5,6,7,8],
 xA 10 23 (.bin .xor (.t 17) (.t 22)) (rg 10),
 xA 11 24 (.bin .and (.t 23) (.c (.int .i64 255))) (rg 11),
 xA 12 3 (.mv (.t 24)) (rg 12)])
  (.seq [3] (.seq [34,3,0] (.region [om 0 25 0,
 xA 1 26 (.nilck (.t 25)) (rg 1),
 xA 2 27 (.fieldA 1 (.t 26)) (rg 2),
 xA 3 28 (.loadH none (.t 27)) (rg 3),
 om 4 29 0,
 xA 5 30 (.nilck (.t 29)) [4],
 xA 6 31 (.fieldA 0 (.t 30)) [4,5],
 xA 7 32 (.loadH none (.t 31)) [4,5,6],
 xA 8 33 (.len (.t 32)) [4,5,6,7],
 xA 9 34 (.bin .lss (.t 28) (.t 33)) (rg 9)])
  (.cond (.t 34) (.seq [3,0] (.region [om 0 35 3,
 om 1 36 0,
 xA 2 37 (.nilck (.t 36)) [1],
 xA 3 38 (.fieldA 0 (.t 37)) [1,2],
 xA 4 39 (.loadH none (.t 38)) [1,2,3],
 om 5 40 0,
 xA 6 41 (.nilck (.t 40)) [5],
 xA 7 42 (.fieldA 1 (.t 41)) [5,6],
 xA 8 43 (.loadH none (.t 42)) [5,6,7],
 xA 9 44 (.indexA 1 (.t 39) (.t 43)) [1,2,3,4,5,6,7,8],
 xA 10 45 (.loadH none (.t 44)) [1,2,3,4,5,6,7,8,9],
 xA 11 46 (.conv .i64 (.t 45)) [1,2,3,4,5,6,7,8,9,10],
 xA 12 47 (.bin .add (.t 35) (.t 46)) (rg 12),
 xA 13 48 (.bin .and (.t 47) (.c (.int .i64 255))) (rg 13),
 xA 14 3 (.mv (.t 48)) (rg 14)])
  (.region [om 0 49 0,
 om 1 50 0,
 oa 2 51 (.nilck (.t 50)),
 oa 3 52 (.fieldA 1 (.t 51)),
 oa 4 53 (.loadH none (.t 52)),
 oa 5 54 (.bin .add (.t 53) (.c (.int .i64 1))),
 oa 6 55 (.nilck (.t 49)),
 oa 7 56 (.fieldA 1 (.t 55)),
 os 8 (.storeH 1 (.t 56) (.t 54))])) .skip))
  (.seq [2] (.region [om 0 57 3,
 om 1 2 57])
  .ret)))))
noncomputable def df_spec_l1Byte:DFun:=⟨1,58,0,false,[.tmp 2],dc_spec_l1Byte⟩
noncomputable def pf_spec_l1Byte:PFun:=df_spec_l1Byte.er
noncomputable def f_spec_l1Byte:AFun:=pf_spec_l1Byte.er
@[irreducible] noncomputable def s_spec_l1Byte:CallSem:=funSem f_spec_l1Byte
@[irreducible] noncomputable def p_spec_l1Byte:PSem:=pfunSem pf_spec_l1Byte
theorem sp_spec_l1Byte:SoundP s_spec_l1Byte p_spec_l1Byte:=by unfold s_spec_l1Byte p_spec_l1Byte;exact pfun_sound (f:=pf_spec_l1Byte) trivial
def h_spec_l1Byte:List HT:=[]
def c_spec_l1Byte:List (Ql×CT):=[(.frz,.sl (.one (.int .u8))),(.own,.int .i64),(.own,.int .i64)]
def q_spec_l1Byte:QT:=.one (.one .own (.int .i64))
@[irreducible] noncomputable def v_spec_l1Byte(x:List (Int)×Int×Int):Int×(Int×Int):=(shut fun x=>fnPV df_spec_l1Byte h_spec_l1Byte c_spec_l1Byte q_spec_l1Byte x).1 x
@[irreducible] noncomputable def ok_spec_l1Byte(x:List (Int)×Int×Int):Prop:=(shut fun x=>fnPOk df_spec_l1Byte h_spec_l1Byte c_spec_l1Byte q_spec_l1Byte x).1 x
theorem vu_spec_l1Byte (x):v_spec_l1Byte x=fnPV df_spec_l1Byte h_spec_l1Byte c_spec_l1Byte q_spec_l1Byte x:=by unfold v_spec_l1Byte;exact congrFun (shut _).2 x
theorem ou_spec_l1Byte (x):ok_spec_l1Byte x=fnPOk df_spec_l1Byte h_spec_l1Byte c_spec_l1Byte q_spec_l1Byte x:=by unfold ok_spec_l1Byte;exact congrFun (shut _).2 x
noncomputable def D_spec_l1Byte:DSemP:=DSemOfP h_spec_l1Byte c_spec_l1Byte q_spec_l1Byte ok_spec_l1Byte v_spec_l1Byte
theorem ck_spec_l1Byte(x:List (Int)×Int×Int):fnPChk df_spec_l1Byte h_spec_l1Byte c_spec_l1Byte q_spec_l1Byte x=true:=by kernel_rfl
theorem ob_spec_l1Byte:AllD df_spec_l1Byte.body.obs:=trivial
theorem st_spec_l1Byte:fnPSt df_spec_l1Byte h_spec_l1Byte c_spec_l1Byte=true:=by kernel_rfl
theorem sd_spec_l1Byte:SoundDP p_spec_l1Byte D_spec_l1Byte:=by unfold p_spec_l1Byte;exact soundDP_of (f:=df_spec_l1Byte) (hs:=h_spec_l1Byte) (cs:=c_spec_l1Byte) (q:=q_spec_l1Byte) ob_spec_l1Byte st_spec_l1Byte ck_spec_l1Byte (fun x h=>Eq.mp (ou_spec_l1Byte x) h) (fun x=>(vu_spec_l1Byte x).symm)
noncomputable def dc_spec_l1Below:DCode:=
 (.seq [1,0] (.region [oi 0 4 0])
 (.seq [1,0] (.seq [10,1,0] (.region [om 0 9 1,
 oa 1 10 (.bin .leq (.t 9) (.c (.int .i64 0)))])
  (.cond (.t 10) (.seq [4] (.region [oi 0 4 0])
  .ret) .skip))
  (.seq [1,0] (.seq [12,1,0] (.region [om 0 11 1,
 oa 1 12 (.bin .leq (.t 11) (.c (.int .i64 256)))])
  (.cond (.t 12) (.seq [4] (.region [om 0 13 0,
 op 1 14 s_spec_l1Byte p_spec_l1Byte D_spec_l1Byte [(.t 13)],
 om 2 15 1,
 oa 3 16 (.bin .rem (.t 14) (.t 15)),
 om 4 4 16])
  .ret) .skip))
  (.seq [5,1,0] (.region [om 0 17 0,
 op 1 18 s_spec_l1Byte p_spec_l1Byte D_spec_l1Byte [(.t 17)],
 om 2 5 18])
  (.seq [6,5,1,0] (.region [om 0 19 0,
 op 1 20 s_spec_l1Byte p_spec_l1Byte D_spec_l1Byte [(.t 19)],
 om 2 6 20])
  (.seq [7,6,5,1,0] (.region [om 0 21 0,
 op 1 22 s_spec_l1Byte p_spec_l1Byte D_spec_l1Byte [(.t 21)],
 om 2 7 22])
  (.seq [8,7,6,5,1] (.region [om 0 23 0,
 op 1 24 s_spec_l1Byte p_spec_l1Byte D_spec_l1Byte [(.t 23)],
 om 2 8 24])
  (.seq [4] (.region [om 0 25 5,
 oa 1 26 (.bin .mul (.t 25) (.c (.int .i64 16777216))),
 om 2 27 6,
 oa 3 28 (.bin .mul (.t 27) (.c (.int .i64 65536))),
 oa 4 29 (.bin .add (.t 26) (.t 28)),
 om 5 30 7,
 oa 6 31 (.bin .mul (.t 30) (.c (.int .i64 256))),
 oa 7 32 (.bin .add (.t 29) (.t 31)),
 om 8 33 8,
 oa 9 34 (.bin .add (.t 32) (.t 33)),
 om 10 35 1,
 oa 11 36 (.bin .rem (.t 34) (.t 35)),
 om 12 4 36])
  .ret))))))))
noncomputable def df_spec_l1Below:DFun:=⟨2,37,0,false,[.tmp 4],dc_spec_l1Below⟩
noncomputable def pf_spec_l1Below:PFun:=df_spec_l1Below.er
noncomputable def f_spec_l1Below:AFun:=pf_spec_l1Below.er
@[irreducible] noncomputable def s_spec_l1Below:CallSem:=funSem f_spec_l1Below
@[irreducible] noncomputable def p_spec_l1Below:PSem:=pfunSem pf_spec_l1Below
theorem sp_spec_l1Below:SoundP s_spec_l1Below p_spec_l1Below:=by unfold s_spec_l1Below p_spec_l1Below;exact pfun_sound (f:=pf_spec_l1Below) ⟨sp_spec_l1Byte,sp_spec_l1Byte,sp_spec_l1Byte,sp_spec_l1Byte,sp_spec_l1Byte,trivial⟩
def h_spec_l1Below:List HT:=[.one .frz (.int .i64)]
def c_spec_l1Below:List (Ql×CT):=[(.frz,.sl (.one (.int .u8))),(.own,.int .i64),(.own,.int .i64)]
def q_spec_l1Below:QT:=.one (.one .own (.int .i64))
@[irreducible] noncomputable def v_spec_l1Below(x:(List (Int)×Int×Int)×Int):Int×(Int×Int):=(shut fun x=>fnPV df_spec_l1Below h_spec_l1Below c_spec_l1Below q_spec_l1Below x).1 x
@[irreducible] noncomputable def ok_spec_l1Below(x:(List (Int)×Int×Int)×Int):Prop:=(shut fun x=>fnPOk df_spec_l1Below h_spec_l1Below c_spec_l1Below q_spec_l1Below x).1 x
theorem vu_spec_l1Below (x):v_spec_l1Below x=fnPV df_spec_l1Below h_spec_l1Below c_spec_l1Below q_spec_l1Below x:=by unfold v_spec_l1Below;exact congrFun (shut _).2 x
theorem ou_spec_l1Below (x):ok_spec_l1Below x=fnPOk df_spec_l1Below h_spec_l1Below c_spec_l1Below q_spec_l1Below x:=by unfold ok_spec_l1Below;exact congrFun (shut _).2 x
noncomputable def D_spec_l1Below:DSemP:=DSemOfP h_spec_l1Below c_spec_l1Below q_spec_l1Below ok_spec_l1Below v_spec_l1Below
theorem ck_spec_l1Below(x:(List (Int)×Int×Int)×Int):fnPChk df_spec_l1Below h_spec_l1Below c_spec_l1Below q_spec_l1Below x=true:=by kernel_rfl
theorem ob_spec_l1Below:AllD df_spec_l1Below.body.obs:=⟨sd_spec_l1Byte,sd_spec_l1Byte,sd_spec_l1Byte,sd_spec_l1Byte,sd_spec_l1Byte,trivial⟩
theorem st_spec_l1Below:fnPSt df_spec_l1Below h_spec_l1Below c_spec_l1Below=true:=by kernel_rfl
theorem sd_spec_l1Below:SoundDP p_spec_l1Below D_spec_l1Below:=by unfold p_spec_l1Below;exact soundDP_of (f:=df_spec_l1Below) (hs:=h_spec_l1Below) (cs:=c_spec_l1Below) (q:=q_spec_l1Below) ob_spec_l1Below st_spec_l1Below ck_spec_l1Below (fun x h=>Eq.mp (ou_spec_l1Below x) h) (fun x=>(vu_spec_l1Below x).symm)
noncomputable def dc_spec_l1Once:DCode:=
 (.seq [1,0] (.region [oa 0 4 (.mv (.c (.bool false)))])
 (.seq [4] (.region [om 0 5 0,
 om 1 6 1,
 op 2 7 s_spec_l1Below p_spec_l1Below D_spec_l1Below [(.t 5),(.t 6)],
 oa 3 8 (.bin .eql (.t 7) (.c (.int .i64 0))),
 om 4 4 8])
  .ret))
noncomputable def df_spec_l1Once:DFun:=⟨2,9,0,false,[.tmp 4],dc_spec_l1Once⟩
noncomputable def pf_spec_l1Once:PFun:=df_spec_l1Once.er
noncomputable def f_spec_l1Once:AFun:=pf_spec_l1Once.er
@[irreducible] noncomputable def s_spec_l1Once:CallSem:=funSem f_spec_l1Once
@[irreducible] noncomputable def p_spec_l1Once:PSem:=pfunSem pf_spec_l1Once
theorem sp_spec_l1Once:SoundP s_spec_l1Once p_spec_l1Once:=by unfold s_spec_l1Once p_spec_l1Once;exact pfun_sound (f:=pf_spec_l1Once) ⟨sp_spec_l1Below,trivial⟩
def h_spec_l1Once:List HT:=[.one .frz (.int .i64)]
def c_spec_l1Once:List (Ql×CT):=[(.frz,.sl (.one (.int .u8))),(.own,.int .i64),(.own,.int .i64)]
def q_spec_l1Once:QT:=.one (.one .own (.bool))
@[irreducible] noncomputable def v_spec_l1Once(x:(List (Int)×Int×Int)×Int):Bool×(Int×Int):=(shut fun x=>fnPV df_spec_l1Once h_spec_l1Once c_spec_l1Once q_spec_l1Once x).1 x
@[irreducible] noncomputable def ok_spec_l1Once(x:(List (Int)×Int×Int)×Int):Prop:=(shut fun x=>fnPOk df_spec_l1Once h_spec_l1Once c_spec_l1Once q_spec_l1Once x).1 x
theorem vu_spec_l1Once (x):v_spec_l1Once x=fnPV df_spec_l1Once h_spec_l1Once c_spec_l1Once q_spec_l1Once x:=by unfold v_spec_l1Once;exact congrFun (shut _).2 x
theorem ou_spec_l1Once (x):ok_spec_l1Once x=fnPOk df_spec_l1Once h_spec_l1Once c_spec_l1Once q_spec_l1Once x:=by unfold ok_spec_l1Once;exact congrFun (shut _).2 x
noncomputable def D_spec_l1Once:DSemP:=DSemOfP h_spec_l1Once c_spec_l1Once q_spec_l1Once ok_spec_l1Once v_spec_l1Once
theorem ck_spec_l1Once(x:(List (Int)×Int×Int)×Int):fnPChk df_spec_l1Once h_spec_l1Once c_spec_l1Once q_spec_l1Once x=true:=by kernel_rfl
theorem ob_spec_l1Once:AllD df_spec_l1Once.body.obs:=⟨sd_spec_l1Below,trivial⟩
theorem st_spec_l1Once:fnPSt df_spec_l1Once h_spec_l1Once c_spec_l1Once=true:=by kernel_rfl
theorem sd_spec_l1Once:SoundDP p_spec_l1Once D_spec_l1Once:=by unfold p_spec_l1Once;exact soundDP_of (f:=df_spec_l1Once) (hs:=h_spec_l1Once) (cs:=c_spec_l1Once) (q:=q_spec_l1Once) ob_spec_l1Once st_spec_l1Once ck_spec_l1Once (fun x h=>Eq.mp (ou_spec_l1Once x) h) (fun x=>(vu_spec_l1Once x).symm)
noncomputable def dc_spec_l1PickInt:DCode:=
 (.seq [1,0] (.region [oi 0 4 0])
 (.seq [4] (.region [on 0 5 1,
 om 1 6 0,
 on 2 7 1,
 oa 3 8 (.len (.t 7)),
 op 4 9 s_spec_l1Below p_spec_l1Below D_spec_l1Below [(.t 6),(.t 8)],
 oa 5 10 (.indexA 1 (.t 5) (.t 9)),
 ob 6 11 (.loadH none (.t 10)),
 om 7 4 11])
  .ret))
noncomputable def df_spec_l1PickInt:DFun:=⟨2,12,0,false,[.tmp 4],dc_spec_l1PickInt⟩
noncomputable def pf_spec_l1PickInt:PFun:=df_spec_l1PickInt.er
noncomputable def f_spec_l1PickInt:AFun:=pf_spec_l1PickInt.er
@[irreducible] noncomputable def s_spec_l1PickInt:CallSem:=funSem f_spec_l1PickInt
@[irreducible] noncomputable def p_spec_l1PickInt:PSem:=pfunSem pf_spec_l1PickInt
theorem sp_spec_l1PickInt:SoundP s_spec_l1PickInt p_spec_l1PickInt:=by unfold s_spec_l1PickInt p_spec_l1PickInt;exact pfun_sound (f:=pf_spec_l1PickInt) ⟨sp_spec_l1Below,trivial⟩
def h_spec_l1PickInt:List HT:=[.one .frz (.sl (.one (.int .i64)))]
def c_spec_l1PickInt:List (Ql×CT):=[(.frz,.sl (.one (.int .u8))),(.own,.int .i64),(.own,.int .i64)]
def q_spec_l1PickInt:QT:=.one (.one .own (.int .i64))
@[irreducible] noncomputable def v_spec_l1PickInt(x:(List (Int)×Int×Int)×List (Int)):Int×(Int×Int):=(shut fun x=>fnPV df_spec_l1PickInt h_spec_l1PickInt c_spec_l1PickInt q_spec_l1PickInt x).1 x
@[irreducible] noncomputable def ok_spec_l1PickInt(x:(List (Int)×Int×Int)×List (Int)):Prop:=(shut fun x=>fnPOk df_spec_l1PickInt h_spec_l1PickInt c_spec_l1PickInt q_spec_l1PickInt x).1 x
theorem vu_spec_l1PickInt (x):v_spec_l1PickInt x=fnPV df_spec_l1PickInt h_spec_l1PickInt c_spec_l1PickInt q_spec_l1PickInt x:=by unfold v_spec_l1PickInt;exact congrFun (shut _).2 x
theorem ou_spec_l1PickInt (x):ok_spec_l1PickInt x=fnPOk df_spec_l1PickInt h_spec_l1PickInt c_spec_l1PickInt q_spec_l1PickInt x:=by unfold ok_spec_l1PickInt;exact congrFun (shut _).2 x
noncomputable def D_spec_l1PickInt:DSemP:=DSemOfP h_spec_l1PickInt c_spec_l1PickInt q_spec_l1PickInt ok_spec_l1PickInt v_spec_l1PickInt
theorem ck_spec_l1PickInt(x:(List (Int)×Int×Int)×List (Int)):fnPChk df_spec_l1PickInt h_spec_l1PickInt c_spec_l1PickInt q_spec_l1PickInt x=true:=by kernel_rfl
theorem ob_spec_l1PickInt:AllD df_spec_l1PickInt.body.obs:=⟨sd_spec_l1Below,trivial⟩
theorem st_spec_l1PickInt:fnPSt df_spec_l1PickInt h_spec_l1PickInt c_spec_l1PickInt=true:=by kernel_rfl
theorem sd_spec_l1PickInt:SoundDP p_spec_l1PickInt D_spec_l1PickInt:=by unfold p_spec_l1PickInt;exact soundDP_of (f:=df_spec_l1PickInt) (hs:=h_spec_l1PickInt) (cs:=c_spec_l1PickInt) (q:=q_spec_l1PickInt) ob_spec_l1PickInt st_spec_l1PickInt ck_spec_l1PickInt (fun x h=>Eq.mp (ou_spec_l1PickInt x) h) (fun x=>(vu_spec_l1PickInt x).symm)
noncomputable def dc_laws_big:DCode:=
 (.seq [0] (.region [oa 0 2 (.mv (.c (.bool false)))])
 (.seq [2] (.region [on 0 3 0,
 oa 1 4 (.len (.t 3)),
 oa 2 5 (.bin .gtr (.t 4) (.c (.int .i64 1048576))),
 om 3 2 5])
  .ret))
noncomputable def df_laws_big:DFun:=⟨1,6,0,true,[.tmp 2],dc_laws_big⟩
noncomputable def pf_laws_big:PFun:=df_laws_big.er
noncomputable def f_laws_big:AFun:=pf_laws_big.er
@[irreducible] noncomputable def s_laws_big:CallSem:=funSem f_laws_big
@[irreducible] noncomputable def p_laws_big:PSem:=pfunSem pf_laws_big
theorem sp_laws_big:SoundP s_laws_big p_laws_big:=by unfold s_laws_big p_laws_big;exact pfun_sound (f:=pf_laws_big) trivial
def h_laws_big:List HT:=[.one .frz (.sl (.one (.int .u8)))]
def q_laws_big:QT:=.one (.one .own (.bool))
@[irreducible] noncomputable def v_laws_big(x:List (Int)):Bool:=(shut fun x=>fnV df_laws_big h_laws_big q_laws_big x).1 x
@[irreducible] noncomputable def ok_laws_big(x:List (Int)):Prop:=(shut fun x=>fnOk df_laws_big h_laws_big q_laws_big x).1 x
theorem vu_laws_big (x):v_laws_big x=fnV df_laws_big h_laws_big q_laws_big x:=by unfold v_laws_big;exact congrFun (shut _).2 x
theorem ou_laws_big (x):ok_laws_big x=fnOk df_laws_big h_laws_big q_laws_big x:=by unfold ok_laws_big;exact congrFun (shut _).2 x
noncomputable def D_laws_big:DSem:=DSemOf h_laws_big q_laws_big ok_laws_big v_laws_big
theorem ck_laws_big(x:List (Int)):fnChk df_laws_big h_laws_big q_laws_big x=true:=by kernel_rfl
theorem ob_laws_big:AllD df_laws_big.body.obs:=trivial
theorem st_laws_big:fnSt df_laws_big h_laws_big q_laws_big=true:=by kernel_rfl
theorem sd_laws_big:SoundD p_laws_big D_laws_big:=by unfold p_laws_big;exact soundD_of (f:=df_laws_big) (hs:=h_laws_big) (q:=q_laws_big) ob_laws_big st_laws_big ck_laws_big (fun x h=>Eq.mp (ou_laws_big x) h) (fun x=>(vu_laws_big x).symm)
end
section
set_option maxRecDepth 100000
noncomputable def lc_spec_l1New_1(x:List (Int))(x0:(Int×Int)):Bool:=(bAnd (iLt x0.2 (lLen x)) (iLt x0.2 4000))
noncomputable def lf_spec_l1New_1(x:List (Int))(x0:(Int×Int)):(Int×Int):=((iAnd .i64 (iAdd .i64 (iAdd .i64 (iMul .i64 x0.1 131) (iConv .i64 (lGet x (iNat x0.2) 0))) 7) 1073741823),(iAdd .i64 x0.2 1))
noncomputable def lp_spec_l1New_1(x:List (Int))(x0:(Int×Int)):Prop:=(((bAnd (iLt x0.2 (lLen x)) (iLt x0.2 4000))=true→((((0:Int)≤x0.2)∧(x0.2<(((List.length x):Int))))∧((iNat x0.2)<(List.length x))))∧((bAnd (iLt x0.2 (lLen x)) (iLt x0.2 4000))=false→True))
theorem ve_spec_l1New (x):v_spec_l1New x=(x,0,(loopV (lc_spec_l1New_1 x) (lf_spec_l1New_1 x) ((iAdd .i64 10729 (lLen x)),0)).1):=(vu_spec_l1New x).trans (by kernel_rfl)
theorem oe_spec_l1New (x):ok_spec_l1New x=(LoopOk (lc_spec_l1New_1 x) (lf_spec_l1New_1 x) (lp_spec_l1New_1 x) ((iAdd .i64 10729 (lLen x)),0)):=(ou_spec_l1New x).trans (by kernel_rfl)
theorem ve_spec_l1Byte (x):v_spec_l1Byte x=((bSel (iLt x.2.1 (lLen x.1)) (iAnd .i64 (iAdd .i64 (iAnd .i64 (iXor .i64 (iShr .i64 (iAdd .i64 (iMul .i64 x.2.2 6364136223846793005) 1442695040888963407) 33) (iShr .i64 (iAdd .i64 (iMul .i64 x.2.2 6364136223846793005) 1442695040888963407) 45)) 255) (iConv .i64 (lGet x.1 (iNat x.2.1) 0))) 255) (iAnd .i64 (iXor .i64 (iShr .i64 (iAdd .i64 (iMul .i64 x.2.2 6364136223846793005) 1442695040888963407) 33) (iShr .i64 (iAdd .i64 (iMul .i64 x.2.2 6364136223846793005) 1442695040888963407) 45)) 255)),(bSel (iLt x.2.1 (lLen x.1)) (iAdd .i64 x.2.1 1) x.2.1),(iAdd .i64 (iMul .i64 x.2.2 6364136223846793005) 1442695040888963407)):=(vu_spec_l1Byte x).trans (by kernel_rfl)
theorem oe_spec_l1Byte (x):ok_spec_l1Byte x=(((0:Int)≤33)∧(((0:Int)≤45)∧(((iLt x.2.1 (lLen x.1))=true→((((0:Int)≤x.2.1)∧(x.2.1<(((List.length x.1):Int))))∧((iNat x.2.1)<(List.length x.1))))∧((iLt x.2.1 (lLen x.1))=false→True)))):=(ou_spec_l1Byte x).trans (by kernel_rfl)
theorem ve_spec_l1Below (x):v_spec_l1Below x=(bSel (iLe x.2 0) (0,x.1.2) (bSel (iLe x.2 256) ((iRem (v_spec_l1Byte x.1).1 x.2),(v_spec_l1Byte x.1).2) ((iRem (iAdd .i64 (iAdd .i64 (iAdd .i64 (iMul .i64 (v_spec_l1Byte x.1).1 16777216) (iMul .i64 (v_spec_l1Byte (x.1.1,(v_spec_l1Byte x.1).2)).1 65536)) (iMul .i64 (v_spec_l1Byte (x.1.1,(v_spec_l1Byte (x.1.1,(v_spec_l1Byte x.1).2)).2)).1 256)) (v_spec_l1Byte (x.1.1,(v_spec_l1Byte (x.1.1,(v_spec_l1Byte (x.1.1,(v_spec_l1Byte x.1).2)).2)).2)).1) x.2),(v_spec_l1Byte (x.1.1,(v_spec_l1Byte (x.1.1,(v_spec_l1Byte (x.1.1,(v_spec_l1Byte x.1).2)).2)).2)).2))):=(vu_spec_l1Below x).trans (by kernel_rfl)
theorem oe_spec_l1Below (x):ok_spec_l1Below x=(((iLe x.2 0)=true→True)∧((iLe x.2 0)=false→(((iLe x.2 256)=true→((ok_spec_l1Byte x.1)∧(x.2≠0)))∧((iLe x.2 256)=false→((ok_spec_l1Byte x.1)∧((ok_spec_l1Byte (x.1.1,(v_spec_l1Byte x.1).2))∧((ok_spec_l1Byte (x.1.1,(v_spec_l1Byte (x.1.1,(v_spec_l1Byte x.1).2)).2))∧((ok_spec_l1Byte (x.1.1,(v_spec_l1Byte (x.1.1,(v_spec_l1Byte (x.1.1,(v_spec_l1Byte x.1).2)).2)).2))∧(x.2≠0))))))))):=(ou_spec_l1Below x).trans (by kernel_rfl)
theorem ve_spec_l1Once (x):v_spec_l1Once x=((iEq (v_spec_l1Below x).1 0),(v_spec_l1Below x).2):=(vu_spec_l1Once x).trans (by kernel_rfl)
theorem oe_spec_l1Once (x):ok_spec_l1Once x=(ok_spec_l1Below x):=(ou_spec_l1Once x).trans (by kernel_rfl)
theorem ve_spec_l1PickInt (x):v_spec_l1PickInt x=((lGet x.2 (iNat (v_spec_l1Below (x.1,(lLen x.2))).1) 0),(v_spec_l1Below (x.1,(lLen x.2))).2):=(vu_spec_l1PickInt x).trans (by kernel_rfl)
theorem oe_spec_l1PickInt (x):ok_spec_l1PickInt x=((ok_spec_l1Below (x.1,(lLen x.2)))∧((((0:Int)≤(v_spec_l1Below (x.1,(lLen x.2))).1)∧((v_spec_l1Below (x.1,(lLen x.2))).1<(((List.length x.2):Int))))∧((iNat (v_spec_l1Below (x.1,(lLen x.2))).1)<(List.length x.2)))):=(ou_spec_l1PickInt x).trans (by kernel_rfl)
theorem ve_laws_big (x):v_laws_big x=(iGt (lLen x) 1048576):=(vu_laws_big x).trans (by kernel_rfl)
theorem oe_laws_big (x):ok_laws_big x=True:=(ou_laws_big x).trans (by kernel_rfl)
end
def CurOk(c:List Int×Int×Int):Prop:=0≤c.2.1∧c.2.1≤c.1.length∧c.1.length≤1048576
theorem and255(x:Int):0≤iAnd .i64 x 255∧iAnd .i64 x 255≤255:=by
 rw[iAnd_u]
 have h:(BitVec.ofInt IntKind.i64.bits x &&& BitVec.ofInt IntKind.i64.bits 255).toNat≤255:=by
  rw[BitVec.toNat_and]
  exact Nat.and_le_right
 have:IntKind.i64.wrap ((BitVec.ofInt IntKind.i64.bits x &&& BitVec.ofInt IntKind.i64.bits 255).toNat:Int)=((BitVec.ofInt IntKind.i64.bits x &&& BitVec.ofInt IntKind.i64.bits 255).toNat:Int):=wrap_i64 (by unfold In64;omega)
 rw[this];omega
theorem byte_ok(c:List Int×Int×Int)(h:CurOk c):ok_spec_l1Byte c∧0≤(v_spec_l1Byte c).1∧(v_spec_l1Byte c).1≤255∧CurOk (c.1,(v_spec_l1Byte c).2):=by
 obtain⟨h1,h2,h3⟩:=h
 rw[oe_spec_l1Byte,ve_spec_l1Byte]
 simp only[bSel_eq,iLt_eq,lLen_eq,iNat_eq,decide_eq_true_eq,decide_eq_false_iff_not]
 refine⟨⟨by omega,by omega,fun _=>by omega,fun _=>trivial⟩,?_,?_,?_⟩
 · split
   · exact(and255 _).1
   · exact(and255 _).1
 · split
   · exact(and255 _).2
   · exact(and255 _).2
 · unfold CurOk
   simp only
   split
   · rw[iAdd_i64 (by unfold In64;omega)];omega
   · omega
theorem below_ok(c:List Int×Int×Int)(n:Int)(h:CurOk c):ok_spec_l1Below (c,n)∧CurOk (c.1,(v_spec_l1Below (c,n)).2)∧(n≤0→(v_spec_l1Below (c,n)).1=0)∧(0<n→0≤(v_spec_l1Below (c,n)).1∧(v_spec_l1Below (c,n)).1<n):=by
 rw[oe_spec_l1Below,ve_spec_l1Below]
 obtain⟨a1,a2,a3,a4⟩:=byte_ok c h
 obtain⟨b1,b2,b3,b4⟩:=byte_ok _ a4
 obtain⟨c1,c2,c3,c4⟩:=byte_ok _ b4
 obtain⟨d1,d2,d3,d4⟩:=byte_ok _ c4
 simp only at b1 b2 b3 b4 c1 c2 c3 c4 d1 d2 d3 d4 ⊢
 simp only[bSel_eq,iLe_eq,decide_eq_true_eq,decide_eq_false_iff_not]
 by_cases hn:n≤0
 · simp only[if_pos hn]
   exact⟨⟨fun _=>trivial,fun h=>absurd hn h⟩,h,fun _=>trivial,fun h=>by omega⟩
 · simp only[if_neg hn]
   by_cases hm:n≤256
   · simp only[if_pos hm]
     refine⟨⟨fun h=>absurd h hn,fun _=>⟨fun _=>⟨a1,by omega⟩,fun h=>absurd hm h⟩⟩,a4,fun h=>absurd h hn,fun _=>?_⟩
     rw[iRem_nn a2]
     exact⟨Int.emod_nonneg _ (by omega),Int.emod_lt_of_pos _ (by omega)⟩
   · simp only[if_neg hm]
     refine⟨⟨fun h=>absurd h hn,fun _=>⟨fun h=>absurd h hm,fun _=>⟨a1,b1,c1,d1,by omega⟩⟩⟩,d4,fun h=>absurd h hn,fun _=>?_⟩
     generalize (v_spec_l1Byte c).1=p at a2 a3
     generalize (v_spec_l1Byte (c.1,(v_spec_l1Byte c).2)).1=q at b2 b3
     generalize (v_spec_l1Byte (c.1,(v_spec_l1Byte (c.1,(v_spec_l1Byte c).2)).2)).1=r at c2 c3
     generalize (v_spec_l1Byte (c.1,(v_spec_l1Byte (c.1,(v_spec_l1Byte (c.1,(v_spec_l1Byte c).2)).2)).2)).1=s at d2 d3
     rw[iMul_i64 (a:=p) (by unfold In64;omega),iMul_i64 (a:=q) (by unfold In64;omega),iMul_i64 (a:=r) (by unfold In64;omega),iAdd_i64 (a:=p*16777216) (by unfold In64;omega),iAdd_i64 (a:=p*16777216+q*65536) (by unfold In64;omega),iAdd_i64 (a:=p*16777216+q*65536+r*256) (by unfold In64;omega),iRem_nn (by omega)]
     exact⟨Int.emod_nonneg _ (by omega),Int.emod_lt_of_pos _ (by omega)⟩
theorem once_ok(c:List Int×Int×Int)(n:Int)(h:CurOk c):ok_spec_l1Once (c,n)∧CurOk (c.1,(v_spec_l1Once (c,n)).2):=by
 obtain⟨a1,a2,_⟩:=below_ok c n h
 rw[oe_spec_l1Once,ve_spec_l1Once]
 exact⟨a1,a2⟩
theorem pick_ok(c:List Int×Int×Int)(l:List Int)(hl:0<l.length)(h:CurOk c):ok_spec_l1PickInt (c,l)∧CurOk (c.1,(v_spec_l1PickInt (c,l)).2)∧(v_spec_l1PickInt (c,l)).1∈l:=by
 obtain⟨a1,a2,_,a4⟩:=below_ok c (lLen l) h
 rw[oe_spec_l1PickInt,ve_spec_l1PickInt]
 have a4:=a4 (by rw[lLen_eq];omega)
 simp only
 generalize (v_spec_l1Below (c,lLen l)).1=i at a4 ⊢
 rw[lLen_eq] at a4
 refine⟨⟨a1,a4,by rw[iNat_eq];omega⟩,a2,?_⟩
 rw[lGet_eq,iNat_eq]
 exact getD_mem l _ _ (by omega)
theorem new_ok(x:List Int)(h:x.length≤1048576):ok_spec_l1New x∧CurOk (v_spec_l1New x)∧(v_spec_l1New x).1=x:=by
 rw[oe_spec_l1New,ve_spec_l1New]
 refine⟨?_,⟨by simp,by simp,h⟩,rfl⟩
 refine cnt_ok (fun st=>st.2) x.length (by omega) (fun st _ _ hc=>?_) (fun _=>rfl) (fun st h0 h1=>?_) (by simp) (by simp)
 · unfold lc_spec_l1New_1 at hc
   simp only[bAnd_eq,iLt_eq,lLen_eq,Bool.and_eq_true,decide_eq_true_eq] at hc
   exact hc.1
 · unfold lp_spec_l1New_1
   refine⟨fun hc=>?_,fun _=>trivial⟩
   simp only[bAnd_eq,iLt_eq,lLen_eq,Bool.and_eq_true,decide_eq_true_eq] at hc
   rw[iNat_eq];omega
theorem big_eq(x:List Int):v_laws_big x=decide (1048576<x.length)∧ok_laws_big x:=by
 rw[ve_laws_big,oe_laws_big]
 refine⟨?_,trivial⟩
 rw[iGt_eq,lLen_eq]
 congr 1
 exact propext (by omega)
section
set_option maxRecDepth 8000
noncomputable def dc_spec_IsEvents:DCode:=
 (.seq [0] (.region [oa 0 2 (.mv (.c (.bool false)))])
 (.seq [3,0] (.region [oi 0 3 0])
 (.seq [0] (.seq [4,3,0] (.region [oi 0 4 0])
 (.block 0 (.loop [0,3,4] 1 (.seq [4,3,0] (.seq [8,4,3,0] (.region [om 0 5 4,
 on 1 6 0,
 oa 2 7 (.len (.t 6)),
 oa 3 8 (.bin .lss (.t 5) (.t 7))])
  (.cond (.t 8) .skip (.exit 0)))
  (.seq [4,3,0] (.block 1 (.seq [4,3,0] (.seq [51,4,3,0] (.region [on 0 11 0,
 om 1 12 4,
 xA 2 13 (.indexA 3 (.t 11) (.t 12)) (rg 2),
 xA 3 14 (.loadH (some 3) (.t 13)) (rg 3),
 xC 4 15 s_spec_IsEvent p_spec_IsEvent D_spec_IsEvent [(.t 14)] (rg 4),
 xA 5 16 (.un .not (.t 15)) (rg 5),
 xA 6 17 (.mv (.t 16)) (rg 6),
 ⟨7,some 18,.a false (.mv (.t 4)) none,(some (17,false)),[0,1,2,3,4,5,6]⟩,
 ⟨8,some 19,.a false (.bin .gtr (.t 18) (.c (.int .i64 0))) none,(some (17,false)),[0,1,2,3,4,5,6,7]⟩,
 ⟨9,some 20,.a false (.mv (.t 19)) none,(some (17,false)),[0,1,2,3,4,5,6,7,8]⟩,
 ⟨10,some 21,.a true (.mv (.t 0)) none,(some (20,true)),[0,1,2,3,4,5,6,7,8,9]⟩,
 ⟨11,some 22,.a false (.mv (.t 4)) none,(some (20,true)),[0,1,2,3,4,5,6,7,8,9]⟩,
 ⟨12,some 23,.a false (.indexA 3 (.t 21) (.t 22)) none,(some (20,true)),[0,1,2,3,4,5,6,7,8,9,10,11]⟩,
 ⟨13,some 24,.a false (.fieldA 0 (.t 23)) none,(some (20,true)),[0,1,2,3,4,5,6,7,8,9,10,11,12]⟩,
 ⟨14,some 25,.a false (.loadH none (.t 24)) none,(some (20,true)),[0,1,2,3,4,5,6,7,8,9,10,11,12,13]⟩,
 ⟨15,some 26,.a true (.mv (.t 0)) none,(some (20,true)),[0,1,2,3,4,5,6,7,8,9]⟩,
 ⟨16,some 27,.a false (.mv (.t 4)) none,(some (20,true)),[0,1,2,3,4,5,6,7,8,9]⟩,
 ⟨17,some 28,.a false (.bin .sub (.t 27) (.c (.int .i64 1))) none,(some (20,true)),[0,1,2,3,4,5,6,7,8,9,16]⟩,
 ⟨18,some 29,.a false (.indexA 3 (.t 26) (.t 28)) none,(some (20,true)),[0,1,2,3,4,5,6,7,8,9,15,16,17]⟩,
 ⟨19,some 30,.a false (.fieldA 0 (.t 29)) none,(some (20,true)),[0,1,2,3,4,5,6,7,8,9,15,16,17,18]⟩,
 ⟨20,some 31,.a false (.loadH none (.t 30)) none,(some (20,true)),[0,1,2,3,4,5,6,7,8,9,15,16,17,18,19]⟩,
 ⟨21,some 32,.a false (.bin .lss (.t 25) (.t 31)) none,(some (20,true)),[0,1,2,3,4,5,6,7,8,9,10,11,12,13,14,15,16,17,18,19,20]⟩,
 ⟨22,some 33,.a false (.pick (.t 20) (.t 32) (.c (.bool false))) none,(some (17,false)),[0,1,2,3,4,5,6,7,8,9,10,11,12,13,14,15,16,17,18,19,20,21]⟩,
 xA 23 34 (.pick (.t 17) (.c (.bool true)) (.t 33)) (rg 23),
 xA 24 35 (.mv (.t 34)) (rg 24),
 ⟨25,some 36,.a true (.mv (.t 0)) none,(some (35,false)),[0,1,2,3,4,5,6,7,8,9,10,11,12,13,14,15,16,17,18,19,20,21,22,23,24]⟩,
 ⟨26,some 37,.a false (.mv (.t 4)) none,(some (35,false)),[0,1,2,3,4,5,6,7,8,9,10,11,12,13,14,15,16,17,18,19,20,21,22,23,24]⟩,
 ⟨27,some 38,.a false (.indexA 3 (.t 36) (.t 37)) none,(some (35,false)),[0,1,2,3,4,5,6,7,8,9,10,11,12,13,14,15,16,17,18,19,20,21,22,23,24,25,26]⟩,
 ⟨28,some 39,.a false (.fieldA 2 (.t 38)) none,(some (35,false)),[0,1,2,3,4,5,6,7,8,9,10,11,12,13,14,15,16,17,18,19,20,21,22,23,24,25,26,27]⟩,
 ⟨29,some 40,.a false (.loadH none (.t 39)) none,(some (35,false)),[0,1,2,3,4,5,6,7,8,9,10,11,12,13,14,15,16,17,18,19,20,21,22,23,24,25,26,27,28]⟩,
 ⟨30,some 41,.a false (.mv (.t 3)) none,(some (35,false)),[0,1,2,3,4,5,6,7,8,9,10,11,12,13,14,15,16,17,18,19,20,21,22,23,24]⟩,
 ⟨31,some 42,.a true (.mv (.t 0)) none,(some (35,false)),[0,1,2,3,4,5,6,7,8,9,10,11,12,13,14,15,16,17,18,19,20,21,22,23,24]⟩,
 ⟨32,some 43,.a false (.mv (.t 4)) none,(some (35,false)),[0,1,2,3,4,5,6,7,8,9,10,11,12,13,14,15,16,17,18,19,20,21,22,23,24]⟩,
 ⟨33,some 44,.a false (.indexA 3 (.t 42) (.t 43)) none,(some (35,false)),[0,1,2,3,4,5,6,7,8,9,10,11,12,13,14,15,16,17,18,19,20,21,22,23,24,31,32]⟩,
 ⟨34,some 45,.a false (.fieldA 1 (.t 44)) none,(some (35,false)),[0,1,2,3,4,5,6,7,8,9,10,11,12,13,14,15,16,17,18,19,20,21,22,23,24,31,32,33]⟩,
 ⟨35,some 46,.a false (.loadH none (.t 45)) none,(some (35,false)),[0,1,2,3,4,5,6,7,8,9,10,11,12,13,14,15,16,17,18,19,20,21,22,23,24,31,32,33,34]⟩,
 ⟨36,some 47,.a false (.bin .shr (.t 41) (.t 46)) none,(some (35,false)),[0,1,2,3,4,5,6,7,8,9,10,11,12,13,14,15,16,17,18,19,20,21,22,23,24,30,31,32,33,34,35]⟩,
 ⟨37,some 48,.a false (.bin .and (.t 47) (.c (.int .i64 1))) none,(some (35,false)),[0,1,2,3,4,5,6,7,8,9,10,11,12,13,14,15,16,17,18,19,20,21,22,23,24,30,31,32,33,34,35,36]⟩,
 ⟨38,some 49,.a false (.bin .eql (.t 48) (.c (.int .i64 1))) none,(some (35,false)),[0,1,2,3,4,5,6,7,8,9,10,11,12,13,14,15,16,17,18,19,20,21,22,23,24,30,31,32,33,34,35,36,37]⟩,
 ⟨39,some 50,.a false (.eqB false (.t 40) (.t 49)) none,(some (35,false)),[0,1,2,3,4,5,6,7,8,9,10,11,12,13,14,15,16,17,18,19,20,21,22,23,24,25,26,27,28,29,30,31,32,33,34,35,36,37,38]⟩,
 xA 40 51 (.pick (.t 35) (.c (.bool true)) (.t 50)) (rg 40)])
  (.cond (.t 51) (.seq [2] (.region [oa 0 2 (.mv (.c (.bool false)))])
  .ret) .skip))
  (.region [om 0 52 3,
 on 1 53 0,
 om 2 54 4,
 oa 3 55 (.indexA 3 (.t 53) (.t 54)),
 oa 4 56 (.fieldA 1 (.t 55)),
 oa 5 57 (.loadH none (.t 56)),
 oa 6 58 (.bin .shl (.c (.int .i64 1)) (.t 57)),
 oa 7 59 (.bin .xor (.t 52) (.t 58)),
 om 8 3 59])))
  (.region [om 0 9 4,
 oa 1 10 (.bin .add (.t 9) (.c (.int .i64 1))),
 om 2 4 10]))))))
  (.seq [2] (.region [on 0 60 0,
 oa 1 61 (.len (.t 60)),
 oa 2 62 (.bin .leq (.t 61) (.c (.int .i64 64))),
 om 3 2 62])
  .ret))))
noncomputable def df_spec_IsEvents:DFun:=⟨1,63,0,true,[.tmp 2],dc_spec_IsEvents⟩
noncomputable def pf_spec_IsEvents:PFun:=df_spec_IsEvents.er
noncomputable def f_spec_IsEvents:AFun:=pf_spec_IsEvents.er
@[irreducible] noncomputable def s_spec_IsEvents:CallSem:=funSem f_spec_IsEvents
@[irreducible] noncomputable def p_spec_IsEvents:PSem:=pfunSem pf_spec_IsEvents
theorem sp_spec_IsEvents:SoundP s_spec_IsEvents p_spec_IsEvents:=by unfold s_spec_IsEvents p_spec_IsEvents;exact pfun_sound (f:=pf_spec_IsEvents) ⟨sp_spec_IsEvent,trivial⟩
def h_spec_IsEvents:List HT:=[.one .frz (.sl (.cons (.int .i64) (.cons (.int .i64) (.one (.bool)))))]
def q_spec_IsEvents:QT:=.one (.one .own (.bool))
@[irreducible] noncomputable def v_spec_IsEvents(x:List (Int×Int×Bool)):Bool:=(shut fun x=>fnV df_spec_IsEvents h_spec_IsEvents q_spec_IsEvents x).1 x
@[irreducible] noncomputable def ok_spec_IsEvents(x:List (Int×Int×Bool)):Prop:=(shut fun x=>fnOk df_spec_IsEvents h_spec_IsEvents q_spec_IsEvents x).1 x
theorem vu_spec_IsEvents (x):v_spec_IsEvents x=fnV df_spec_IsEvents h_spec_IsEvents q_spec_IsEvents x:=by unfold v_spec_IsEvents;exact congrFun (shut _).2 x
theorem ou_spec_IsEvents (x):ok_spec_IsEvents x=fnOk df_spec_IsEvents h_spec_IsEvents q_spec_IsEvents x:=by unfold ok_spec_IsEvents;exact congrFun (shut _).2 x
noncomputable def D_spec_IsEvents:DSem:=DSemOf h_spec_IsEvents q_spec_IsEvents ok_spec_IsEvents v_spec_IsEvents
theorem ck_spec_IsEvents(x:List (Int×Int×Bool)):fnChk df_spec_IsEvents h_spec_IsEvents q_spec_IsEvents x=true:=by kernel_rfl
theorem ob_spec_IsEvents:AllD df_spec_IsEvents.body.obs:=⟨sd_spec_IsEvent,trivial⟩
theorem st_spec_IsEvents:fnSt df_spec_IsEvents h_spec_IsEvents q_spec_IsEvents=true:=by kernel_rfl
theorem sd_spec_IsEvents:SoundD p_spec_IsEvents D_spec_IsEvents:=by unfold p_spec_IsEvents;exact soundD_of (f:=df_spec_IsEvents) (hs:=h_spec_IsEvents) (q:=q_spec_IsEvents) ob_spec_IsEvents st_spec_IsEvents ck_spec_IsEvents (fun x h=>Eq.mp (ou_spec_IsEvents x) h) (fun x=>(vu_spec_IsEvents x).symm)
end
section
set_option maxRecDepth 100000
noncomputable def lc_spec_IsEvents_1(x:List (Int×Int×Bool))(x0:(Int×Int)):Bool:=(bAnd (iLt x0.2 (lLen x)) (bNot (bOr (bNot (v_spec_IsEvent (lGet x (iNat x0.2) (0,0,false)))) (bSel (iGt x0.2 0) (bOr (iLt (lGet x (iNat x0.2) (0,0,false)).1 (lGet x (iNat (iSub .i64 x0.2 1)) (0,0,false)).1) (bIff (lGet x (iNat x0.2) (0,0,false)).2.2 (iEq (iAnd .i64 (iShr .i64 x0.1 (lGet x (iNat x0.2) (0,0,false)).2.1) 1) 1))) (bIff (lGet x (iNat x0.2) (0,0,false)).2.2 (iEq (iAnd .i64 (iShr .i64 x0.1 (lGet x (iNat x0.2) (0,0,false)).2.1) 1) 1))))))
noncomputable def lf_spec_IsEvents_1(x:List (Int×Int×Bool))(x0:(Int×Int)):(Int×Int):=((iXor .i64 x0.1 (iShl .i64 1 (lGet x (iNat x0.2) (0,0,false)).2.1)),(iAdd .i64 x0.2 1))
noncomputable def lp_spec_IsEvents_1(x:List (Int×Int×Bool))(x0:(Int×Int)):Prop:=(((iLt x0.2 (lLen x))=true→(((((0:Int)≤x0.2)∧(x0.2<(((List.length x):Int))))∧(((iNat x0.2)<(List.length x))∧((ok_spec_IsEvent (lGet x (iNat x0.2) (0,0,false)))∧(((bNot (v_spec_IsEvent (lGet x (iNat x0.2) (0,0,false))))=true→True)∧((bNot (v_spec_IsEvent (lGet x (iNat x0.2) (0,0,false))))=false→(((iGt x0.2 0)=true→((((0:Int)≤x0.2)∧(x0.2<(((List.length x):Int))))∧(((iNat x0.2)<(List.length x))∧((((0:Int)≤(iSub .i64 x0.2 1))∧((iSub .i64 x0.2 1)<(((List.length x):Int))))∧(((iNat (iSub .i64 x0.2 1))<(List.length x))∧(((iLt (lGet x (iNat x0.2) (0,0,false)).1 (lGet x (iNat (iSub .i64 x0.2 1)) (0,0,false)).1)=true→True)∧((iLt (lGet x (iNat x0.2) (0,0,false)).1 (lGet x (iNat (iSub .i64 x0.2 1)) (0,0,false)).1)=false→((((0:Int)≤x0.2)∧(x0.2<(((List.length x):Int))))∧(((iNat x0.2)<(List.length x))∧((((0:Int)≤x0.2)∧(x0.2<(((List.length x):Int))))∧(((iNat x0.2)<(List.length x))∧((0:Int)≤(lGet x (iNat x0.2) (0,0,false)).2.1))))))))))))∧((iGt x0.2 0)=false→((((0:Int)≤x0.2)∧(x0.2<(((List.length x):Int))))∧(((iNat x0.2)<(List.length x))∧((((0:Int)≤x0.2)∧(x0.2<(((List.length x):Int))))∧(((iNat x0.2)<(List.length x))∧((0:Int)≤(lGet x (iNat x0.2) (0,0,false)).2.1))))))))))))∧(((bOr (bNot (v_spec_IsEvent (lGet x (iNat x0.2) (0,0,false)))) (bSel (iGt x0.2 0) (bOr (iLt (lGet x (iNat x0.2) (0,0,false)).1 (lGet x (iNat (iSub .i64 x0.2 1)) (0,0,false)).1) (bIff (lGet x (iNat x0.2) (0,0,false)).2.2 (iEq (iAnd .i64 (iShr .i64 x0.1 (lGet x (iNat x0.2) (0,0,false)).2.1) 1) 1))) (bIff (lGet x (iNat x0.2) (0,0,false)).2.2 (iEq (iAnd .i64 (iShr .i64 x0.1 (lGet x (iNat x0.2) (0,0,false)).2.1) 1) 1))))=true→True)∧((bOr (bNot (v_spec_IsEvent (lGet x (iNat x0.2) (0,0,false)))) (bSel (iGt x0.2 0) (bOr (iLt (lGet x (iNat x0.2) (0,0,false)).1 (lGet x (iNat (iSub .i64 x0.2 1)) (0,0,false)).1) (bIff (lGet x (iNat x0.2) (0,0,false)).2.2 (iEq (iAnd .i64 (iShr .i64 x0.1 (lGet x (iNat x0.2) (0,0,false)).2.1) 1) 1))) (bIff (lGet x (iNat x0.2) (0,0,false)).2.2 (iEq (iAnd .i64 (iShr .i64 x0.1 (lGet x (iNat x0.2) (0,0,false)).2.1) 1) 1))))=false→((((0:Int)≤x0.2)∧(x0.2<(((List.length x):Int))))∧(((iNat x0.2)<(List.length x))∧((0:Int)≤(lGet x (iNat x0.2) (0,0,false)).2.1)))))))∧((iLt x0.2 (lLen x))=false→True))
theorem ve_spec_IsEvents (x):v_spec_IsEvents x=(bAnd (bNot (iLt (loopV (lc_spec_IsEvents_1 x) (lf_spec_IsEvents_1 x) (0,0)).2 (lLen x))) (iLe (lLen x) 64)):=(vu_spec_IsEvents x).trans (by kernel_rfl)
theorem oe_spec_IsEvents (x):ok_spec_IsEvents x=(LoopOk (lc_spec_IsEvents_1 x) (lf_spec_IsEvents_1 x) (lp_spec_IsEvents_1 x) (0,0)):=(ou_spec_IsEvents x).trans (by kernel_rfl)
end
abbrev Ev:=Int×Int×Bool
theorem drop_cons{α:Type}(l:List α)(i:Nat)(d:α)(h:i<l.length):l.drop i=l.getD i d::l.drop (i+1):=by
 rw[List.getD_eq_getElem?_getD,List.getElem?_eq_getElem h]
 exact List.drop_eq_getElem_cons h
theorem isEvents_s{l:List Ev}(hl:l.length≤1048576)(h:v_spec_IsEvents l=true):(∀ e∈l,v_impl_IsEvent e=true)∧l.Pairwise (fun a b=>a.1≤b.1):=by
 rw[ve_spec_IsEvents] at h
 simp only[bAnd_eq,bNot_eq,iLt_eq,iLe_eq,lLen_eq,Bool.and_eq_true,Bool.not_eq_true',decide_eq_false_iff_not,decide_eq_true_eq] at h
 have key:=loop_inv_v (c:=lc_spec_IsEvents_1 l) (f:=lf_spec_IsEvents_1 l) (fun st=>0≤st.2∧st.2≤l.length∧∀ j:Nat,(j:Int)<st.2→v_impl_IsEvent (l.getD j (0,0,false))=true∧∀ i:Nat,i≤j→(l.getD i (0,0,false)).1≤(l.getD j (0,0,false)).1) (fun st=>(l.length-st.2).toNat) (fun st ⟨i0,i1,i2⟩ hc=>by
  obtain⟨d,i⟩:=st
  unfold lc_spec_IsEvents_1 at hc
  simp only[bAnd_eq,bOr_eq,bNot_eq,bSel_eq,iLt_eq,iGt_eq,lLen_eq,lGet_eq,iNat_eq,isEvent_eq,Bool.and_eq_true,decide_eq_true_eq,Bool.not_eq_true',Bool.or_eq_false_iff,Bool.not_eq_false'] at hc i0 i1 i2
  obtain⟨c1,c2,c3⟩:=hc
  have hi:iAdd .i64 i 1=i+1:=iAdd_i64 (by unfold In64;omega)
  unfold lf_spec_IsEvents_1
  simp only[hi]
  refine⟨⟨by omega,by omega,fun j hj=>?_⟩,by omega⟩
  by_cases hji:(j:Int)<i
  · exact i2 j hji
  · have hje:j=i.toNat:=by omega
    subst hje
    refine⟨c2,fun k hk=>?_⟩
    by_cases hki:k=i.toNat
    · rw[hki];exact Int.le_refl _
    · have hpos:0<i:=by omega
      rw[if_pos hpos] at c3
      simp only[Bool.or_eq_false_iff,decide_eq_false_iff_not] at c3
      have hs:iSub .i64 i 1=i-1:=iSub_i64 (by unfold In64;omega)
      rw[hs] at c3
      have:=(i2 (i-1).toNat (by omega)).2 k (by omega)
      have c3:=c3.1
      omega) (x0:=(0,0)) ⟨by simp,by simp,fun j hj=>by simp only at hj;omega⟩
 obtain⟨⟨i0,i1,i2⟩,_⟩:=key
 have hn:(loopV (lc_spec_IsEvents_1 l) (lf_spec_IsEvents_1 l) (0,0)).2=l.length:=by omega
 rw[hn] at i2
 refine⟨fun e he=>?_,?_⟩
 · obtain⟨j,hj,rfl⟩:=List.getElem_of_mem he
   have:=(i2 j (by omega)).1
   rwa [List.getD_eq_getElem?_getD,List.getElem?_eq_getElem hj] at this
 · rw[List.pairwise_iff_getElem]
   intro i j hi hj hij
   have:=(i2 j (by omega)).2 i (by omega)
   rwa [List.getD_eq_getElem?_getD,List.getElem?_eq_getElem hi,List.getD_eq_getElem?_getD,List.getElem?_eq_getElem hj] at this
theorem isEvents_ok{l:List Ev}(hl:l.length≤1048576):ok_spec_IsEvents l:=by
 rw[oe_spec_IsEvents]
 refine cnt_ok (fun st=>st.2) l.length (by omega) (fun st _ _ hc=>?_) (fun _=>rfl) (fun st h0 h1=>?_) (by simp) (by simp)
 · unfold lc_spec_IsEvents_1 at hc
   simp only[bAnd_eq,iLt_eq,lLen_eq,Bool.and_eq_true,decide_eq_true_eq] at hc
   exact hc.1
 · unfold lp_spec_IsEvents_1
   refine⟨fun hc=>?_,fun _=>trivial⟩
   rw[iLt_eq,lLen_eq,decide_eq_true_eq] at hc
   have a1:iNat st.2<l.length:=by rw[iNat_eq];omega
   have ke:bNot (v_spec_IsEvent (lGet l (iNat st.2) (0,0,false)))=false→0≤(lGet l (iNat st.2) (0,0,false)).2.1:=fun he=>by
    rw[bNot_eq,Bool.not_eq_false',isEvent_eq] at he
    exact isEvent_key he
   refine⟨⟨⟨h0,hc⟩,a1,(ok_isEvent _).1,fun _=>trivial,fun he=>⟨fun hp=>?_,fun _=>⟨⟨h0,hc⟩,a1,⟨h0,hc⟩,a1,ke he⟩⟩⟩,fun _=>trivial,fun hb=>⟨⟨h0,hc⟩,a1,ke ?_⟩⟩
   · rw[iGt_eq,decide_eq_true_eq] at hp
     have hs:iSub .i64 st.2 1=st.2-1:=iSub_i64 (by unfold In64;omega)
     rw[hs]
     exact⟨⟨h0,hc⟩,a1,⟨by omega,by omega⟩,by rw[iNat_eq];omega,fun _=>trivial,fun _=>⟨⟨h0,hc⟩,a1,⟨h0,hc⟩,a1,ke he⟩⟩
   · rw[bOr_eq,Bool.or_eq_false_iff] at hb;exact hb.1
section
set_option maxRecDepth 8000
noncomputable def dc_spec_l11Combos:DCode:=
 (.seq [0] (.region [oa 0 2 (.mv (.c .nils))])
 (.seq [3,0] (.region [⟨0,some 7,.a false (.litSlice 1 10 [(.int .i64 0),(.int .i64 0),(.int .i64 0),(.int .i64 0),(.int .i64 0),(.int .i64 0),(.int .i64 0),(.int .i64 0),(.int .i64 0),(.int .i64 0)] [(0,1,(.c (.int .i64 3))),(1,1,(.c (.int .i64 5))),(2,1,(.c (.int .i64 6))),(3,1,(.c (.int .i64 7))),(4,1,(.c (.int .i64 12))),(5,1,(.c (.int .i64 24))),(6,1,(.c (.int .i64 9))),(7,1,(.c (.int .i64 11))),(8,1,(.c (.int .i64 14))),(9,1,(.c (.int .i64 15)))]) (some (.one (.int .i64))),none,[]⟩,
 on 1 3 7])
  (.seq [4,3,0] (.region [⟨0,some 8,.a false (.litSlice 2 0 [] []) (some (.cons (.int .i64) (.one (.int .i64)))),none,[]⟩,
 om 1 4 8])
  (.seq [5,4,3,0] (.region [om 0 9 0,
 op 1 10 s_spec_l1Below p_spec_l1Below D_spec_l1Below [(.t 9),(.c (.int .i64 4))],
 om 2 5 10])
  (.seq [4] (.seq [6,5,4,3,0] (.region [om 0 11 0,
 op 1 12 s_spec_l1Below p_spec_l1Below D_spec_l1Below [(.t 11),(.c (.int .i64 5))],
 om 2 6 12])
  (.block 0 (.loop [0,3,4,5,6] 1 (.seq [6,5,4,3,0] (.seq [20,6,5,4,3,0] (.region [om 0 13 6,
 oa 1 14 (.bin .gtr (.t 13) (.c (.int .i64 0))),
 om 2 15 14,
 og 3 16 (.mv (.t 5)) 15 true,
 ⟨4,some 17,.a true (.mv (.t 3)) none,(some (15,true)),[]⟩,
 og 5 18 (.len (.t 17)) 15 true,
 og 6 19 (.bin .lss (.t 16) (.t 18)) 15 true,
 oa 7 20 (.pick (.t 15) (.t 19) (.c (.bool false)))])
  (.cond (.t 20) .skip (.exit 0)))
  (.seq [6,5,4,3,0] (.block 1 (.seq [6,5,4,3,0] (.region [on 0 23 4,
 on 1 24 3,
 om 2 25 5,
 oa 3 26 (.indexA 1 (.t 24) (.t 25)),
 ob 4 27 (.loadH none (.t 26)),
 on 5 28 4,
 oa 6 29 (.len (.t 28)),
 oa 7 30 (.bin .add (.c (.int .i64 24)) (.t 29)),
 oa 8 31 (.build [(.int .i64 0),(.int .i64 0)] [(0,1,(.t 27)),(1,1,(.t 30))]),
 ⟨9,some 32,.a false (.litSlice 2 1 [(.int .i64 0),(.int .i64 0)] [(0,2,(.t 31))]) (some (.cons (.int .i64) (.one (.int .i64)))),none,[]⟩,
 oa 10 33 (.app 2 (.t 23) (.t 32)),
 om 11 4 33])
  (.region [om 0 34 5,
 oa 1 35 (.bin .add (.t 34) (.c (.int .i64 1))),
 om 2 36 0,
 op 3 37 s_spec_l1Below p_spec_l1Below D_spec_l1Below [(.t 36),(.c (.int .i64 3))],
 oa 4 38 (.bin .add (.t 35) (.t 37)),
 om 5 5 38])))
  (.region [om 0 21 6,
 oa 1 22 (.bin .sub (.t 21) (.c (.int .i64 1))),
 om 2 6 22]))))))
  (.seq [2] (.region [om 0 39 4,
 om 1 2 39])
  .ret))))))
noncomputable def df_spec_l11Combos:DFun:=⟨1,40,0,false,[.tmp 2],dc_spec_l11Combos⟩
noncomputable def pf_spec_l11Combos:PFun:=df_spec_l11Combos.er
noncomputable def f_spec_l11Combos:AFun:=pf_spec_l11Combos.er
@[irreducible] noncomputable def s_spec_l11Combos:CallSem:=funSem f_spec_l11Combos
@[irreducible] noncomputable def p_spec_l11Combos:PSem:=pfunSem pf_spec_l11Combos
theorem sp_spec_l11Combos:SoundP s_spec_l11Combos p_spec_l11Combos:=by unfold s_spec_l11Combos p_spec_l11Combos;exact pfun_sound (f:=pf_spec_l11Combos) ⟨sp_spec_l1Below,sp_spec_l1Below,sp_spec_l1Below,trivial⟩
def h_spec_l11Combos:List HT:=[]
def c_spec_l11Combos:List (Ql×CT):=[(.frz,.sl (.one (.int .u8))),(.own,.int .i64),(.own,.int .i64)]
def q_spec_l11Combos:QT:=.one (.one .own (.sl (.cons (.int .i64) (.one (.int .i64)))))
@[irreducible] noncomputable def v_spec_l11Combos(x:List (Int)×Int×Int):(List (Int×Int))×(Int×Int):=(shut fun x=>fnPV df_spec_l11Combos h_spec_l11Combos c_spec_l11Combos q_spec_l11Combos x).1 x
@[irreducible] noncomputable def ok_spec_l11Combos(x:List (Int)×Int×Int):Prop:=(shut fun x=>fnPOk df_spec_l11Combos h_spec_l11Combos c_spec_l11Combos q_spec_l11Combos x).1 x
theorem vu_spec_l11Combos (x):v_spec_l11Combos x=fnPV df_spec_l11Combos h_spec_l11Combos c_spec_l11Combos q_spec_l11Combos x:=by unfold v_spec_l11Combos;exact congrFun (shut _).2 x
theorem ou_spec_l11Combos (x):ok_spec_l11Combos x=fnPOk df_spec_l11Combos h_spec_l11Combos c_spec_l11Combos q_spec_l11Combos x:=by unfold ok_spec_l11Combos;exact congrFun (shut _).2 x
noncomputable def D_spec_l11Combos:DSemP:=DSemOfP h_spec_l11Combos c_spec_l11Combos q_spec_l11Combos ok_spec_l11Combos v_spec_l11Combos
theorem ck_spec_l11Combos(x:List (Int)×Int×Int):fnPChk df_spec_l11Combos h_spec_l11Combos c_spec_l11Combos q_spec_l11Combos x=true:=by kernel_rfl
theorem ob_spec_l11Combos:AllD df_spec_l11Combos.body.obs:=⟨sd_spec_l1Below,sd_spec_l1Below,sd_spec_l1Below,trivial⟩
theorem st_spec_l11Combos:fnPSt df_spec_l11Combos h_spec_l11Combos c_spec_l11Combos=true:=by kernel_rfl
theorem sd_spec_l11Combos:SoundDP p_spec_l11Combos D_spec_l11Combos:=by unfold p_spec_l11Combos;exact soundDP_of (f:=df_spec_l11Combos) (hs:=h_spec_l11Combos) (cs:=c_spec_l11Combos) (q:=q_spec_l11Combos) ob_spec_l11Combos st_spec_l11Combos ck_spec_l11Combos (fun x h=>Eq.mp (ou_spec_l11Combos x) h) (fun x=>(vu_spec_l11Combos x).symm)
noncomputable def dc_spec_l11Keys:DCode:=
 (.seq [1,0] (.region [oi 0 4 0])
 (.seq [] (.seq [5,1,0] (.region [oi 0 5 0])
 (.block 0 (.loop [0,1,5] 1 (.seq [5,1,0] (.seq [9,5,1,0] (.region [om 0 6 5,
 on 1 7 0,
 oa 2 8 (.len (.t 7)),
 oa 3 9 (.bin .lss (.t 6) (.t 8))])
  (.cond (.t 9) .skip (.exit 0)))
  (.seq [5,1,0] (.block 1 (.seq [18,5,1,0] (.region [on 0 12 0,
 om 1 13 5,
 oa 2 14 (.indexA 2 (.t 12) (.t 13)),
 oa 3 15 (.fieldA 1 (.t 14)),
 oa 4 16 (.loadH none (.t 15)),
 om 5 17 1,
 oa 6 18 (.bin .eql (.t 16) (.t 17))])
  (.cond (.t 18) (.seq [4] (.region [on 0 19 0,
 om 1 20 5,
 oa 2 21 (.indexA 2 (.t 19) (.t 20)),
 oa 3 22 (.fieldA 0 (.t 21)),
 ob 4 23 (.loadH none (.t 22)),
 om 5 4 23])
  .ret) .skip)))
  (.region [om 0 10 5,
 oa 1 11 (.bin .add (.t 10) (.c (.int .i64 1))),
 om 2 5 11]))))))
  (.seq [4] (.region [oi 0 4 0])
  .ret)))
noncomputable def df_spec_l11Keys:DFun:=⟨2,24,0,true,[.tmp 4],dc_spec_l11Keys⟩
noncomputable def pf_spec_l11Keys:PFun:=df_spec_l11Keys.er
noncomputable def f_spec_l11Keys:AFun:=pf_spec_l11Keys.er
@[irreducible] noncomputable def s_spec_l11Keys:CallSem:=funSem f_spec_l11Keys
@[irreducible] noncomputable def p_spec_l11Keys:PSem:=pfunSem pf_spec_l11Keys
theorem sp_spec_l11Keys:SoundP s_spec_l11Keys p_spec_l11Keys:=by unfold s_spec_l11Keys p_spec_l11Keys;exact pfun_sound (f:=pf_spec_l11Keys) trivial
def h_spec_l11Keys:List HT:=[.one .frz (.sl (.cons (.int .i64) (.one (.int .i64)))),.one .frz (.int .i64)]
def q_spec_l11Keys:QT:=.one (.one .own (.int .i64))
@[irreducible] noncomputable def v_spec_l11Keys(x:(List (Int×Int))×Int):Int:=(shut fun x=>fnV df_spec_l11Keys h_spec_l11Keys q_spec_l11Keys x).1 x
@[irreducible] noncomputable def ok_spec_l11Keys(x:(List (Int×Int))×Int):Prop:=(shut fun x=>fnOk df_spec_l11Keys h_spec_l11Keys q_spec_l11Keys x).1 x
theorem vu_spec_l11Keys (x):v_spec_l11Keys x=fnV df_spec_l11Keys h_spec_l11Keys q_spec_l11Keys x:=by unfold v_spec_l11Keys;exact congrFun (shut _).2 x
theorem ou_spec_l11Keys (x):ok_spec_l11Keys x=fnOk df_spec_l11Keys h_spec_l11Keys q_spec_l11Keys x:=by unfold ok_spec_l11Keys;exact congrFun (shut _).2 x
noncomputable def D_spec_l11Keys:DSem:=DSemOf h_spec_l11Keys q_spec_l11Keys ok_spec_l11Keys v_spec_l11Keys
theorem ck_spec_l11Keys(x:(List (Int×Int))×Int):fnChk df_spec_l11Keys h_spec_l11Keys q_spec_l11Keys x=true:=by kernel_rfl
theorem ob_spec_l11Keys:AllD df_spec_l11Keys.body.obs:=trivial
theorem st_spec_l11Keys:fnSt df_spec_l11Keys h_spec_l11Keys q_spec_l11Keys=true:=by kernel_rfl
theorem sd_spec_l11Keys:SoundD p_spec_l11Keys D_spec_l11Keys:=by unfold p_spec_l11Keys;exact soundD_of (f:=df_spec_l11Keys) (hs:=h_spec_l11Keys) (q:=q_spec_l11Keys) ob_spec_l11Keys st_spec_l11Keys ck_spec_l11Keys (fun x h=>Eq.mp (ou_spec_l11Keys x) h) (fun x=>(vu_spec_l11Keys x).symm)
noncomputable def dc_spec_l11Active:DCode:=
 (.seq [1] (.region [oa 0 1 (.boxB 0 7 (.t 0)),
 oa 1 2 (.mv (.c (.bool false)))])
  (.seq [3,1] (.region [oa 0 8 (.fieldA 5 (.t 1)),
 oa 1 9 (.loadB 0 none (.t 8)),
 om 2 3 9])
  (.seq [1] (.seq [4,3,1] (.region [oi 0 4 0])
  (.block 0 (.loop [1,3,4] 1 (.seq [4,3,1] (.seq [14,4,3,1] (.region [om 0 10 4,
 oa 1 11 (.fieldA 6 (.t 1)),
 oa 2 12 (.loadB 0 none (.t 11)),
 oa 3 13 (.len (.t 12)),
 oa 4 14 (.bin .lss (.t 10) (.t 13))])
  (.cond (.t 14) .skip (.exit 0)))
  (.seq [4,3,1] (.block 1 (.seq [5,4,3,1] (.region [oa 0 17 (.fieldA 6 (.t 1)),
 oa 1 18 (.loadB 0 none (.t 17)),
 om 2 19 4,
 oa 3 20 (.indexA 3 (.t 18) (.t 19)),
 ob 4 21 (.loadH (some 3) (.t 20)),
 oa 5 5 (.allocB 1 [(.int .i64 0),(.int .i64 0),(.bool false)]),
 os 6 (.storeB 1 3 (.t 5) (.t 21))])
  (.seq [6,5,4,3,1] (.region [oa 0 22 (.fieldA 0 (.t 1)),
 oa 1 23 (.loadB 0 none (.t 22)),
 oa 2 24 (.fieldA 0 (.t 5)),
 oa 3 25 (.loadB 1 none (.t 24)),
 oc 4 26 s_spec_l11Keys p_spec_l11Keys D_spec_l11Keys [(.t 23),(.t 25)],
 om 5 6 26])
  (.seq [5,4,3,1] (.seq [52,5,4,3,1] (.region [oa 0 27 (.fieldA 1 (.t 5)),
 oa 1 28 (.loadB 1 none (.t 27)),
 oa 2 29 (.bin .leq (.t 28) (.c (.int .i64 0))),
 om 3 30 29,
 og 4 31 (.fieldA 1 (.t 5)) 30 false,
 og 5 32 (.loadB 1 none (.t 31)) 30 false,
 og 6 33 (.mv (.t 6)) 30 false,
 og 7 34 (.bin .andNot (.t 32) (.t 33)) 30 false,
 og 8 35 (.bin .neq (.t 34) (.c (.int .i64 0))) 30 false,
 oa 9 36 (.pick (.t 30) (.c (.bool true)) (.t 35)),
 om 10 37 36,
 og 11 38 (.fieldA 2 (.t 5)) 37 false,
 og 12 39 (.loadB 1 none (.t 38)) 37 false,
 og 13 40 (.fieldA 1 (.t 5)) 37 false,
 og 14 41 (.loadB 1 none (.t 40)) 37 false,
 og 15 42 (.mv (.t 6)) 37 false,
 og 16 43 (.bin .eql (.t 41) (.t 42)) 37 false,
 og 17 44 (.eqB true (.t 39) (.t 43)) 37 false,
 oa 18 45 (.pick (.t 37) (.c (.bool true)) (.t 44)),
 om 19 46 45,
 og 20 47 (.fieldA 1 (.t 5)) 46 false,
 og 21 48 (.loadB 1 none (.t 47)) 46 false,
 og 22 49 (.mv (.t 3)) 46 false,
 og 23 50 (.bin .and (.t 48) (.t 49)) 46 false,
 og 24 51 (.bin .neq (.t 50) (.c (.int .i64 0))) 46 false,
 oa 25 52 (.pick (.t 46) (.c (.bool true)) (.t 51))])
  (.cond (.t 52) (.seq [2] (.region [oa 0 2 (.mv (.c (.bool false)))])
  .ret) .skip))
  (.seq [5,4,3,1] (.seq [7,5,4,3,1] (.region [oi 0 7 0])
  (.block 2 (.loop [1,3,4,5,7] 1 (.seq [7,5,4,3,1] (.seq [55,7,5,4,3,1] (.region [om 0 53 7,
 om 1 54 4,
 oa 2 55 (.bin .lss (.t 53) (.t 54))])
  (.cond (.t 55) .skip (.exit 2)))
  (.seq [7,5,4,3,1] (.block 3 (.seq [66,7,5,4,3,1] (.region [oa 0 58 (.fieldA 6 (.t 1)),
 xA 1 59 (.loadB 0 none (.t 58)) (rg 1),
 om 2 60 7,
 xA 3 61 (.indexA 3 (.t 59) (.t 60)) (rg 3),
 xA 4 62 (.fieldA 0 (.t 61)) (rg 4),
 xA 5 63 (.loadH none (.t 62)) (rg 5),
 oa 6 64 (.fieldA 0 (.t 5)),
 xA 7 65 (.loadB 1 none (.t 64)) [6],
 xA 8 66 (.bin .eql (.t 63) (.t 65)) (rg 8)])
  (.cond (.t 66) (.seq [2] (.region [oa 0 2 (.mv (.c (.bool false)))])
  .ret) .skip)))
  (.region [om 0 56 7,
 oa 1 57 (.bin .add (.t 56) (.c (.int .i64 1))),
 om 2 7 57]))))))
  (.region [om 0 67 3,
 oa 1 68 (.fieldA 1 (.t 5)),
 oa 2 69 (.loadB 1 none (.t 68)),
 oa 3 70 (.bin .or (.t 67) (.t 69)),
 om 4 3 70]))))))
  (.region [om 0 15 4,
 oa 1 16 (.bin .add (.t 15) (.c (.int .i64 1))),
 om 2 4 16]))))))
  (.seq [2] (.region [oa 0 71 (.fieldA 5 (.t 1)),
 oa 1 72 (.loadB 0 none (.t 71)),
 oc 2 73 s_spec_l1In p_spec_l1In D_spec_l1In [(.t 72),(.c (.int .i64 0)),(.c (.int .i64 16777215))],
 om 3 2 73])
  .ret))))
noncomputable def df_spec_l11Active:DFun:=⟨1,74,2,true,[.tmp 2],dc_spec_l11Active⟩
noncomputable def pf_spec_l11Active:PFun:=df_spec_l11Active.er
noncomputable def f_spec_l11Active:AFun:=pf_spec_l11Active.er
@[irreducible] noncomputable def s_spec_l11Active:CallSem:=funSem f_spec_l11Active
@[irreducible] noncomputable def p_spec_l11Active:PSem:=pfunSem pf_spec_l11Active
theorem sp_spec_l11Active:SoundP s_spec_l11Active p_spec_l11Active:=by unfold s_spec_l11Active p_spec_l11Active;exact pfun_sound (f:=pf_spec_l11Active) ⟨sp_spec_l11Keys,sp_spec_l1In,trivial⟩
def h_spec_l11Active:List HT:=[.agg [(.frz,.sl (.cons (.int .i64) (.one (.int .i64)))),(.frz,.int .i64),(.frz,.sl (.cons (.int .i64) (.cons (.int .i64) (.one (.bool))))),(.frz,.int .i64),(.frz,.int .i64),(.frz,.int .i64),(.frz,.sl (.cons (.int .i64) (.cons (.int .i64) (.one (.bool)))))]]
def q_spec_l11Active:QT:=.one (.one .own (.bool))
@[irreducible] noncomputable def v_spec_l11Active(x:(List (Int×Int))×Int×(List (Int×Int×Bool))×Int×Int×Int×(List (Int×Int×Bool))):Bool:=(shut fun x=>fnV df_spec_l11Active h_spec_l11Active q_spec_l11Active x).1 x
@[irreducible] noncomputable def ok_spec_l11Active(x:(List (Int×Int))×Int×(List (Int×Int×Bool))×Int×Int×Int×(List (Int×Int×Bool))):Prop:=(shut fun x=>fnOk df_spec_l11Active h_spec_l11Active q_spec_l11Active x).1 x
theorem vu_spec_l11Active (x):v_spec_l11Active x=fnV df_spec_l11Active h_spec_l11Active q_spec_l11Active x:=by unfold v_spec_l11Active;exact congrFun (shut _).2 x
theorem ou_spec_l11Active (x):ok_spec_l11Active x=fnOk df_spec_l11Active h_spec_l11Active q_spec_l11Active x:=by unfold ok_spec_l11Active;exact congrFun (shut _).2 x
noncomputable def D_spec_l11Active:DSem:=DSemOf h_spec_l11Active q_spec_l11Active ok_spec_l11Active v_spec_l11Active
theorem ck_spec_l11Active(x:(List (Int×Int))×Int×(List (Int×Int×Bool))×Int×Int×Int×(List (Int×Int×Bool))):fnChk df_spec_l11Active h_spec_l11Active q_spec_l11Active x=true:=by kernel_rfl
theorem ob_spec_l11Active:AllD df_spec_l11Active.body.obs:=⟨sd_spec_l11Keys,sd_spec_l1In,trivial⟩
theorem st_spec_l11Active:fnSt df_spec_l11Active h_spec_l11Active q_spec_l11Active=true:=by kernel_rfl
theorem sd_spec_l11Active:SoundD p_spec_l11Active D_spec_l11Active:=by unfold p_spec_l11Active;exact soundD_of (f:=df_spec_l11Active) (hs:=h_spec_l11Active) (q:=q_spec_l11Active) ob_spec_l11Active st_spec_l11Active ck_spec_l11Active (fun x h=>Eq.mp (ou_spec_l11Active x) h) (fun x=>(vu_spec_l11Active x).symm)
noncomputable def dc_spec_l11Held:DCode:=
 (.seq [1] (.region [oa 0 1 (.boxB 0 7 (.t 0)),
 oi 1 2 0])
  (.seq [3,1] (.region [oa 0 5 (.fieldA 5 (.t 1)),
 ob 1 6 (.loadB 0 none (.t 5)),
 om 2 3 6])
  (.seq [3] (.seq [4,3,1] (.region [oi 0 4 0])
  (.block 0 (.loop [1,3,4] 1 (.seq [4,3,1] (.seq [11,4,3,1] (.region [om 0 7 4,
 oa 1 8 (.fieldA 6 (.t 1)),
 oa 2 9 (.loadB 0 none (.t 8)),
 oa 3 10 (.len (.t 9)),
 oa 4 11 (.bin .lss (.t 7) (.t 10))])
  (.cond (.t 11) .skip (.exit 0)))
  (.seq [4,3,1] (.block 1 (.region [om 0 14 3,
 oa 1 15 (.fieldA 6 (.t 1)),
 oa 2 16 (.loadB 0 none (.t 15)),
 om 3 17 4,
 oa 4 18 (.indexA 3 (.t 16) (.t 17)),
 oa 5 19 (.fieldA 1 (.t 18)),
 oa 6 20 (.loadH none (.t 19)),
 oa 7 21 (.bin .or (.t 14) (.t 20)),
 om 8 3 21]))
  (.region [om 0 12 4,
 oa 1 13 (.bin .add (.t 12) (.c (.int .i64 1))),
 om 2 4 13]))))))
  (.seq [2] (.region [om 0 22 3,
 om 1 2 22])
  .ret))))
noncomputable def df_spec_l11Held:DFun:=⟨1,23,1,true,[.tmp 2],dc_spec_l11Held⟩
noncomputable def pf_spec_l11Held:PFun:=df_spec_l11Held.er
noncomputable def f_spec_l11Held:AFun:=pf_spec_l11Held.er
@[irreducible] noncomputable def s_spec_l11Held:CallSem:=funSem f_spec_l11Held
@[irreducible] noncomputable def p_spec_l11Held:PSem:=pfunSem pf_spec_l11Held
theorem sp_spec_l11Held:SoundP s_spec_l11Held p_spec_l11Held:=by unfold s_spec_l11Held p_spec_l11Held;exact pfun_sound (f:=pf_spec_l11Held) trivial
def h_spec_l11Held:List HT:=[.agg [(.frz,.sl (.cons (.int .i64) (.one (.int .i64)))),(.frz,.int .i64),(.frz,.sl (.cons (.int .i64) (.cons (.int .i64) (.one (.bool))))),(.frz,.int .i64),(.frz,.int .i64),(.frz,.int .i64),(.frz,.sl (.cons (.int .i64) (.cons (.int .i64) (.one (.bool)))))]]
def q_spec_l11Held:QT:=.one (.one .own (.int .i64))
@[irreducible] noncomputable def v_spec_l11Held(x:(List (Int×Int))×Int×(List (Int×Int×Bool))×Int×Int×Int×(List (Int×Int×Bool))):Int:=(shut fun x=>fnV df_spec_l11Held h_spec_l11Held q_spec_l11Held x).1 x
@[irreducible] noncomputable def ok_spec_l11Held(x:(List (Int×Int))×Int×(List (Int×Int×Bool))×Int×Int×Int×(List (Int×Int×Bool))):Prop:=(shut fun x=>fnOk df_spec_l11Held h_spec_l11Held q_spec_l11Held x).1 x
theorem vu_spec_l11Held (x):v_spec_l11Held x=fnV df_spec_l11Held h_spec_l11Held q_spec_l11Held x:=by unfold v_spec_l11Held;exact congrFun (shut _).2 x
theorem ou_spec_l11Held (x):ok_spec_l11Held x=fnOk df_spec_l11Held h_spec_l11Held q_spec_l11Held x:=by unfold ok_spec_l11Held;exact congrFun (shut _).2 x
noncomputable def D_spec_l11Held:DSem:=DSemOf h_spec_l11Held q_spec_l11Held ok_spec_l11Held v_spec_l11Held
theorem ck_spec_l11Held(x:(List (Int×Int))×Int×(List (Int×Int×Bool))×Int×Int×Int×(List (Int×Int×Bool))):fnChk df_spec_l11Held h_spec_l11Held q_spec_l11Held x=true:=by kernel_rfl
theorem ob_spec_l11Held:AllD df_spec_l11Held.body.obs:=trivial
theorem st_spec_l11Held:fnSt df_spec_l11Held h_spec_l11Held q_spec_l11Held=true:=by kernel_rfl
theorem sd_spec_l11Held:SoundD p_spec_l11Held D_spec_l11Held:=by unfold p_spec_l11Held;exact soundD_of (f:=df_spec_l11Held) (hs:=h_spec_l11Held) (q:=q_spec_l11Held) ob_spec_l11Held st_spec_l11Held ck_spec_l11Held (fun x h=>Eq.mp (ou_spec_l11Held x) h) (fun x=>(vu_spec_l11Held x).symm)
noncomputable def dc_spec_l10Follows:DCode:=
 (.seq [3,2,1,0] (.region [oa 0 8 (.mv (.c (.bool false)))])
 (.seq [0] (.seq [9,3,2,1,0] (.region [oi 0 9 0])
 (.block 0 (.loop [0,1,2,3,9] 1 (.seq [9,3,2,1,0] (.seq [13,9,3,2,1,0] (.region [om 0 10 9,
 on 1 11 0,
 oa 2 12 (.len (.t 11)),
 oa 3 13 (.bin .lss (.t 10) (.t 12))])
  (.cond (.t 13) .skip (.exit 0)))
  (.seq [9,3,2,1,0] (.block 1 (.seq [9,2,1,0] (.seq [56,9,2,1,0] (.region [on 0 16 0,
 om 1 17 9,
 xA 2 18 (.indexA 3 (.t 16) (.t 17)) (rg 2),
 xA 3 19 (.loadH (some 3) (.t 18)) (rg 3),
 xC 4 20 s_spec_IsEvent p_spec_IsEvent D_spec_IsEvent [(.t 19)] (rg 4),
 xA 5 21 (.un .not (.t 20)) (rg 5),
 xA 6 22 (.mv (.t 21)) (rg 6),
 ⟨7,some 23,.a true (.mv (.t 0)) none,(some (22,false)),[0,1,2,3,4,5,6]⟩,
 ⟨8,some 24,.a false (.mv (.t 9)) none,(some (22,false)),[0,1,2,3,4,5,6]⟩,
 ⟨9,some 25,.a false (.indexA 3 (.t 23) (.t 24)) none,(some (22,false)),[0,1,2,3,4,5,6,7,8]⟩,
 ⟨10,some 26,.a false (.fieldA 1 (.t 25)) none,(some (22,false)),[0,1,2,3,4,5,6,7,8,9]⟩,
 ⟨11,some 27,.a false (.loadH none (.t 26)) none,(some (22,false)),[0,1,2,3,4,5,6,7,8,9,10]⟩,
 ⟨12,some 28,.a false (.mv (.t 2)) none,(some (22,false)),[0,1,2,3,4,5,6]⟩,
 ⟨13,some 29,.a false (.bin .geq (.t 27) (.t 28)) none,(some (22,false)),[0,1,2,3,4,5,6,7,8,9,10,11,12]⟩,
 xA 14 30 (.pick (.t 22) (.c (.bool true)) (.t 29)) (rg 14),
 xA 15 31 (.mv (.t 30)) (rg 15),
 ⟨16,some 32,.a true (.mv (.t 0)) none,(some (31,false)),[0,1,2,3,4,5,6,7,8,9,10,11,12,13,14,15]⟩,
 ⟨17,some 33,.a false (.mv (.t 9)) none,(some (31,false)),[0,1,2,3,4,5,6,7,8,9,10,11,12,13,14,15]⟩,
 ⟨18,some 34,.a false (.indexA 3 (.t 32) (.t 33)) none,(some (31,false)),[0,1,2,3,4,5,6,7,8,9,10,11,12,13,14,15,16,17]⟩,
 ⟨19,some 35,.a false (.fieldA 0 (.t 34)) none,(some (31,false)),[0,1,2,3,4,5,6,7,8,9,10,11,12,13,14,15,16,17,18]⟩,
 ⟨20,some 36,.a false (.loadH none (.t 35)) none,(some (31,false)),[0,1,2,3,4,5,6,7,8,9,10,11,12,13,14,15,16,17,18,19]⟩,
 ⟨21,some 37,.a false (.mv (.t 3)) none,(some (31,false)),[0,1,2,3,4,5,6,7,8,9,10,11,12,13,14,15]⟩,
 ⟨22,some 38,.a false (.bin .lss (.t 36) (.t 37)) none,(some (31,false)),[0,1,2,3,4,5,6,7,8,9,10,11,12,13,14,15,16,17,18,19,20,21]⟩,
 xA 23 39 (.pick (.t 31) (.c (.bool true)) (.t 38)) (rg 23),
 xA 24 40 (.mv (.t 39)) (rg 24),
 ⟨25,some 41,.a true (.mv (.t 0)) none,(some (40,false)),[0,1,2,3,4,5,6,7,8,9,10,11,12,13,14,15,16,17,18,19,20,21,22,23,24]⟩,
 ⟨26,some 42,.a false (.mv (.t 9)) none,(some (40,false)),[0,1,2,3,4,5,6,7,8,9,10,11,12,13,14,15,16,17,18,19,20,21,22,23,24]⟩,
 ⟨27,some 43,.a false (.indexA 3 (.t 41) (.t 42)) none,(some (40,false)),[0,1,2,3,4,5,6,7,8,9,10,11,12,13,14,15,16,17,18,19,20,21,22,23,24,25,26]⟩,
 ⟨28,some 44,.a false (.fieldA 2 (.t 43)) none,(some (40,false)),[0,1,2,3,4,5,6,7,8,9,10,11,12,13,14,15,16,17,18,19,20,21,22,23,24,25,26,27]⟩,
 ⟨29,some 45,.a false (.loadH none (.t 44)) none,(some (40,false)),[0,1,2,3,4,5,6,7,8,9,10,11,12,13,14,15,16,17,18,19,20,21,22,23,24,25,26,27,28]⟩,
 ⟨30,some 46,.a false (.mv (.t 1)) none,(some (40,false)),[0,1,2,3,4,5,6,7,8,9,10,11,12,13,14,15,16,17,18,19,20,21,22,23,24]⟩,
 ⟨31,some 47,.a true (.mv (.t 0)) none,(some (40,false)),[0,1,2,3,4,5,6,7,8,9,10,11,12,13,14,15,16,17,18,19,20,21,22,23,24]⟩,
 ⟨32,some 48,.a false (.mv (.t 9)) none,(some (40,false)),[0,1,2,3,4,5,6,7,8,9,10,11,12,13,14,15,16,17,18,19,20,21,22,23,24]⟩,
 ⟨33,some 49,.a false (.indexA 3 (.t 47) (.t 48)) none,(some (40,false)),[0,1,2,3,4,5,6,7,8,9,10,11,12,13,14,15,16,17,18,19,20,21,22,23,24,31,32]⟩,
 ⟨34,some 50,.a false (.fieldA 1 (.t 49)) none,(some (40,false)),[0,1,2,3,4,5,6,7,8,9,10,11,12,13,14,15,16,17,18,19,20,21,22,23,24,31,32,33]⟩,
 ⟨35,some 51,.a false (.loadH none (.t 50)) none,(some (40,false)),[0,1,2,3,4,5,6,7,8,9,10,11,12,13,14,15,16,17,18,19,20,21,22,23,24,31,32,33,34]⟩,
 ⟨36,some 52,.a false (.bin .shr (.t 46) (.t 51)) none,(some (40,false)),[0,1,2,3,4,5,6,7,8,9,10,11,12,13,14,15,16,17,18,19,20,21,22,23,24,30,31,32,33,34,35]⟩,
 ⟨37,some 53,.a false (.bin .and (.t 52) (.c (.int .i64 1))) none,(some (40,false)),[0,1,2,3,4,5,6,7,8,9,10,11,12,13,14,15,16,17,18,19,20,21,22,23,24,30,31,32,33,34,35,36]⟩,
 ⟨38,some 54,.a false (.bin .eql (.t 53) (.c (.int .i64 1))) none,(some (40,false)),[0,1,2,3,4,5,6,7,8,9,10,11,12,13,14,15,16,17,18,19,20,21,22,23,24,30,31,32,33,34,35,36,37]⟩,
 ⟨39,some 55,.a false (.eqB false (.t 45) (.t 54)) none,(some (40,false)),[0,1,2,3,4,5,6,7,8,9,10,11,12,13,14,15,16,17,18,19,20,21,22,23,24,25,26,27,28,29,30,31,32,33,34,35,36,37,38]⟩,
 xA 40 56 (.pick (.t 40) (.c (.bool true)) (.t 55)) (rg 40)])
  (.cond (.t 56) (.seq [8] (.region [oa 0 8 (.mv (.c (.bool false)))])
  .ret) .skip))
  (.seq [9,3,2,1,0] (.region [on 0 57 0,
 om 1 58 9,
 oa 2 59 (.indexA 3 (.t 57) (.t 58)),
 oa 3 60 (.fieldA 0 (.t 59)),
 oa 4 61 (.loadH none (.t 60)),
 om 5 3 61])
  (.region [om 0 62 1,
 on 1 63 0,
 om 2 64 9,
 oa 3 65 (.indexA 3 (.t 63) (.t 64)),
 oa 4 66 (.fieldA 1 (.t 65)),
 oa 5 67 (.loadH none (.t 66)),
 oa 6 68 (.bin .shl (.c (.int .i64 1)) (.t 67)),
 oa 7 69 (.bin .xor (.t 62) (.t 68)),
 om 8 1 69]))))
  (.region [om 0 14 9,
 oa 1 15 (.bin .add (.t 14) (.c (.int .i64 1))),
 om 2 9 15]))))))
  (.seq [8] (.region [on 0 70 0,
 oa 1 71 (.len (.t 70)),
 oa 2 72 (.bin .leq (.t 71) (.c (.int .i64 64))),
 om 3 8 72])
  .ret)))
noncomputable def df_spec_l10Follows:DFun:=⟨4,73,0,true,[.tmp 8],dc_spec_l10Follows⟩
noncomputable def pf_spec_l10Follows:PFun:=df_spec_l10Follows.er
noncomputable def f_spec_l10Follows:AFun:=pf_spec_l10Follows.er
@[irreducible] noncomputable def s_spec_l10Follows:CallSem:=funSem f_spec_l10Follows
@[irreducible] noncomputable def p_spec_l10Follows:PSem:=pfunSem pf_spec_l10Follows
theorem sp_spec_l10Follows:SoundP s_spec_l10Follows p_spec_l10Follows:=by unfold s_spec_l10Follows p_spec_l10Follows;exact pfun_sound (f:=pf_spec_l10Follows) ⟨sp_spec_IsEvent,trivial⟩
def h_spec_l10Follows:List HT:=[.one .frz (.sl (.cons (.int .i64) (.cons (.int .i64) (.one (.bool))))),.one .frz (.int .i64),.one .frz (.int .i64),.one .frz (.int .i64)]
def q_spec_l10Follows:QT:=.one (.one .own (.bool))
@[irreducible] noncomputable def v_spec_l10Follows(x:(List (Int×Int×Bool))×Int×Int×Int):Bool:=(shut fun x=>fnV df_spec_l10Follows h_spec_l10Follows q_spec_l10Follows x).1 x
@[irreducible] noncomputable def ok_spec_l10Follows(x:(List (Int×Int×Bool))×Int×Int×Int):Prop:=(shut fun x=>fnOk df_spec_l10Follows h_spec_l10Follows q_spec_l10Follows x).1 x
theorem vu_spec_l10Follows (x):v_spec_l10Follows x=fnV df_spec_l10Follows h_spec_l10Follows q_spec_l10Follows x:=by unfold v_spec_l10Follows;exact congrFun (shut _).2 x
theorem ou_spec_l10Follows (x):ok_spec_l10Follows x=fnOk df_spec_l10Follows h_spec_l10Follows q_spec_l10Follows x:=by unfold ok_spec_l10Follows;exact congrFun (shut _).2 x
noncomputable def D_spec_l10Follows:DSem:=DSemOf h_spec_l10Follows q_spec_l10Follows ok_spec_l10Follows v_spec_l10Follows
theorem ck_spec_l10Follows(x:(List (Int×Int×Bool))×Int×Int×Int):fnChk df_spec_l10Follows h_spec_l10Follows q_spec_l10Follows x=true:=by kernel_rfl
theorem ob_spec_l10Follows:AllD df_spec_l10Follows.body.obs:=⟨sd_spec_IsEvent,trivial⟩
theorem st_spec_l10Follows:fnSt df_spec_l10Follows h_spec_l10Follows q_spec_l10Follows=true:=by kernel_rfl
theorem sd_spec_l10Follows:SoundD p_spec_l10Follows D_spec_l10Follows:=by unfold p_spec_l10Follows;exact soundD_of (f:=df_spec_l10Follows) (hs:=h_spec_l10Follows) (q:=q_spec_l10Follows) ob_spec_l10Follows st_spec_l10Follows ck_spec_l10Follows (fun x h=>Eq.mp (ou_spec_l10Follows x) h) (fun x=>(vu_spec_l10Follows x).symm)
noncomputable def dc_spec_IsCombiner:DCode:=
 (.seq [1] (.region [oa 0 1 (.boxB 0 7 (.t 0)),
 oa 1 2 (.mv (.c (.bool false)))])
  (.seq [1] (.seq [31,1] (.region [oa 0 3 (.fieldA 0 (.t 1)),
 oa 1 4 (.loadB 0 none (.t 3)),
 oc 2 5 s_spec_IsCombos p_spec_IsCombos D_spec_IsCombos [(.t 4)],
 oa 3 6 (.un .not (.t 5)),
 om 4 7 6,
 og 5 8 (.fieldA 1 (.t 1)) 7 false,
 og 6 9 (.loadB 0 none (.t 8)) 7 false,
 ⟨7,some 10,.call false s_spec_l1In p_spec_l1In D_spec_l1In [(.t 9),(.c (.int .i64 1)),(.c (.int .i64 200))],(some (7,false)),[]⟩,
 og 8 11 (.un .not (.t 10)) 7 false,
 oa 9 12 (.pick (.t 7) (.c (.bool true)) (.t 11)),
 om 10 13 12,
 og 11 14 (.fieldA 3 (.t 1)) 13 false,
 og 12 15 (.loadB 0 none (.t 14)) 13 false,
 ⟨13,some 16,.call false s_spec_l1In p_spec_l1In D_spec_l1In [(.t 15),(.c (.int .i64 0)),(.c (.int .i64 1000000))],(some (13,false)),[]⟩,
 og 14 17 (.un .not (.t 16)) 13 false,
 oa 15 18 (.pick (.t 13) (.c (.bool true)) (.t 17)),
 om 16 19 18,
 og 17 20 (.fieldA 4 (.t 1)) 19 false,
 og 18 21 (.loadB 0 none (.t 20)) 19 false,
 og 19 22 (.fieldA 3 (.t 1)) 19 false,
 og 20 23 (.loadB 0 none (.t 22)) 19 false,
 ⟨21,some 24,.call false s_spec_l1In p_spec_l1In D_spec_l1In [(.t 21),(.c (.int .i64 0)),(.t 23)],(some (19,false)),[]⟩,
 og 22 25 (.un .not (.t 24)) 19 false,
 oa 23 26 (.pick (.t 19) (.c (.bool true)) (.t 25)),
 om 24 27 26,
 og 25 28 (.loadB 0 (some 7) (.t 1)) 27 false,
 ⟨26,some 29,.call false s_spec_l11Active p_spec_l11Active D_spec_l11Active [(.t 28)],(some (27,false)),[]⟩,
 og 27 30 (.un .not (.t 29)) 27 false,
 oa 28 31 (.pick (.t 27) (.c (.bool true)) (.t 30))])
  (.cond (.t 31) (.seq [2] (.region [oa 0 2 (.mv (.c (.bool false)))])
  .ret) .skip))
  (.seq [2] (.region [oa 0 32 (.fieldA 2 (.t 1)),
 xA 1 33 (.loadB 0 none (.t 32)) (rg 1),
 oa 2 34 (.loadB 0 (some 7) (.t 1)),
 xC 3 35 s_spec_l11Held p_spec_l11Held D_spec_l11Held [(.t 34)] [2],
 xC 4 36 s_spec_l10Follows p_spec_l10Follows D_spec_l10Follows [(.t 33),(.t 35),(.c (.int .i64 24)),(.c (.int .i64 0))] (rg 4),
 xA 5 37 (.mv (.t 36)) (rg 5),
 ⟨6,some 38,.a false (.fieldA 2 (.t 1)) none,(some (37,true)),[0,1,2,3,4,5]⟩,
 ⟨7,some 39,.a false (.loadB 0 none (.t 38)) none,(some (37,true)),[0,1,2,3,4,5,6]⟩,
 ⟨8,some 40,.a false (.len (.t 39)) none,(some (37,true)),[0,1,2,3,4,5,6,7]⟩,
 ⟨9,some 41,.a false (.bin .eql (.t 40) (.c (.int .i64 0))) none,(some (37,true)),[0,1,2,3,4,5,6,7,8]⟩,
 ⟨10,some 42,.a false (.mv (.t 41)) none,(some (37,true)),[0,1,2,3,4,5,6,7,8,9]⟩,
 ⟨11,some 43,.a false (.fieldA 2 (.t 1)) none,(some (42,false)),[0,1,2,3,4,5,6,7,8,9,10]⟩,
 ⟨12,some 44,.a false (.loadB 0 none (.t 43)) none,(some (42,false)),[0,1,2,3,4,5,6,7,8,9,10,11]⟩,
 ⟨13,some 45,.a false (.fieldA 2 (.t 1)) none,(some (42,false)),[0,1,2,3,4,5,6,7,8,9,10]⟩,
 ⟨14,some 46,.a false (.loadB 0 none (.t 45)) none,(some (42,false)),[0,1,2,3,4,5,6,7,8,9,10,13]⟩,
 ⟨15,some 47,.a false (.len (.t 46)) none,(some (42,false)),[0,1,2,3,4,5,6,7,8,9,10,13,14]⟩,
 ⟨16,some 48,.a false (.bin .sub (.t 47) (.c (.int .i64 1))) none,(some (42,false)),[0,1,2,3,4,5,6,7,8,9,10,13,14,15]⟩,
 ⟨17,some 49,.a false (.indexA 3 (.t 44) (.t 48)) none,(some (42,false)),[0,1,2,3,4,5,6,7,8,9,10,11,12,13,14,15,16]⟩,
 ⟨18,some 50,.a false (.fieldA 0 (.t 49)) none,(some (42,false)),[0,1,2,3,4,5,6,7,8,9,10,11,12,13,14,15,16,17]⟩,
 ⟨19,some 51,.a false (.loadH none (.t 50)) none,(some (42,false)),[0,1,2,3,4,5,6,7,8,9,10,11,12,13,14,15,16,17,18]⟩,
 ⟨20,some 52,.a false (.fieldA 3 (.t 1)) none,(some (42,false)),[0,1,2,3,4,5,6,7,8,9,10]⟩,
 ⟨21,some 53,.a false (.loadB 0 none (.t 52)) none,(some (42,false)),[0,1,2,3,4,5,6,7,8,9,10,20]⟩,
 ⟨22,some 54,.a false (.bin .leq (.t 51) (.t 53)) none,(some (42,false)),[0,1,2,3,4,5,6,7,8,9,10,11,12,13,14,15,16,17,18,19,20,21]⟩,
 ⟨23,some 55,.a false (.pick (.t 42) (.c (.bool true)) (.t 54)) none,(some (37,true)),[0,1,2,3,4,5,6,7,8,9,10,11,12,13,14,15,16,17,18,19,20,21,22]⟩,
 xA 24 56 (.pick (.t 37) (.t 55) (.c (.bool false))) (rg 24),
 xA 25 2 (.mv (.t 56)) (rg 25)])
  .ret)))
noncomputable def df_spec_IsCombiner:DFun:=⟨1,57,1,true,[.tmp 2],dc_spec_IsCombiner⟩
noncomputable def pf_spec_IsCombiner:PFun:=df_spec_IsCombiner.er
noncomputable def f_spec_IsCombiner:AFun:=pf_spec_IsCombiner.er
@[irreducible] noncomputable def s_spec_IsCombiner:CallSem:=funSem f_spec_IsCombiner
@[irreducible] noncomputable def p_spec_IsCombiner:PSem:=pfunSem pf_spec_IsCombiner
theorem sp_spec_IsCombiner:SoundP s_spec_IsCombiner p_spec_IsCombiner:=by unfold s_spec_IsCombiner p_spec_IsCombiner;exact pfun_sound (f:=pf_spec_IsCombiner) ⟨sp_spec_IsCombos,sp_spec_l1In,sp_spec_l1In,sp_spec_l1In,sp_spec_l11Active,sp_spec_l11Held,sp_spec_l10Follows,trivial⟩
def h_spec_IsCombiner:List HT:=[.agg [(.frz,.sl (.cons (.int .i64) (.one (.int .i64)))),(.frz,.int .i64),(.frz,.sl (.cons (.int .i64) (.cons (.int .i64) (.one (.bool))))),(.frz,.int .i64),(.frz,.int .i64),(.frz,.int .i64),(.frz,.sl (.cons (.int .i64) (.cons (.int .i64) (.one (.bool)))))]]
def q_spec_IsCombiner:QT:=.one (.one .own (.bool))
@[irreducible] noncomputable def v_spec_IsCombiner(x:(List (Int×Int))×Int×(List (Int×Int×Bool))×Int×Int×Int×(List (Int×Int×Bool))):Bool:=(shut fun x=>fnV df_spec_IsCombiner h_spec_IsCombiner q_spec_IsCombiner x).1 x
@[irreducible] noncomputable def ok_spec_IsCombiner(x:(List (Int×Int))×Int×(List (Int×Int×Bool))×Int×Int×Int×(List (Int×Int×Bool))):Prop:=(shut fun x=>fnOk df_spec_IsCombiner h_spec_IsCombiner q_spec_IsCombiner x).1 x
theorem vu_spec_IsCombiner (x):v_spec_IsCombiner x=fnV df_spec_IsCombiner h_spec_IsCombiner q_spec_IsCombiner x:=by unfold v_spec_IsCombiner;exact congrFun (shut _).2 x
theorem ou_spec_IsCombiner (x):ok_spec_IsCombiner x=fnOk df_spec_IsCombiner h_spec_IsCombiner q_spec_IsCombiner x:=by unfold ok_spec_IsCombiner;exact congrFun (shut _).2 x
noncomputable def D_spec_IsCombiner:DSem:=DSemOf h_spec_IsCombiner q_spec_IsCombiner ok_spec_IsCombiner v_spec_IsCombiner
theorem ck_spec_IsCombiner(x:(List (Int×Int))×Int×(List (Int×Int×Bool))×Int×Int×Int×(List (Int×Int×Bool))):fnChk df_spec_IsCombiner h_spec_IsCombiner q_spec_IsCombiner x=true:=by kernel_rfl
theorem ob_spec_IsCombiner:AllD df_spec_IsCombiner.body.obs:=⟨sd_spec_IsCombos,sd_spec_l1In,sd_spec_l1In,sd_spec_l1In,sd_spec_l11Active,sd_spec_l11Held,sd_spec_l10Follows,trivial⟩
theorem st_spec_IsCombiner:fnSt df_spec_IsCombiner h_spec_IsCombiner q_spec_IsCombiner=true:=by kernel_rfl
theorem sd_spec_IsCombiner:SoundD p_spec_IsCombiner D_spec_IsCombiner:=by unfold p_spec_IsCombiner;exact soundD_of (f:=df_spec_IsCombiner) (hs:=h_spec_IsCombiner) (q:=q_spec_IsCombiner) ob_spec_IsCombiner st_spec_IsCombiner ck_spec_IsCombiner (fun x h=>Eq.mp (ou_spec_IsCombiner x) h) (fun x=>(vu_spec_IsCombiner x).symm)
noncomputable def dc_spec_l11Copy:DCode:=
 (.seq [2,1] (.region [oa 0 1 (.boxB 0 7 (.t 0)),
 oa 1 2 (.allocB 1 [.nils,(.int .i64 0),.nils,(.int .i64 0),(.int .i64 0),(.int .i64 0),.nils])])
  (.seq [3,2,1] (.region [ob 0 4 (.loadB 0 (some 7) (.t 1)),
 oa 1 3 (.allocB 2 [.nils,(.int .i64 0),.nils,(.int .i64 0),(.int .i64 0),(.int .i64 0),.nils]),
 os 2 (.storeB 2 7 (.t 3) (.t 4))])
  (.seq [3,2,1] (.region [⟨0,some 5,.a false (.litSlice 2 0 [] []) (some (.cons (.int .i64) (.one (.int .i64)))),none,[]⟩,
 oa 1 6 (.fieldA 0 (.t 1)),
 oa 2 7 (.loadB 0 none (.t 6)),
 oa 3 8 (.app 2 (.t 5) (.t 7)),
 oa 4 9 (.fieldA 0 (.t 3)),
 os 5 (.storeB 2 1 (.t 9) (.t 8))])
  (.seq [3,2,1] (.region [⟨0,some 10,.a false (.litSlice 3 0 [] []) (some (.cons (.int .i64) (.cons (.int .i64) (.one (.bool))))),none,[]⟩,
 oa 1 11 (.fieldA 2 (.t 1)),
 oa 2 12 (.loadB 0 none (.t 11)),
 oa 3 13 (.app 3 (.t 10) (.t 12)),
 oa 4 14 (.fieldA 2 (.t 3)),
 os 5 (.storeB 2 1 (.t 14) (.t 13))])
  (.seq [3,2] (.region [⟨0,some 15,.a false (.litSlice 3 0 [] []) (some (.cons (.int .i64) (.cons (.int .i64) (.one (.bool))))),none,[]⟩,
 oa 1 16 (.fieldA 6 (.t 1)),
 oa 2 17 (.loadB 0 none (.t 16)),
 oa 3 18 (.app 3 (.t 15) (.t 17)),
 oa 4 19 (.fieldA 6 (.t 3)),
 os 5 (.storeB 2 1 (.t 19) (.t 18))])
  (.seq [2] (.region [ob 0 20 (.loadB 2 (some 7) (.t 3)),
 os 1 (.storeB 1 7 (.t 2) (.t 20))])
  .ret))))))
noncomputable def df_spec_l11Copy:DFun:=⟨1,21,3,false,[.cell 2 (some 7)],dc_spec_l11Copy⟩
noncomputable def pf_spec_l11Copy:PFun:=df_spec_l11Copy.er
noncomputable def f_spec_l11Copy:AFun:=pf_spec_l11Copy.er
@[irreducible] noncomputable def s_spec_l11Copy:CallSem:=funSem f_spec_l11Copy
@[irreducible] noncomputable def p_spec_l11Copy:PSem:=pfunSem pf_spec_l11Copy
theorem sp_spec_l11Copy:SoundP s_spec_l11Copy p_spec_l11Copy:=by unfold s_spec_l11Copy p_spec_l11Copy;exact pfun_sound (f:=pf_spec_l11Copy) trivial
def h_spec_l11Copy:List HT:=[.agg [(.frz,.sl (.cons (.int .i64) (.one (.int .i64)))),(.frz,.int .i64),(.frz,.sl (.cons (.int .i64) (.cons (.int .i64) (.one (.bool))))),(.frz,.int .i64),(.frz,.int .i64),(.frz,.int .i64),(.frz,.sl (.cons (.int .i64) (.cons (.int .i64) (.one (.bool)))))]]
def q_spec_l11Copy:QT:=.one (.agg [(.own,.sl (.cons (.int .i64) (.one (.int .i64)))),(.own,.int .i64),(.own,.sl (.cons (.int .i64) (.cons (.int .i64) (.one (.bool))))),(.own,.int .i64),(.own,.int .i64),(.own,.int .i64),(.own,.sl (.cons (.int .i64) (.cons (.int .i64) (.one (.bool)))))])
@[irreducible] noncomputable def v_spec_l11Copy(x:(List (Int×Int))×Int×(List (Int×Int×Bool))×Int×Int×Int×(List (Int×Int×Bool))):(List (Int×Int))×Int×(List (Int×Int×Bool))×Int×Int×Int×(List (Int×Int×Bool)):=(shut fun x=>fnV df_spec_l11Copy h_spec_l11Copy q_spec_l11Copy x).1 x
@[irreducible] noncomputable def ok_spec_l11Copy(x:(List (Int×Int))×Int×(List (Int×Int×Bool))×Int×Int×Int×(List (Int×Int×Bool))):Prop:=(shut fun x=>fnOk df_spec_l11Copy h_spec_l11Copy q_spec_l11Copy x).1 x
theorem vu_spec_l11Copy (x):v_spec_l11Copy x=fnV df_spec_l11Copy h_spec_l11Copy q_spec_l11Copy x:=by unfold v_spec_l11Copy;exact congrFun (shut _).2 x
theorem ou_spec_l11Copy (x):ok_spec_l11Copy x=fnOk df_spec_l11Copy h_spec_l11Copy q_spec_l11Copy x:=by unfold ok_spec_l11Copy;exact congrFun (shut _).2 x
noncomputable def D_spec_l11Copy:DSem:=DSemOf h_spec_l11Copy q_spec_l11Copy ok_spec_l11Copy v_spec_l11Copy
theorem ck_spec_l11Copy(x:(List (Int×Int))×Int×(List (Int×Int×Bool))×Int×Int×Int×(List (Int×Int×Bool))):fnChk df_spec_l11Copy h_spec_l11Copy q_spec_l11Copy x=true:=by kernel_rfl
theorem ob_spec_l11Copy:AllD df_spec_l11Copy.body.obs:=trivial
theorem st_spec_l11Copy:fnSt df_spec_l11Copy h_spec_l11Copy q_spec_l11Copy=true:=by kernel_rfl
theorem sd_spec_l11Copy:SoundD p_spec_l11Copy D_spec_l11Copy:=by unfold p_spec_l11Copy;exact soundD_of (f:=df_spec_l11Copy) (hs:=h_spec_l11Copy) (q:=q_spec_l11Copy) ob_spec_l11Copy st_spec_l11Copy ck_spec_l11Copy (fun x h=>Eq.mp (ou_spec_l11Copy x) h) (fun x=>(vu_spec_l11Copy x).symm)
noncomputable def dc_spec_NewCombiner:DCode:=
 (.seq [4,1,0] (.region [oa 0 4 (.allocB 0 [.nils,(.int .i64 0),.nils,(.int .i64 0),(.int .i64 0),(.int .i64 0),.nils]),
 oa 1 5 (.mv (.c (.bool false)))])
  (.seq [6,4] (.region [om 0 7 0,
 om 1 8 1,
 oa 2 9 (.build [.nils,(.int .i64 0),.nils,(.int .i64 0),(.int .i64 0),(.int .i64 0),.nils] [(0,1,(.t 7)),(1,1,(.t 8))]),
 oa 3 6 (.allocB 1 [.nils,(.int .i64 0),.nils,(.int .i64 0),(.int .i64 0),(.int .i64 0),.nils]),
 os 4 (.storeB 1 7 (.t 6) (.t 9))])
  (.seq [6,4] (.seq [12,6,4] (.region [oa 0 10 (.loadB 1 (some 7) (.t 6)),
 oc 1 11 s_spec_IsCombiner p_spec_IsCombiner D_spec_IsCombiner [(.t 10)],
 oa 2 12 (.un .not (.t 11))])
  (.cond (.t 12) (.seq [5,4] (.region [oa 0 13 (.build [.nils,(.int .i64 0),.nils,(.int .i64 0),(.int .i64 0),(.int .i64 0),.nils] []),
 os 1 (.storeB 0 7 (.t 4) (.t 13)),
 oa 2 5 (.mv (.c (.bool false)))])
  .ret) .skip))
  (.seq [5,4] (.region [oa 0 14 (.loadB 1 (some 7) (.t 6)),
 oc 1 15 s_spec_l11Copy p_spec_l11Copy D_spec_l11Copy [(.t 14)],
 os 2 (.storeB 0 7 (.t 4) (.t 15)),
 oa 3 5 (.mv (.c (.bool true)))])
  .ret))))
noncomputable def df_spec_NewCombiner:DFun:=⟨2,16,2,false,[.cell 4 (some 7),.tmp 5],dc_spec_NewCombiner⟩
noncomputable def pf_spec_NewCombiner:PFun:=df_spec_NewCombiner.er
noncomputable def f_spec_NewCombiner:AFun:=pf_spec_NewCombiner.er
@[irreducible] noncomputable def s_spec_NewCombiner:CallSem:=funSem f_spec_NewCombiner
@[irreducible] noncomputable def p_spec_NewCombiner:PSem:=pfunSem pf_spec_NewCombiner
theorem sp_spec_NewCombiner:SoundP s_spec_NewCombiner p_spec_NewCombiner:=by unfold s_spec_NewCombiner p_spec_NewCombiner;exact pfun_sound (f:=pf_spec_NewCombiner) ⟨sp_spec_IsCombiner,sp_spec_l11Copy,trivial⟩
def h_spec_NewCombiner:List HT:=[.one .frz (.sl (.cons (.int .i64) (.one (.int .i64)))),.one .frz (.int .i64)]
def q_spec_NewCombiner:QT:=.tup [.agg [(.own,.sl (.cons (.int .i64) (.one (.int .i64)))),(.own,.int .i64),(.own,.sl (.cons (.int .i64) (.cons (.int .i64) (.one (.bool))))),(.own,.int .i64),(.own,.int .i64),(.own,.int .i64),(.own,.sl (.cons (.int .i64) (.cons (.int .i64) (.one (.bool)))))],.one .own (.bool)]
@[irreducible] noncomputable def v_spec_NewCombiner(x:(List (Int×Int))×Int):((List (Int×Int))×Int×(List (Int×Int×Bool))×Int×Int×Int×(List (Int×Int×Bool)))×Bool:=(shut fun x=>fnV df_spec_NewCombiner h_spec_NewCombiner q_spec_NewCombiner x).1 x
@[irreducible] noncomputable def ok_spec_NewCombiner(x:(List (Int×Int))×Int):Prop:=(shut fun x=>fnOk df_spec_NewCombiner h_spec_NewCombiner q_spec_NewCombiner x).1 x
theorem vu_spec_NewCombiner (x):v_spec_NewCombiner x=fnV df_spec_NewCombiner h_spec_NewCombiner q_spec_NewCombiner x:=by unfold v_spec_NewCombiner;exact congrFun (shut _).2 x
theorem ou_spec_NewCombiner (x):ok_spec_NewCombiner x=fnOk df_spec_NewCombiner h_spec_NewCombiner q_spec_NewCombiner x:=by unfold ok_spec_NewCombiner;exact congrFun (shut _).2 x
noncomputable def D_spec_NewCombiner:DSem:=DSemOf h_spec_NewCombiner q_spec_NewCombiner ok_spec_NewCombiner v_spec_NewCombiner
theorem ck_spec_NewCombiner(x:(List (Int×Int))×Int):fnChk df_spec_NewCombiner h_spec_NewCombiner q_spec_NewCombiner x=true:=by kernel_rfl
theorem ob_spec_NewCombiner:AllD df_spec_NewCombiner.body.obs:=⟨sd_spec_IsCombiner,sd_spec_l11Copy,trivial⟩
theorem st_spec_NewCombiner:fnSt df_spec_NewCombiner h_spec_NewCombiner q_spec_NewCombiner=true:=by kernel_rfl
theorem sd_spec_NewCombiner:SoundD p_spec_NewCombiner D_spec_NewCombiner:=by unfold p_spec_NewCombiner;exact soundD_of (f:=df_spec_NewCombiner) (hs:=h_spec_NewCombiner) (q:=q_spec_NewCombiner) ob_spec_NewCombiner st_spec_NewCombiner ck_spec_NewCombiner (fun x h=>Eq.mp (ou_spec_NewCombiner x) h) (fun x=>(vu_spec_NewCombiner x).symm)
noncomputable def dc_spec_l11New:DCode:=
 (.seq [2,0] (.region [oa 0 2 (.allocB 0 [.nils,(.int .i64 0),.nils,(.int .i64 0),(.int .i64 0),(.int .i64 0),.nils])])
 (.seq [3,2] (.region [om 0 6 0,
 op 1 7 s_spec_l11Combos p_spec_l11Combos D_spec_l11Combos [(.t 6)],
 om 2 8 0,
 op 3 9 s_spec_l1Below p_spec_l1Below D_spec_l1Below [(.t 8),(.c (.int .i64 6))],
 oa 4 10 (.bin .add (.c (.int .i64 1)) (.t 9)),
 oc 5 11 s_spec_NewCombiner p_spec_NewCombiner D_spec_NewCombiner [(.t 7),(.t 10)],
 om 6 5 11,
 oa 7 12 (.extract (.t 5) 0),
 oa 8 13 (.extract (.t 5) 1),
 oa 9 3 (.allocB 1 [.nils,(.int .i64 0),.nils,(.int .i64 0),(.int .i64 0),(.int .i64 0),.nils]),
 os 10 (.storeB 1 7 (.t 3) (.t 12)),
 om 11 4 13])
  (.seq [2] (.region [ob 0 14 (.loadB 1 (some 7) (.t 3)),
 os 1 (.storeB 0 7 (.t 2) (.t 14))])
  .ret)))
noncomputable def df_spec_l11New:DFun:=⟨1,15,2,false,[.cell 2 (some 7)],dc_spec_l11New⟩
noncomputable def pf_spec_l11New:PFun:=df_spec_l11New.er
noncomputable def f_spec_l11New:AFun:=pf_spec_l11New.er
@[irreducible] noncomputable def s_spec_l11New:CallSem:=funSem f_spec_l11New
@[irreducible] noncomputable def p_spec_l11New:PSem:=pfunSem pf_spec_l11New
theorem sp_spec_l11New:SoundP s_spec_l11New p_spec_l11New:=by unfold s_spec_l11New p_spec_l11New;exact pfun_sound (f:=pf_spec_l11New) ⟨sp_spec_l11Combos,sp_spec_l1Below,sp_spec_NewCombiner,trivial⟩
def h_spec_l11New:List HT:=[]
def c_spec_l11New:List (Ql×CT):=[(.frz,.sl (.one (.int .u8))),(.own,.int .i64),(.own,.int .i64)]
def q_spec_l11New:QT:=.one (.agg [(.own,.sl (.cons (.int .i64) (.one (.int .i64)))),(.own,.int .i64),(.own,.sl (.cons (.int .i64) (.cons (.int .i64) (.one (.bool))))),(.own,.int .i64),(.own,.int .i64),(.own,.int .i64),(.own,.sl (.cons (.int .i64) (.cons (.int .i64) (.one (.bool)))))])
@[irreducible] noncomputable def v_spec_l11New(x:List (Int)×Int×Int):((List (Int×Int))×Int×(List (Int×Int×Bool))×Int×Int×Int×(List (Int×Int×Bool)))×(Int×Int):=(shut fun x=>fnPV df_spec_l11New h_spec_l11New c_spec_l11New q_spec_l11New x).1 x
@[irreducible] noncomputable def ok_spec_l11New(x:List (Int)×Int×Int):Prop:=(shut fun x=>fnPOk df_spec_l11New h_spec_l11New c_spec_l11New q_spec_l11New x).1 x
theorem vu_spec_l11New (x):v_spec_l11New x=fnPV df_spec_l11New h_spec_l11New c_spec_l11New q_spec_l11New x:=by unfold v_spec_l11New;exact congrFun (shut _).2 x
theorem ou_spec_l11New (x):ok_spec_l11New x=fnPOk df_spec_l11New h_spec_l11New c_spec_l11New q_spec_l11New x:=by unfold ok_spec_l11New;exact congrFun (shut _).2 x
noncomputable def D_spec_l11New:DSemP:=DSemOfP h_spec_l11New c_spec_l11New q_spec_l11New ok_spec_l11New v_spec_l11New
theorem ck_spec_l11New(x:List (Int)×Int×Int):fnPChk df_spec_l11New h_spec_l11New c_spec_l11New q_spec_l11New x=true:=by kernel_rfl
theorem ob_spec_l11New:AllD df_spec_l11New.body.obs:=⟨sd_spec_l11Combos,sd_spec_l1Below,sd_spec_NewCombiner,trivial⟩
theorem st_spec_l11New:fnPSt df_spec_l11New h_spec_l11New c_spec_l11New=true:=by kernel_rfl
theorem sd_spec_l11New:SoundDP p_spec_l11New D_spec_l11New:=by unfold p_spec_l11New;exact soundDP_of (f:=df_spec_l11New) (hs:=h_spec_l11New) (cs:=c_spec_l11New) (q:=q_spec_l11New) ob_spec_l11New st_spec_l11New ck_spec_l11New (fun x h=>Eq.mp (ou_spec_l11New x) h) (fun x=>(vu_spec_l11New x).symm)
noncomputable def dc_spec_l11Events:DCode:=
 (.seq [4,3,2,1,0] (.region [oa 0 10 (.mv (.c .nils))])
 (.seq [11,4,3,2,1,0] (.region [⟨0,some 14,.a false (.litSlice 3 0 [] []) (some (.cons (.int .i64) (.cons (.int .i64) (.one (.bool))))),none,[]⟩,
 om 1 11 14])
  (.seq [11] (.seq [12,11,3,2,1,0] (.region [om 0 15 0,
 om 1 16 4,
 oa 2 17 (.bin .add (.t 16) (.c (.int .i64 1))),
 op 3 18 s_spec_l1Below p_spec_l1Below D_spec_l1Below [(.t 15),(.t 17)],
 om 4 12 18])
  (.block 0 (.loop [0,1,2,3,11,12] 1 (.seq [12,11,3,2,1,0] (.seq [20,12,11,3,2,1,0] (.region [om 0 19 12,
 oa 1 20 (.bin .gtr (.t 19) (.c (.int .i64 0)))])
  (.cond (.t 20) .skip (.exit 0)))
  (.seq [12,11,3,2,1,0] (.block 1 (.seq [12,11,3,2,1,0] (.region [om 0 23 2,
 om 1 24 0,
 om 2 25 3,
 oa 3 26 (.bin .sub (.t 25) (.c (.int .i64 1))),
 oa 4 27 (.maxI (.c (.int .i64 0)) (.t 26)),
 om 5 28 3,
 om 6 29 3,
 oa 7 30 (.bin .add (.t 29) (.c (.int .i64 1))),
 ⟨8,some 31,.a false (.litSlice 1 9 [(.int .i64 0),(.int .i64 0),(.int .i64 0),(.int .i64 0),(.int .i64 0),(.int .i64 0),(.int .i64 0),(.int .i64 0),(.int .i64 0)] [(0,1,(.c (.int .i64 0))),(1,1,(.c (.int .i64 0))),(2,1,(.c (.int .i64 0))),(3,1,(.c (.int .i64 1))),(4,1,(.c (.int .i64 1))),(5,1,(.c (.int .i64 2))),(6,1,(.t 27)),(7,1,(.t 28)),(8,1,(.t 30))]) (some (.one (.int .i64))),none,[]⟩,
 ⟨9,some 32,.callp true s_spec_l1PickInt p_spec_l1PickInt D_spec_l1PickInt [(.t 24),(.t 31)],none,[]⟩,
 oa 10 33 (.bin .add (.t 23) (.t 32)),
 om 11 2 33])
  (.seq [13,12,11,3,2,1,0] (.region [om 0 34 0,
 op 1 35 s_spec_l1Below p_spec_l1Below D_spec_l1Below [(.t 34),(.c (.int .i64 5))],
 om 2 13 35])
  (.seq [13,12,11,3,2,1,0] (.region [om 0 36 1,
 om 1 37 13,
 oa 2 38 (.bin .shl (.c (.int .i64 1)) (.t 37)),
 oa 3 39 (.bin .xor (.t 36) (.t 38)),
 om 4 1 39])
  (.region [om 0 40 11,
 om 1 41 2,
 om 2 42 13,
 om 3 43 1,
 om 4 44 13,
 oa 5 45 (.bin .shr (.t 43) (.t 44)),
 oa 6 46 (.bin .and (.t 45) (.c (.int .i64 1))),
 oa 7 47 (.bin .eql (.t 46) (.c (.int .i64 1))),
 oa 8 48 (.build [(.int .i64 0),(.int .i64 0),(.bool false)] [(0,1,(.t 41)),(1,1,(.t 42)),(2,1,(.t 47))]),
 ⟨9,some 49,.a false (.litSlice 3 1 [(.int .i64 0),(.int .i64 0),(.bool false)] [(0,3,(.t 48))]) (some (.cons (.int .i64) (.cons (.int .i64) (.one (.bool))))),none,[]⟩,
 oa 10 50 (.app 3 (.t 40) (.t 49)),
 om 11 11 50])))))
  (.region [om 0 21 12,
 oa 1 22 (.bin .sub (.t 21) (.c (.int .i64 1))),
 om 2 12 22]))))))
  (.seq [10] (.region [om 0 51 11,
 om 1 10 51])
  .ret))))
noncomputable def df_spec_l11Events:DFun:=⟨5,52,0,false,[.tmp 10],dc_spec_l11Events⟩
noncomputable def pf_spec_l11Events:PFun:=df_spec_l11Events.er
noncomputable def f_spec_l11Events:AFun:=pf_spec_l11Events.er
@[irreducible] noncomputable def s_spec_l11Events:CallSem:=funSem f_spec_l11Events
@[irreducible] noncomputable def p_spec_l11Events:PSem:=pfunSem pf_spec_l11Events
theorem sp_spec_l11Events:SoundP s_spec_l11Events p_spec_l11Events:=by unfold s_spec_l11Events p_spec_l11Events;exact pfun_sound (f:=pf_spec_l11Events) ⟨sp_spec_l1Below,sp_spec_l1PickInt,sp_spec_l1Below,trivial⟩
def h_spec_l11Events:List HT:=[.one .frz (.int .i64),.one .frz (.int .i64),.one .frz (.int .i64),.one .frz (.int .i64)]
def c_spec_l11Events:List (Ql×CT):=[(.frz,.sl (.one (.int .u8))),(.own,.int .i64),(.own,.int .i64)]
def q_spec_l11Events:QT:=.one (.one .own (.sl (.cons (.int .i64) (.cons (.int .i64) (.one (.bool))))))
@[irreducible] noncomputable def v_spec_l11Events(x:(List (Int)×Int×Int)×Int×Int×Int×Int):(List (Int×Int×Bool))×(Int×Int):=(shut fun x=>fnPV df_spec_l11Events h_spec_l11Events c_spec_l11Events q_spec_l11Events x).1 x
@[irreducible] noncomputable def ok_spec_l11Events(x:(List (Int)×Int×Int)×Int×Int×Int×Int):Prop:=(shut fun x=>fnPOk df_spec_l11Events h_spec_l11Events c_spec_l11Events q_spec_l11Events x).1 x
theorem vu_spec_l11Events (x):v_spec_l11Events x=fnPV df_spec_l11Events h_spec_l11Events c_spec_l11Events q_spec_l11Events x:=by unfold v_spec_l11Events;exact congrFun (shut _).2 x
theorem ou_spec_l11Events (x):ok_spec_l11Events x=fnPOk df_spec_l11Events h_spec_l11Events c_spec_l11Events q_spec_l11Events x:=by unfold ok_spec_l11Events;exact congrFun (shut _).2 x
noncomputable def D_spec_l11Events:DSemP:=DSemOfP h_spec_l11Events c_spec_l11Events q_spec_l11Events ok_spec_l11Events v_spec_l11Events
theorem ck_spec_l11Events(x:(List (Int)×Int×Int)×Int×Int×Int×Int):fnPChk df_spec_l11Events h_spec_l11Events c_spec_l11Events q_spec_l11Events x=true:=by kernel_rfl
theorem ob_spec_l11Events:AllD df_spec_l11Events.body.obs:=⟨sd_spec_l1Below,sd_spec_l1PickInt,sd_spec_l1Below,trivial⟩
theorem st_spec_l11Events:fnPSt df_spec_l11Events h_spec_l11Events c_spec_l11Events=true:=by kernel_rfl
theorem sd_spec_l11Events:SoundDP p_spec_l11Events D_spec_l11Events:=by unfold p_spec_l11Events;exact soundDP_of (f:=df_spec_l11Events) (hs:=h_spec_l11Events) (cs:=c_spec_l11Events) (q:=q_spec_l11Events) ob_spec_l11Events st_spec_l11Events ck_spec_l11Events (fun x h=>Eq.mp (ou_spec_l11Events x) h) (fun x=>(vu_spec_l11Events x).symm)
noncomputable def dc_spec_l11Bent:DCode:=
 (.seq [0] (.region [oa 0 2 (.mv (.c .nils))])
 (.seq [3,0] (.region [om 0 4 0,
 op 1 5 s_spec_l11Combos p_spec_l11Combos D_spec_l11Combos [(.t 4)],
 om 2 3 5])
  (.seq [3] (.seq [7,3,0] (.region [om 0 6 0,
 op 1 7 s_spec_l1Once p_spec_l1Once D_spec_l1Once [(.t 6),(.c (.int .i64 3))]])
  (.cond (.t 7) (.region [om 0 8 3,
 om 1 9 0,
 ⟨2,some 10,.a false (.litSlice 1 6 [(.int .i64 0),(.int .i64 0),(.int .i64 0),(.int .i64 0),(.int .i64 0),(.int .i64 0)] [(0,1,(.c (.int .i64 3))),(1,1,(.c (.int .i64 1))),(2,1,(.c (.int .i64 31))),(3,1,(.c (.int .i64 16777217))),(4,1,(.c (.int .i64 (-1)))),(5,1,(.c (.int .i64 10)))]) (some (.one (.int .i64))),none,[]⟩,
 ⟨3,some 11,.callp true s_spec_l1PickInt p_spec_l1PickInt D_spec_l1PickInt [(.t 9),(.t 10)],none,[]⟩,
 om 4 12 0,
 ⟨5,some 13,.a false (.litSlice 1 5 [(.int .i64 0),(.int .i64 0),(.int .i64 0),(.int .i64 0),(.int .i64 0)] [(0,1,(.c (.int .i64 23))),(1,1,(.c (.int .i64 24))),(2,1,(.c (.int .i64 31))),(3,1,(.c (.int .i64 32))),(4,1,(.c (.int .i64 30)))]) (some (.one (.int .i64))),none,[]⟩,
 ⟨6,some 14,.callp true s_spec_l1PickInt p_spec_l1PickInt D_spec_l1PickInt [(.t 12),(.t 13)],none,[]⟩,
 oa 7 15 (.build [(.int .i64 0),(.int .i64 0)] [(0,1,(.t 11)),(1,1,(.t 14))]),
 ⟨8,some 16,.a false (.litSlice 2 1 [(.int .i64 0),(.int .i64 0)] [(0,2,(.t 15))]) (some (.cons (.int .i64) (.one (.int .i64)))),none,[]⟩,
 oa 9 17 (.app 2 (.t 8) (.t 16)),
 om 10 3 17]) .skip))
  (.seq [2] (.region [om 0 18 3,
 om 1 2 18])
  .ret))))
noncomputable def df_spec_l11Bent:DFun:=⟨1,19,0,false,[.tmp 2],dc_spec_l11Bent⟩
noncomputable def pf_spec_l11Bent:PFun:=df_spec_l11Bent.er
noncomputable def f_spec_l11Bent:AFun:=pf_spec_l11Bent.er
@[irreducible] noncomputable def s_spec_l11Bent:CallSem:=funSem f_spec_l11Bent
@[irreducible] noncomputable def p_spec_l11Bent:PSem:=pfunSem pf_spec_l11Bent
theorem sp_spec_l11Bent:SoundP s_spec_l11Bent p_spec_l11Bent:=by unfold s_spec_l11Bent p_spec_l11Bent;exact pfun_sound (f:=pf_spec_l11Bent) ⟨sp_spec_l11Combos,sp_spec_l1Once,sp_spec_l1PickInt,sp_spec_l1PickInt,trivial⟩
def h_spec_l11Bent:List HT:=[]
def c_spec_l11Bent:List (Ql×CT):=[(.frz,.sl (.one (.int .u8))),(.own,.int .i64),(.own,.int .i64)]
def q_spec_l11Bent:QT:=.one (.one .own (.sl (.cons (.int .i64) (.one (.int .i64)))))
@[irreducible] noncomputable def v_spec_l11Bent(x:List (Int)×Int×Int):(List (Int×Int))×(Int×Int):=(shut fun x=>fnPV df_spec_l11Bent h_spec_l11Bent c_spec_l11Bent q_spec_l11Bent x).1 x
@[irreducible] noncomputable def ok_spec_l11Bent(x:List (Int)×Int×Int):Prop:=(shut fun x=>fnPOk df_spec_l11Bent h_spec_l11Bent c_spec_l11Bent q_spec_l11Bent x).1 x
theorem vu_spec_l11Bent (x):v_spec_l11Bent x=fnPV df_spec_l11Bent h_spec_l11Bent c_spec_l11Bent q_spec_l11Bent x:=by unfold v_spec_l11Bent;exact congrFun (shut _).2 x
theorem ou_spec_l11Bent (x):ok_spec_l11Bent x=fnPOk df_spec_l11Bent h_spec_l11Bent c_spec_l11Bent q_spec_l11Bent x:=by unfold ok_spec_l11Bent;exact congrFun (shut _).2 x
noncomputable def D_spec_l11Bent:DSemP:=DSemOfP h_spec_l11Bent c_spec_l11Bent q_spec_l11Bent ok_spec_l11Bent v_spec_l11Bent
theorem ck_spec_l11Bent(x:List (Int)×Int×Int):fnPChk df_spec_l11Bent h_spec_l11Bent c_spec_l11Bent q_spec_l11Bent x=true:=by kernel_rfl
theorem ob_spec_l11Bent:AllD df_spec_l11Bent.body.obs:=⟨sd_spec_l11Combos,sd_spec_l1Once,sd_spec_l1PickInt,sd_spec_l1PickInt,trivial⟩
theorem st_spec_l11Bent:fnPSt df_spec_l11Bent h_spec_l11Bent c_spec_l11Bent=true:=by kernel_rfl
theorem sd_spec_l11Bent:SoundDP p_spec_l11Bent D_spec_l11Bent:=by unfold p_spec_l11Bent;exact soundDP_of (f:=df_spec_l11Bent) (hs:=h_spec_l11Bent) (cs:=c_spec_l11Bent) (q:=q_spec_l11Bent) ob_spec_l11Bent st_spec_l11Bent ck_spec_l11Bent (fun x h=>Eq.mp (ou_spec_l11Bent x) h) (fun x=>(vu_spec_l11Bent x).symm)
noncomputable def dc_spec_l11Last:DCode:=
 (.seq [1,0] (.region [oi 0 4 0])
 (.seq [0] (.seq [7,1,0] (.region [on 0 5 0,
 oa 1 6 (.len (.t 5)),
 oa 2 7 (.bin .eql (.t 6) (.c (.int .i64 0)))])
  (.cond (.t 7) (.seq [4] (.region [om 0 8 1,
 om 1 4 8])
  .ret) .skip))
  (.seq [4] (.region [on 0 9 0,
 on 1 10 0,
 oa 2 11 (.len (.t 10)),
 oa 3 12 (.bin .sub (.t 11) (.c (.int .i64 1))),
 oa 4 13 (.indexA 3 (.t 9) (.t 12)),
 oa 5 14 (.fieldA 0 (.t 13)),
 ob 6 15 (.loadH none (.t 14)),
 om 7 4 15])
  .ret)))
noncomputable def df_spec_l11Last:DFun:=⟨2,16,0,true,[.tmp 4],dc_spec_l11Last⟩
noncomputable def pf_spec_l11Last:PFun:=df_spec_l11Last.er
noncomputable def f_spec_l11Last:AFun:=pf_spec_l11Last.er
@[irreducible] noncomputable def s_spec_l11Last:CallSem:=funSem f_spec_l11Last
@[irreducible] noncomputable def p_spec_l11Last:PSem:=pfunSem pf_spec_l11Last
theorem sp_spec_l11Last:SoundP s_spec_l11Last p_spec_l11Last:=by unfold s_spec_l11Last p_spec_l11Last;exact pfun_sound (f:=pf_spec_l11Last) trivial
def h_spec_l11Last:List HT:=[.one .frz (.sl (.cons (.int .i64) (.cons (.int .i64) (.one (.bool))))),.one .frz (.int .i64)]
def q_spec_l11Last:QT:=.one (.one .own (.int .i64))
@[irreducible] noncomputable def v_spec_l11Last(x:(List (Int×Int×Bool))×Int):Int:=(shut fun x=>fnV df_spec_l11Last h_spec_l11Last q_spec_l11Last x).1 x
@[irreducible] noncomputable def ok_spec_l11Last(x:(List (Int×Int×Bool))×Int):Prop:=(shut fun x=>fnOk df_spec_l11Last h_spec_l11Last q_spec_l11Last x).1 x
theorem vu_spec_l11Last (x):v_spec_l11Last x=fnV df_spec_l11Last h_spec_l11Last q_spec_l11Last x:=by unfold v_spec_l11Last;exact congrFun (shut _).2 x
theorem ou_spec_l11Last (x):ok_spec_l11Last x=fnOk df_spec_l11Last h_spec_l11Last q_spec_l11Last x:=by unfold ok_spec_l11Last;exact congrFun (shut _).2 x
noncomputable def D_spec_l11Last:DSem:=DSemOf h_spec_l11Last q_spec_l11Last ok_spec_l11Last v_spec_l11Last
theorem ck_spec_l11Last(x:(List (Int×Int×Bool))×Int):fnChk df_spec_l11Last h_spec_l11Last q_spec_l11Last x=true:=by kernel_rfl
theorem ob_spec_l11Last:AllD df_spec_l11Last.body.obs:=trivial
theorem st_spec_l11Last:fnSt df_spec_l11Last h_spec_l11Last q_spec_l11Last=true:=by kernel_rfl
theorem sd_spec_l11Last:SoundD p_spec_l11Last D_spec_l11Last:=by unfold p_spec_l11Last;exact soundD_of (f:=df_spec_l11Last) (hs:=h_spec_l11Last) (q:=q_spec_l11Last) ob_spec_l11Last st_spec_l11Last ck_spec_l11Last (fun x h=>Eq.mp (ou_spec_l11Last x) h) (fun x=>(vu_spec_l11Last x).symm)
noncomputable def dc_spec_DrawMatchCombo:DCode:=
 (.seq [0] (.region [oa 0 2 (.mv (.c .nils)),
 oi 1 3 0,
 oa 2 4 (.mv (.c .nils)),
 oi 3 5 0])
  (.seq [6] (.region [on 0 9 0,
 op 1 10 s_spec_l1New p_spec_l1New D_spec_l1New [(.t 9)],
 om 2 6 10])
  (.seq [7,6] (.region [om 0 11 6,
 op 1 12 s_spec_l11New p_spec_l11New D_spec_l11New [(.t 11)],
 oa 2 7 (.allocB 0 [.nils,(.int .i64 0),.nils,(.int .i64 0),(.int .i64 0),(.int .i64 0),.nils]),
 os 3 (.storeB 0 7 (.t 7) (.t 12))])
  (.seq [8,7,6] (.region [om 0 13 6,
 oa 1 14 (.fieldA 1 (.t 7)),
 oa 2 15 (.loadB 0 none (.t 14)),
 op 3 16 s_spec_l11Events p_spec_l11Events D_spec_l11Events [(.t 13),(.c (.int .i64 0)),(.c (.int .i64 0)),(.t 15),(.c (.int .i64 5))],
 om 4 8 16])
  (.seq [8,7,6] (.seq [23,8,7,6] (.region [on 0 17 8,
 oa 1 18 (.len (.t 17)),
 oa 2 19 (.bin .gtr (.t 18) (.c (.int .i64 0))),
 om 3 20 19,
 og 4 21 (.mv (.t 6)) 20 true,
 ⟨5,some 22,.callp false s_spec_l1Once p_spec_l1Once D_spec_l1Once [(.t 21),(.c (.int .i64 10))],(some (20,true)),[]⟩,
 oa 6 23 (.pick (.t 20) (.t 22) (.c (.bool false)))])
  (.cond (.t 23) (.region [on 0 24 8,
 om 1 25 6,
 on 2 26 8,
 oa 3 27 (.len (.t 26)),
 op 4 28 s_spec_l1Below p_spec_l1Below D_spec_l1Below [(.t 25),(.t 27)],
 om 5 29 6,
 ⟨6,some 30,.a false (.litSlice 1 4 [(.int .i64 0),(.int .i64 0),(.int .i64 0),(.int .i64 0)] [(0,1,(.c (.int .i64 (-1)))),(1,1,(.c (.int .i64 24))),(2,1,(.c (.int .i64 31))),(3,1,(.c (.int .i64 32)))]) (some (.one (.int .i64))),none,[]⟩,
 ⟨7,some 31,.callp true s_spec_l1PickInt p_spec_l1PickInt D_spec_l1PickInt [(.t 29),(.t 30)],none,[]⟩,
 oa 8 32 (.indexA 3 (.t 24) (.t 28)),
 oa 9 33 (.fieldA 1 (.t 32)),
 os 10 (.storeH 1 (.t 33) (.t 31))]) .skip))
  (.seq [8,7,6] (.seq [35,8,7,6] (.region [om 0 34 6,
 op 1 35 s_spec_l1Once p_spec_l1Once D_spec_l1Once [(.t 34),(.c (.int .i64 10))]])
  (.cond (.t 35) (.seq [5,4,3,2] (.region [om 0 36 6,
 op 1 37 s_spec_l11Bent p_spec_l11Bent D_spec_l11Bent [(.t 36)],
 om 2 38 6,
 ⟨3,some 39,.a false (.litSlice 1 3 [(.int .i64 0),(.int .i64 0),(.int .i64 0)] [(0,1,(.c (.int .i64 0))),(1,1,(.c (.int .i64 3))),(2,1,(.c (.int .i64 201)))]) (some (.one (.int .i64))),none,[]⟩,
 ⟨4,some 40,.callp true s_spec_l1PickInt p_spec_l1PickInt D_spec_l1PickInt [(.t 38),(.t 39)],none,[]⟩,
 om 5 41 8,
 om 6 2 37,
 om 7 3 40,
 om 8 4 41,
 oi 9 5 5])
  .ret) .skip))
  (.seq [5,4,3,2] (.region [oa 0 42 (.fieldA 0 (.t 7)),
 xB 1 43 (.loadB 0 none (.t 42)) (rg 1),
 oa 2 44 (.fieldA 1 (.t 7)),
 xB 3 45 (.loadB 0 none (.t 44)) [2],
 on 5 47 8,
 om 7 49 6,
 xC 6 48 s_spec_l11Last p_spec_l11Last D_spec_l11Last [(.t 47),(.c (.int .i64 0))] [5],
 om 4 46 8,
 xP 8 50 s_spec_l1Below p_spec_l1Below D_spec_l1Below [(.t 49),(.c (.int .i64 8))] [5,6,7],
 xA 9 51 (.bin .add (.t 48) (.t 50)) [5,6,7,8],
 xA 10 2 (.mv (.t 43)) [0,1,5,6,7,8],
 xA 11 3 (.mv (.t 45)) [0,1,2,3,5,6,7,8,10],
 xA 12 4 (.mv (.t 46)) [0,1,2,3,4,5,6,7,8,10,11],
 xA 13 5 (.mv (.t 51)) (rg 13)])
  .ret)))))))
noncomputable def df_spec_DrawMatchCombo:DFun:=⟨1,52,1,false,[.tmp 2,.tmp 3,.tmp 4,.tmp 5],dc_spec_DrawMatchCombo⟩
noncomputable def pf_spec_DrawMatchCombo:PFun:=df_spec_DrawMatchCombo.er
noncomputable def f_spec_DrawMatchCombo:AFun:=pf_spec_DrawMatchCombo.er
@[irreducible] noncomputable def s_spec_DrawMatchCombo:CallSem:=funSem f_spec_DrawMatchCombo
@[irreducible] noncomputable def p_spec_DrawMatchCombo:PSem:=pfunSem pf_spec_DrawMatchCombo
theorem sp_spec_DrawMatchCombo:SoundP s_spec_DrawMatchCombo p_spec_DrawMatchCombo:=by unfold s_spec_DrawMatchCombo p_spec_DrawMatchCombo;exact pfun_sound (f:=pf_spec_DrawMatchCombo) ⟨sp_spec_l1New,sp_spec_l11New,sp_spec_l11Events,sp_spec_l1Once,sp_spec_l1Below,sp_spec_l1PickInt,sp_spec_l1Once,sp_spec_l11Bent,sp_spec_l1PickInt,sp_spec_l11Last,sp_spec_l1Below,trivial⟩
def h_spec_DrawMatchCombo:List HT:=[.one .frz (.sl (.one (.int .u8)))]
def q_spec_DrawMatchCombo:QT:=.tup [.one .own (.sl (.cons (.int .i64) (.one (.int .i64)))),.one .own (.int .i64),.one .own (.sl (.cons (.int .i64) (.cons (.int .i64) (.one (.bool))))),.one .own (.int .i64)]
@[irreducible] noncomputable def v_spec_DrawMatchCombo(x:List (Int)):(List (Int×Int))×Int×(List (Int×Int×Bool))×Int:=(shut fun x=>fnV df_spec_DrawMatchCombo h_spec_DrawMatchCombo q_spec_DrawMatchCombo x).1 x
@[irreducible] noncomputable def ok_spec_DrawMatchCombo(x:List (Int)):Prop:=(shut fun x=>fnOk df_spec_DrawMatchCombo h_spec_DrawMatchCombo q_spec_DrawMatchCombo x).1 x
theorem vu_spec_DrawMatchCombo (x):v_spec_DrawMatchCombo x=fnV df_spec_DrawMatchCombo h_spec_DrawMatchCombo q_spec_DrawMatchCombo x:=by unfold v_spec_DrawMatchCombo;exact congrFun (shut _).2 x
theorem ou_spec_DrawMatchCombo (x):ok_spec_DrawMatchCombo x=fnOk df_spec_DrawMatchCombo h_spec_DrawMatchCombo q_spec_DrawMatchCombo x:=by unfold ok_spec_DrawMatchCombo;exact congrFun (shut _).2 x
noncomputable def D_spec_DrawMatchCombo:DSem:=DSemOf h_spec_DrawMatchCombo q_spec_DrawMatchCombo ok_spec_DrawMatchCombo v_spec_DrawMatchCombo
theorem ck_spec_DrawMatchCombo(x:List (Int)):fnChk df_spec_DrawMatchCombo h_spec_DrawMatchCombo q_spec_DrawMatchCombo x=true:=by kernel_rfl
theorem ob_spec_DrawMatchCombo:AllD df_spec_DrawMatchCombo.body.obs:=⟨sd_spec_l1New,sd_spec_l11New,sd_spec_l11Events,sd_spec_l1Once,sd_spec_l1Below,sd_spec_l1PickInt,sd_spec_l1Once,sd_spec_l11Bent,sd_spec_l1PickInt,sd_spec_l11Last,sd_spec_l1Below,trivial⟩
theorem st_spec_DrawMatchCombo:fnSt df_spec_DrawMatchCombo h_spec_DrawMatchCombo q_spec_DrawMatchCombo=true:=by kernel_rfl
theorem sd_spec_DrawMatchCombo:SoundD p_spec_DrawMatchCombo D_spec_DrawMatchCombo:=by unfold p_spec_DrawMatchCombo;exact soundD_of (f:=df_spec_DrawMatchCombo) (hs:=h_spec_DrawMatchCombo) (q:=q_spec_DrawMatchCombo) ob_spec_DrawMatchCombo st_spec_DrawMatchCombo ck_spec_DrawMatchCombo (fun x h=>Eq.mp (ou_spec_DrawMatchCombo x) h) (fun x=>(vu_spec_DrawMatchCombo x).symm)
noncomputable def dc_laws_FnMatches:DCode:=
 (.seq [0] (.region [oa 0 2 (.mv (.c (.bool false)))])
 (.seq [0] (.seq [16,0] (.region [on 0 15 0,
 oc 1 16 s_laws_big p_laws_big D_laws_big [(.t 15)]])
  (.cond (.t 16) (.seq [2] (.region [oa 0 2 (.mv (.c (.bool true)))])
  .ret) .skip))
  (.seq [5,4,3] (.region [on 0 18 0,
 oc 1 19 s_spec_DrawMatchCombo p_spec_DrawMatchCombo D_spec_DrawMatchCombo [(.t 18)],
 om 2 17 19,
 oa 3 20 (.extract (.t 17) 0),
 oa 4 21 (.extract (.t 17) 1),
 oa 5 22 (.extract (.t 17) 2),
 oa 6 23 (.extract (.t 17) 3),
 on 7 3 20,
 om 8 4 21,
 on 9 5 22,
 om 10 6 23])
  (.seq [5,4,3] (.seq [38,5,4,3] (.region [on 0 24 5,
 oc 1 25 s_spec_IsEvents p_spec_IsEvents D_spec_IsEvents [(.t 24)],
 oa 2 26 (.un .not (.t 25)),
 om 3 27 26,
 ⟨4,some 28,.a true (.mv (.t 5)) none,(some (27,false)),[]⟩,
 og 5 29 (.len (.t 28)) 27 false,
 og 6 30 (.bin .eql (.t 29) (.c (.int .i64 0))) 27 false,
 oa 7 31 (.pick (.t 27) (.c (.bool true)) (.t 30)),
 om 8 32 31,
 ⟨9,some 33,.a true (.mv (.t 5)) none,(some (32,false)),[]⟩,
 og 10 34 (.indexA 3 (.t 33) (.c (.int .i64 0))) 32 false,
 og 11 35 (.fieldA 2 (.t 34)) 32 false,
 og 12 36 (.loadH none (.t 35)) 32 false,
 og 13 37 (.un .not (.t 36)) 32 false,
 oa 14 38 (.pick (.t 32) (.c (.bool true)) (.t 37))])
  (.cond (.t 38) (.seq [2] (.region [oa 0 2 (.mv (.c (.bool true)))])
  .ret) .skip))
  (.seq [5,4,3] (.seq [7,5,4,3] (.region [oi 0 7 0])
  (.block 0 (.loop [3,4,5,7] 1 (.seq [7,5,4,3] (.seq [42,7,5,4,3] (.region [om 0 39 7,
 on 1 40 5,
 oa 2 41 (.len (.t 40)),
 oa 3 42 (.bin .lss (.t 39) (.t 41))])
  (.cond (.t 42) .skip (.exit 0)))
  (.seq [7,5,4,3] (.block 1 (.seq [50,7,5,4,3] (.region [on 0 45 5,
 om 1 46 7,
 oa 2 47 (.indexA 3 (.t 45) (.t 46)),
 oa 3 48 (.fieldA 1 (.t 47)),
 oa 4 49 (.loadH none (.t 48)),
 oa 5 50 (.bin .geq (.t 49) (.c (.int .i64 24)))])
  (.cond (.t 50) (.seq [2] (.region [oa 0 2 (.mv (.c (.bool true)))])
  .ret) .skip)))
  (.region [om 0 43 7,
 oa 1 44 (.bin .add (.t 43) (.c (.int .i64 1))),
 om 2 7 44]))))))
  (.seq [10,9,8,5,4,3] (.region [on 0 52 3,
 om 1 53 4,
 on 2 54 5,
 oc 3 55 s_impl_MatchCombo p_impl_MatchCombo D_impl_MatchCombo [(.t 52),(.t 53),(.t 54),(.c (.int .i64 1000000))],
 om 4 51 55,
 oa 5 56 (.extract (.t 51) 0),
 oa 6 57 (.extract (.t 51) 1),
 oa 7 58 (.extract (.t 51) 2),
 om 8 8 56,
 om 9 9 57,
 om 10 10 58])
  (.seq [10,9,8,5,4,3] (.seq [11,10,9,8,5,4,3] (.region [oi 0 11 1])
  (.block 2 (.loop [3,4,5,8,9,10,11] 1 (.seq [11,10,9,8,5,4,3] (.seq [62,11,10,9,8,5,4,3] (.region [om 0 59 11,
 on 1 60 5,
 oa 2 61 (.len (.t 60)),
 oa 3 62 (.bin .lss (.t 59) (.t 61))])
  (.cond (.t 62) .skip (.exit 2)))
  (.seq [11,10,9,8,5,4,3] (.block 3 (.seq [14,13,12,11,10,9,8,5,4,3] (.region [on 0 66 3,
 om 1 67 4,
 on 2 68 5,
 om 3 69 11,
 xA 4 70 (.slice 3 (.t 68) none (some (.t 69))) [2,3],
 on 5 71 5,
 om 6 72 11,
 xA 7 73 (.indexA 3 (.t 71) (.t 72)) [5,6],
 xA 8 74 (.fieldA 0 (.t 73)) [5,6,7],
 xA 9 75 (.loadH none (.t 74)) [5,6,7,8],
 xC 10 76 s_impl_MatchCombo p_impl_MatchCombo D_impl_MatchCombo [(.t 66),(.t 67),(.t 70),(.t 75)] (rg 10),
 xA 11 65 (.mv (.t 76)) (rg 11),
 xA 12 77 (.extract (.t 65) 0) (rg 12),
 xA 13 78 (.extract (.t 65) 1) [0,1,2,3,4,5,6,7,8,9,10,11],
 xA 14 79 (.extract (.t 65) 2) [0,1,2,3,4,5,6,7,8,9,10,11],
 xA 15 12 (.mv (.t 77)) [0,1,2,3,4,5,6,7,8,9,10,11,12],
 xA 16 13 (.mv (.t 78)) [0,1,2,3,4,5,6,7,8,9,10,11,12,13,15],
 xA 17 14 (.mv (.t 79)) (rg 17)])
  (.seq [96,11,10,9,8,5,4,3] (.region [om 0 80 12,
 oa 1 81 (.bin .gtr (.t 80) (.c (.int .i64 0))),
 om 2 82 81,
 og 3 83 (.mv (.t 12)) 82 true,
 og 4 84 (.mv (.t 8)) 82 true,
 og 5 85 (.bin .neq (.t 83) (.t 84)) 82 true,
 og 6 86 (.mv (.t 85)) 82 true,
 og 7 87 (.mv (.t 13)) 86 false,
 og 8 88 (.mv (.t 9)) 86 false,
 og 9 89 (.bin .neq (.t 87) (.t 88)) 86 false,
 og 10 90 (.pick (.t 86) (.c (.bool true)) (.t 89)) 82 true,
 og 11 91 (.mv (.t 90)) 82 true,
 og 12 92 (.mv (.t 14)) 91 false,
 og 13 93 (.mv (.t 10)) 91 false,
 og 14 94 (.bin .neq (.t 92) (.t 93)) 91 false,
 og 15 95 (.pick (.t 91) (.c (.bool true)) (.t 94)) 82 true,
 oa 16 96 (.pick (.t 82) (.t 95) (.c (.bool false)))])
  (.cond (.t 96) (.seq [2] (.region [oa 0 2 (.mv (.c (.bool false)))])
  .ret) .skip))))
  (.region [om 0 63 11,
 oa 1 64 (.bin .add (.t 63) (.c (.int .i64 1))),
 om 2 11 64]))))))
  (.seq [10,9,8,5,4] (.seq [107,10,9,8,5,4] (.region [on 0 97 3,
 oc 1 98 s_spec_IsCombos p_spec_IsCombos D_spec_IsCombos [(.t 97)],
 oa 2 99 (.un .not (.t 98)),
 om 3 100 99,
 og 4 101 (.mv (.t 4)) 100 false,
 og 5 102 (.bin .lss (.t 101) (.c (.int .i64 1))) 100 false,
 oa 6 103 (.pick (.t 100) (.c (.bool true)) (.t 102)),
 om 7 104 103,
 og 8 105 (.mv (.t 4)) 104 false,
 og 9 106 (.bin .gtr (.t 105) (.c (.int .i64 200))) 104 false,
 oa 10 107 (.pick (.t 104) (.c (.bool true)) (.t 106))])
  (.cond (.t 107) (.seq [2] (.region [om 0 108 8,
 oa 1 109 (.bin .eql (.t 108) (.c (.int .i64 0))),
 om 2 2 109])
  .ret) .skip))
  (.seq [2] (.region [om 0 110 8,
 oa 1 111 (.bin .geq (.t 110) (.c (.int .i64 1))),
 om 2 112 111,
 og 3 113 (.mv (.t 8)) 112 true,
 ⟨4,some 114,.a true (.mv (.t 5)) none,(some (112,true)),[]⟩,
 og 5 115 (.len (.t 114)) 112 true,
 og 6 116 (.bin .leq (.t 113) (.t 115)) 112 true,
 oa 7 117 (.pick (.t 112) (.t 116) (.c (.bool false))),
 om 8 118 117,
 og 9 119 (.mv (.t 9)) 118 true,
 ⟨10,some 120,.a true (.mv (.t 5)) none,(some (118,true)),[]⟩,
 og 11 121 (.indexA 3 (.t 120) (.c (.int .i64 0))) 118 true,
 og 12 122 (.fieldA 0 (.t 121)) 118 true,
 og 13 123 (.loadH none (.t 122)) 118 true,
 og 14 124 (.bin .geq (.t 119) (.t 123)) 118 true,
 oa 15 125 (.pick (.t 118) (.t 124) (.c (.bool false))),
 om 16 126 125,
 og 17 127 (.mv (.t 9)) 126 true,
 ⟨18,some 128,.a true (.mv (.t 5)) none,(some (126,true)),[]⟩,
 og 19 129 (.indexA 3 (.t 128) (.c (.int .i64 0))) 126 true,
 og 20 130 (.fieldA 0 (.t 129)) 126 true,
 og 21 131 (.loadH none (.t 130)) 126 true,
 og 22 132 (.mv (.t 4)) 126 true,
 og 23 133 (.bin .add (.t 131) (.t 132)) 126 true,
 og 24 134 (.bin .leq (.t 127) (.t 133)) 126 true,
 oa 25 135 (.pick (.t 126) (.t 134) (.c (.bool false))),
 om 26 136 135,
 og 27 137 (.mv (.t 10)) 136 true,
 og 28 138 (.bin .geq (.t 137) (.c (.int .i64 0))) 136 true,
 og 29 139 (.mv (.t 8)) 136 true,
 og 30 140 (.bin .gtr (.t 139) (.c (.int .i64 1))) 136 true,
 og 31 141 (.eqB false (.t 138) (.t 140)) 136 true,
 oa 32 142 (.pick (.t 136) (.t 141) (.c (.bool false))),
 om 33 2 142])
  .ret)))))))))
noncomputable def df_laws_FnMatches:DFun:=⟨1,143,0,true,[.tmp 2],dc_laws_FnMatches⟩
noncomputable def pf_laws_FnMatches:PFun:=df_laws_FnMatches.er
noncomputable def f_laws_FnMatches:AFun:=pf_laws_FnMatches.er
@[irreducible] noncomputable def s_laws_FnMatches:CallSem:=funSem f_laws_FnMatches
@[irreducible] noncomputable def p_laws_FnMatches:PSem:=pfunSem pf_laws_FnMatches
theorem sp_laws_FnMatches:SoundP s_laws_FnMatches p_laws_FnMatches:=by unfold s_laws_FnMatches p_laws_FnMatches;exact pfun_sound (f:=pf_laws_FnMatches) ⟨sp_laws_big,sp_spec_DrawMatchCombo,sp_spec_IsEvents,sp_impl_MatchCombo,sp_impl_MatchCombo,sp_spec_IsCombos,trivial⟩
def h_laws_FnMatches:List HT:=[.one .frz (.sl (.one (.int .u8)))]
def q_laws_FnMatches:QT:=.one (.one .own (.bool))
@[irreducible] noncomputable def v_laws_FnMatches(x:List (Int)):Bool:=(shut fun x=>fnV df_laws_FnMatches h_laws_FnMatches q_laws_FnMatches x).1 x
@[irreducible] noncomputable def ok_laws_FnMatches(x:List (Int)):Prop:=(shut fun x=>fnOk df_laws_FnMatches h_laws_FnMatches q_laws_FnMatches x).1 x
theorem vu_laws_FnMatches (x):v_laws_FnMatches x=fnV df_laws_FnMatches h_laws_FnMatches q_laws_FnMatches x:=by unfold v_laws_FnMatches;exact congrFun (shut _).2 x
theorem ou_laws_FnMatches (x):ok_laws_FnMatches x=fnOk df_laws_FnMatches h_laws_FnMatches q_laws_FnMatches x:=by unfold ok_laws_FnMatches;exact congrFun (shut _).2 x
theorem ck_laws_FnMatches(x:List (Int)):fnChk df_laws_FnMatches h_laws_FnMatches q_laws_FnMatches x=true:=by kernel_rfl
theorem ob_laws_FnMatches:AllD df_laws_FnMatches.body.obs:=⟨sd_laws_big,sd_spec_DrawMatchCombo,sd_spec_IsEvents,sd_impl_MatchCombo,sd_impl_MatchCombo,sd_spec_IsCombos,trivial⟩
theorem st_laws_FnMatches:fnSt df_laws_FnMatches h_laws_FnMatches q_laws_FnMatches=true:=by kernel_rfl
end
section
set_option maxRecDepth 100000
noncomputable def lc_spec_l11Combos_1(x0:((List (Int×Int))×(Int×(Int×(Int×Int))))):Bool:=(bAnd (iGt x0.2.2.1 0) (iLt x0.2.1 (lLen [(3:Int),5,6,7,12,24,9,11,14,15])))
noncomputable def lf_spec_l11Combos_1(x:List (Int)×Int×Int)(x0:((List (Int×Int))×(Int×(Int×(Int×Int))))):((List (Int×Int))×(Int×(Int×(Int×Int)))):=((lApp x0.1 [((lGet [3,5,6,7,12,24,9,11,14,15] (iNat x0.2.1) 0),(iAdd .i64 24 (lLen x0.1)))]),(iAdd .i64 (iAdd .i64 x0.2.1 1) (v_spec_l1Below ((x.1,x0.2.2.2),3)).1),(iSub .i64 x0.2.2.1 1),(v_spec_l1Below ((x.1,x0.2.2.2),3)).2)
noncomputable def lp_spec_l11Combos_1(x:List (Int)×Int×Int)(x0:((List (Int×Int))×(Int×(Int×(Int×Int))))):Prop:=(((bAnd (iGt x0.2.2.1 0) (iLt x0.2.1 (lLen [(3:Int),5,6,7,12,24,9,11,14,15])))=true→((((0:Int)≤x0.2.1)∧(x0.2.1<(((List.length [(3:Int),5,6,7,12,24,9,11,14,15]):Int))))∧(((iNat x0.2.1)<(List.length [(3:Int),5,6,7,12,24,9,11,14,15]))∧((((List.length x0.1)=(List.length x0.1))∧(roomy (((List.length x0.1)+(List.length [((lGet [3,5,6,7,12,24,9,11,14,15] (iNat x0.2.1) 0),(iAdd .i64 24 (lLen x0.1)))]))*2)))∧(ok_spec_l1Below ((x.1,x0.2.2.2),3))))))∧((bAnd (iGt x0.2.2.1 0) (iLt x0.2.1 (lLen [(3:Int),5,6,7,12,24,9,11,14,15])))=false→True))
theorem ve_spec_l11Combos (x):v_spec_l11Combos x=((loopV lc_spec_l11Combos_1 (lf_spec_l11Combos_1 x) ([],(v_spec_l1Below (x,4)).1,(v_spec_l1Below ((x.1,(v_spec_l1Below (x,4)).2),5)))).1,(loopV lc_spec_l11Combos_1 (lf_spec_l11Combos_1 x) ([],(v_spec_l1Below (x,4)).1,(v_spec_l1Below ((x.1,(v_spec_l1Below (x,4)).2),5)))).2.2.2):=(vu_spec_l11Combos x).trans (by kernel_rfl)
theorem oe_spec_l11Combos (x):ok_spec_l11Combos x=((ok_spec_l1Below (x,4))∧((ok_spec_l1Below ((x.1,(v_spec_l1Below (x,4)).2),5))∧(LoopOk lc_spec_l11Combos_1 (lf_spec_l11Combos_1 x) (lp_spec_l11Combos_1 x) ([],(v_spec_l1Below (x,4)).1,(v_spec_l1Below ((x.1,(v_spec_l1Below (x,4)).2),5)))))):=(ou_spec_l11Combos x).trans (by kernel_rfl)
noncomputable def ls_spec_l11Active_1(x:(List (Int×Int))×Int×(List (Int×Int×Bool))×Int×Int×Int×(List (Int×Int×Bool)))(x0:(Int×Int)):=v_spec_l11Keys (x.1,(lGet x.2.2.2.2.2.2 (iNat x0.2) (0,0,false)).1)
noncomputable def lc_spec_l11Active_2(x:(List (Int×Int))×Int×(List (Int×Int×Bool))×Int×Int×Int×(List (Int×Int×Bool)))(x0:(Int×Int))(x1:Int):Bool:=(bAnd (iLt x1 x0.2) (bNot (iEq (lGet x.2.2.2.2.2.2 (iNat x1) (0,0,false)).1 (lGet x.2.2.2.2.2.2 (iNat x0.2) (0,0,false)).1)))
noncomputable def lf_spec_l11Active_2(x1:Int):Int:=(iAdd .i64 x1 1)
noncomputable def lc_spec_l11Active_1(x:(List (Int×Int))×Int×(List (Int×Int×Bool))×Int×Int×Int×(List (Int×Int×Bool)))(x0:(Int×Int)):Bool:=(bAnd (iLt x0.2 (lLen x.2.2.2.2.2.2)) (bAnd (bNot (bOr (iLe (lGet x.2.2.2.2.2.2 (iNat x0.2) (0,0,false)).2.1 0) (bOr (iNe (iAndNot .i64 (lGet x.2.2.2.2.2.2 (iNat x0.2) (0,0,false)).2.1 (ls_spec_l11Active_1 x x0)) 0) (bOr (bNot (bIff (lGet x.2.2.2.2.2.2 (iNat x0.2) (0,0,false)).2.2 (iEq (lGet x.2.2.2.2.2.2 (iNat x0.2) (0,0,false)).2.1 (ls_spec_l11Active_1 x x0)))) (iNe (iAnd .i64 (lGet x.2.2.2.2.2.2 (iNat x0.2) (0,0,false)).2.1 x0.1) 0))))) (bNot (iLt (loopV (lc_spec_l11Active_2 x x0) lf_spec_l11Active_2 0) x0.2))))
noncomputable def lf_spec_l11Active_1(x:(List (Int×Int))×Int×(List (Int×Int×Bool))×Int×Int×Int×(List (Int×Int×Bool)))(x0:(Int×Int)):(Int×Int):=((iOr .i64 x0.1 (lGet x.2.2.2.2.2.2 (iNat x0.2) (0,0,false)).2.1),(iAdd .i64 x0.2 1))
noncomputable def lp_spec_l11Active_2(x:(List (Int×Int))×Int×(List (Int×Int×Bool))×Int×Int×Int×(List (Int×Int×Bool)))(x0:(Int×Int))(x1:Int):Prop:=(((iLt x1 x0.2)=true→((((0:Int)≤x1)∧(x1<(((List.length x.2.2.2.2.2.2):Int))))∧((iNat x1)<(List.length x.2.2.2.2.2.2))))∧((iLt x1 x0.2)=false→True))
noncomputable def lp_spec_l11Active_1(x:(List (Int×Int))×Int×(List (Int×Int×Bool))×Int×Int×Int×(List (Int×Int×Bool)))(x0:(Int×Int)):Prop:=(((iLt x0.2 (lLen x.2.2.2.2.2.2))=true→((((0:Int)≤x0.2)∧(x0.2<(((List.length x.2.2.2.2.2.2):Int))))∧(((iNat x0.2)<(List.length x.2.2.2.2.2.2))∧((ok_spec_l11Keys (x.1,(lGet x.2.2.2.2.2.2 (iNat x0.2) (0,0,false)).1))∧(((bOr (iLe (lGet x.2.2.2.2.2.2 (iNat x0.2) (0,0,false)).2.1 0) (bOr (iNe (iAndNot .i64 (lGet x.2.2.2.2.2.2 (iNat x0.2) (0,0,false)).2.1 (ls_spec_l11Active_1 x x0)) 0) (bOr (bNot (bIff (lGet x.2.2.2.2.2.2 (iNat x0.2) (0,0,false)).2.2 (iEq (lGet x.2.2.2.2.2.2 (iNat x0.2) (0,0,false)).2.1 (ls_spec_l11Active_1 x x0)))) (iNe (iAnd .i64 (lGet x.2.2.2.2.2.2 (iNat x0.2) (0,0,false)).2.1 x0.1) 0))))=true→True)∧((bOr (iLe (lGet x.2.2.2.2.2.2 (iNat x0.2) (0,0,false)).2.1 0) (bOr (iNe (iAndNot .i64 (lGet x.2.2.2.2.2.2 (iNat x0.2) (0,0,false)).2.1 (ls_spec_l11Active_1 x x0)) 0) (bOr (bNot (bIff (lGet x.2.2.2.2.2.2 (iNat x0.2) (0,0,false)).2.2 (iEq (lGet x.2.2.2.2.2.2 (iNat x0.2) (0,0,false)).2.1 (ls_spec_l11Active_1 x x0)))) (iNe (iAnd .i64 (lGet x.2.2.2.2.2.2 (iNat x0.2) (0,0,false)).2.1 x0.1) 0))))=false→(LoopOk (lc_spec_l11Active_2 x x0) lf_spec_l11Active_2 (lp_spec_l11Active_2 x x0) 0)))))))∧((iLt x0.2 (lLen x.2.2.2.2.2.2))=false→True))
theorem oe_spec_l11Active (x):ok_spec_l11Active x=((LoopOk (lc_spec_l11Active_1 x) (lf_spec_l11Active_1 x) (lp_spec_l11Active_1 x) (x.2.2.2.2.2.1,0))∧(((iLt (loopV (lc_spec_l11Active_1 x) (lf_spec_l11Active_1 x) (x.2.2.2.2.2.1,0)).2 (lLen x.2.2.2.2.2.2))=true→True)∧((iLt (loopV (lc_spec_l11Active_1 x) (lf_spec_l11Active_1 x) (x.2.2.2.2.2.1,0)).2 (lLen x.2.2.2.2.2.2))=false→(ok_spec_l1In (x.2.2.2.2.2.1,0,16777215))))):=(ou_spec_l11Active x).trans (by kernel_rfl)
noncomputable def lc_spec_l11Held_1(x:(List (Int×Int))×Int×(List (Int×Int×Bool))×Int×Int×Int×(List (Int×Int×Bool)))(x0:(Int×Int)):Bool:=(iLt x0.2 (lLen x.2.2.2.2.2.2))
noncomputable def lf_spec_l11Held_1(x:(List (Int×Int))×Int×(List (Int×Int×Bool))×Int×Int×Int×(List (Int×Int×Bool)))(x0:(Int×Int)):(Int×Int):=((iOr .i64 x0.1 (lGet x.2.2.2.2.2.2 (iNat x0.2) (0,0,false)).2.1),(iAdd .i64 x0.2 1))
noncomputable def lp_spec_l11Held_1(x:(List (Int×Int))×Int×(List (Int×Int×Bool))×Int×Int×Int×(List (Int×Int×Bool)))(x0:(Int×Int)):Prop:=(((iLt x0.2 (lLen x.2.2.2.2.2.2))=true→((((0:Int)≤x0.2)∧(x0.2<(((List.length x.2.2.2.2.2.2):Int))))∧((iNat x0.2)<(List.length x.2.2.2.2.2.2))))∧((iLt x0.2 (lLen x.2.2.2.2.2.2))=false→True))
theorem oe_spec_l11Held (x):ok_spec_l11Held x=(LoopOk (lc_spec_l11Held_1 x) (lf_spec_l11Held_1 x) (lp_spec_l11Held_1 x) (x.2.2.2.2.2.1,0)):=(ou_spec_l11Held x).trans (by kernel_rfl)
noncomputable def lc_spec_l10Follows_1(x:(List (Int×Int×Bool))×Int×Int×Int)(x0:(Int×(Int×Int))):Bool:=(bAnd (iLt x0.2.2 (lLen x.1)) (bNot (bOr (bNot (v_spec_IsEvent (lGet x.1 (iNat x0.2.2) (0,0,false)))) (bOr (iGe (lGet x.1 (iNat x0.2.2) (0,0,false)).2.1 x.2.2.1) (bOr (iLt (lGet x.1 (iNat x0.2.2) (0,0,false)).1 x0.2.1) (bIff (lGet x.1 (iNat x0.2.2) (0,0,false)).2.2 (iEq (iAnd .i64 (iShr .i64 x0.1 (lGet x.1 (iNat x0.2.2) (0,0,false)).2.1) 1) 1)))))))
noncomputable def lf_spec_l10Follows_1(x:(List (Int×Int×Bool))×Int×Int×Int)(x0:(Int×(Int×Int))):(Int×(Int×Int)):=((iXor .i64 x0.1 (iShl .i64 1 (lGet x.1 (iNat x0.2.2) (0,0,false)).2.1)),(lGet x.1 (iNat x0.2.2) (0,0,false)).1,(iAdd .i64 x0.2.2 1))
noncomputable def lp_spec_l10Follows_1(x:(List (Int×Int×Bool))×Int×Int×Int)(x0:(Int×(Int×Int))):Prop:=(((iLt x0.2.2 (lLen x.1))=true→(((((0:Int)≤x0.2.2)∧(x0.2.2<(((List.length x.1):Int))))∧(((iNat x0.2.2)<(List.length x.1))∧((ok_spec_IsEvent (lGet x.1 (iNat x0.2.2) (0,0,false)))∧(((bNot (v_spec_IsEvent (lGet x.1 (iNat x0.2.2) (0,0,false))))=true→True)∧((bNot (v_spec_IsEvent (lGet x.1 (iNat x0.2.2) (0,0,false))))=false→((((0:Int)≤x0.2.2)∧(x0.2.2<(((List.length x.1):Int))))∧(((iNat x0.2.2)<(List.length x.1))∧(((iGe (lGet x.1 (iNat x0.2.2) (0,0,false)).2.1 x.2.2.1)=true→True)∧((iGe (lGet x.1 (iNat x0.2.2) (0,0,false)).2.1 x.2.2.1)=false→((((0:Int)≤x0.2.2)∧(x0.2.2<(((List.length x.1):Int))))∧(((iNat x0.2.2)<(List.length x.1))∧(((iLt (lGet x.1 (iNat x0.2.2) (0,0,false)).1 x0.2.1)=true→True)∧((iLt (lGet x.1 (iNat x0.2.2) (0,0,false)).1 x0.2.1)=false→((((0:Int)≤x0.2.2)∧(x0.2.2<(((List.length x.1):Int))))∧(((iNat x0.2.2)<(List.length x.1))∧((((0:Int)≤x0.2.2)∧(x0.2.2<(((List.length x.1):Int))))∧(((iNat x0.2.2)<(List.length x.1))∧((0:Int)≤(lGet x.1 (iNat x0.2.2) (0,0,false)).2.1))))))))))))))))))∧(((bOr (bNot (v_spec_IsEvent (lGet x.1 (iNat x0.2.2) (0,0,false)))) (bOr (iGe (lGet x.1 (iNat x0.2.2) (0,0,false)).2.1 x.2.2.1) (bOr (iLt (lGet x.1 (iNat x0.2.2) (0,0,false)).1 x0.2.1) (bIff (lGet x.1 (iNat x0.2.2) (0,0,false)).2.2 (iEq (iAnd .i64 (iShr .i64 x0.1 (lGet x.1 (iNat x0.2.2) (0,0,false)).2.1) 1) 1)))))=true→True)∧((bOr (bNot (v_spec_IsEvent (lGet x.1 (iNat x0.2.2) (0,0,false)))) (bOr (iGe (lGet x.1 (iNat x0.2.2) (0,0,false)).2.1 x.2.2.1) (bOr (iLt (lGet x.1 (iNat x0.2.2) (0,0,false)).1 x0.2.1) (bIff (lGet x.1 (iNat x0.2.2) (0,0,false)).2.2 (iEq (iAnd .i64 (iShr .i64 x0.1 (lGet x.1 (iNat x0.2.2) (0,0,false)).2.1) 1) 1)))))=false→((((0:Int)≤x0.2.2)∧(x0.2.2<(((List.length x.1):Int))))∧(((iNat x0.2.2)<(List.length x.1))∧((((0:Int)≤x0.2.2)∧(x0.2.2<(((List.length x.1):Int))))∧(((iNat x0.2.2)<(List.length x.1))∧((0:Int)≤(lGet x.1 (iNat x0.2.2) (0,0,false)).2.1)))))))))∧((iLt x0.2.2 (lLen x.1))=false→True))
theorem oe_spec_l10Follows (x):ok_spec_l10Follows x=(LoopOk (lc_spec_l10Follows_1 x) (lf_spec_l10Follows_1 x) (lp_spec_l10Follows_1 x) (x.2.1,x.2.2.2,0)):=(ou_spec_l10Follows x).trans (by kernel_rfl)
theorem oe_spec_IsCombiner (x):ok_spec_IsCombiner x=(((ok_spec_IsCombos x.1)∧(((bNot (v_spec_IsCombos x.1))=true→True)∧((bNot (v_spec_IsCombos x.1))=false→((ok_spec_l1In (x.2.1,1,200))∧(((bNot (v_spec_l1In (x.2.1,1,200)))=true→True)∧((bNot (v_spec_l1In (x.2.1,1,200)))=false→((ok_spec_l1In (x.2.2.2.1,0,1000000))∧(((bNot (v_spec_l1In (x.2.2.2.1,0,1000000)))=true→True)∧((bNot (v_spec_l1In (x.2.2.2.1,0,1000000)))=false→((ok_spec_l1In (x.2.2.2.2.1,0,x.2.2.2.1))∧(((bNot (v_spec_l1In (x.2.2.2.2.1,0,x.2.2.2.1)))=true→True)∧((bNot (v_spec_l1In (x.2.2.2.2.1,0,x.2.2.2.1)))=false→(ok_spec_l11Active x)))))))))))))∧(((bOr (bNot (v_spec_IsCombos x.1)) (bOr (bNot (v_spec_l1In (x.2.1,1,200))) (bOr (bNot (v_spec_l1In (x.2.2.2.1,0,1000000))) (bOr (bNot (v_spec_l1In (x.2.2.2.2.1,0,x.2.2.2.1))) (bNot (v_spec_l11Active x))))))=true→True)∧((bOr (bNot (v_spec_IsCombos x.1)) (bOr (bNot (v_spec_l1In (x.2.1,1,200))) (bOr (bNot (v_spec_l1In (x.2.2.2.1,0,1000000))) (bOr (bNot (v_spec_l1In (x.2.2.2.2.1,0,x.2.2.2.1))) (bNot (v_spec_l11Active x))))))=false→((ok_spec_l11Held x)∧((ok_spec_l10Follows (x.2.2.1,(v_spec_l11Held x),24,0))∧(((v_spec_l10Follows (x.2.2.1,(v_spec_l11Held x),24,0))=true→(((iEq (lLen x.2.2.1) 0)=true→True)∧((iEq (lLen x.2.2.1) 0)=false→((((0:Int)≤(iSub .i64 (lLen x.2.2.1) 1))∧((iSub .i64 (lLen x.2.2.1) 1)<(((List.length x.2.2.1):Int))))∧((iNat (iSub .i64 (lLen x.2.2.1) 1))<(List.length x.2.2.1))))))∧((v_spec_l10Follows (x.2.2.1,(v_spec_l11Held x),24,0))=false→True))))))):=(ou_spec_IsCombiner x).trans (by kernel_rfl)
theorem ve_spec_l11Copy (x):v_spec_l11Copy x=((lApp [] x.1),x.2.1,(lApp [] x.2.2.1),x.2.2.2.1,x.2.2.2.2.1,x.2.2.2.2.2.1,(lApp [] x.2.2.2.2.2.2)):=(vu_spec_l11Copy x).trans (by kernel_rfl)
theorem oe_spec_l11Copy (x):ok_spec_l11Copy x=((roomy (((List.length ([]:List (Int×Int)))+(List.length x.1))*2))∧((roomy (((List.length ([]:List (Int×(Int×Bool))))+(List.length x.2.2.1))*3))∧(roomy (((List.length ([]:List (Int×(Int×Bool))))+(List.length x.2.2.2.2.2.2))*3)))):=(ou_spec_l11Copy x).trans (by kernel_rfl)
theorem ve_spec_NewCombiner (x):v_spec_NewCombiner x=(bSel (bNot (v_spec_IsCombiner (x.1,x.2,[],0,0,0,[]))) (([],0,[],0,0,0,[]),false) ((v_spec_l11Copy (x.1,x.2,[],0,0,0,[])),true)):=(vu_spec_NewCombiner x).trans (by kernel_rfl)
theorem oe_spec_NewCombiner (x):ok_spec_NewCombiner x=((ok_spec_IsCombiner (x.1,x.2,[],0,0,0,[]))∧(((bNot (v_spec_IsCombiner (x.1,x.2,[],0,0,0,[])))=true→True)∧((bNot (v_spec_IsCombiner (x.1,x.2,[],0,0,0,[])))=false→(ok_spec_l11Copy (x.1,x.2,[],0,0,0,[]))))):=(ou_spec_NewCombiner x).trans (by kernel_rfl)
theorem ve_spec_l11New (x):v_spec_l11New x=((v_spec_NewCombiner ((v_spec_l11Combos x).1,(iAdd .i64 1 (v_spec_l1Below ((x.1,(v_spec_l11Combos x).2),6)).1))).1,(v_spec_l1Below ((x.1,(v_spec_l11Combos x).2),6)).2):=(vu_spec_l11New x).trans (by kernel_rfl)
theorem oe_spec_l11New (x):ok_spec_l11New x=((ok_spec_l11Combos x)∧((ok_spec_l1Below ((x.1,(v_spec_l11Combos x).2),6))∧(ok_spec_NewCombiner ((v_spec_l11Combos x).1,(iAdd .i64 1 (v_spec_l1Below ((x.1,(v_spec_l11Combos x).2),6)).1))))):=(ou_spec_l11New x).trans (by kernel_rfl)
noncomputable def ls_spec_l11Events_1(x:(List (Int)×Int×Int)×Int×Int×Int×Int):=v_spec_l1Below (x.1,(iAdd .i64 x.2.2.2.2 1))
noncomputable def ls_spec_l11Events_2(x:(List (Int)×Int×Int)×Int×Int×Int×Int)(x0:(Int×(Int×((List (Int×(Int×Bool)))×(Int×(Int×Int)))))):=v_spec_l1PickInt ((x.1.1,x0.2.2.2.2),[0,0,0,1,1,2,(iMax 0 (iSub .i64 x.2.2.2.1 1)),x.2.2.2.1,(iAdd .i64 x.2.2.2.1 1)])
noncomputable def ls_spec_l11Events_3(x:(List (Int)×Int×Int)×Int×Int×Int×Int)(x0:(Int×(Int×((List (Int×(Int×Bool)))×(Int×(Int×Int)))))):=v_spec_l1Below ((x.1.1,(ls_spec_l11Events_2 x x0).2),5)
noncomputable def lc_spec_l11Events_1(x0:(Int×(Int×((List (Int×(Int×Bool)))×(Int×(Int×Int)))))):Bool:=(iGt x0.2.2.2.1 0)
noncomputable def lf_spec_l11Events_1(x:(List (Int)×Int×Int)×Int×Int×Int×Int)(x0:(Int×(Int×((List (Int×(Int×Bool)))×(Int×(Int×Int)))))):(Int×(Int×((List (Int×(Int×Bool)))×(Int×(Int×Int))))):=((iXor .i64 x0.1 (iShl .i64 1 (ls_spec_l11Events_3 x x0).1)),(iAdd .i64 x0.2.1 (ls_spec_l11Events_2 x x0).1),(lApp x0.2.2.1 [((iAdd .i64 x0.2.1 (ls_spec_l11Events_2 x x0).1),(ls_spec_l11Events_3 x x0).1,(iEq (iAnd .i64 (iShr .i64 (iXor .i64 x0.1 (iShl .i64 1 (ls_spec_l11Events_3 x x0).1)) (ls_spec_l11Events_3 x x0).1) 1) 1))]),(iSub .i64 x0.2.2.2.1 1),(ls_spec_l11Events_3 x x0).2)
noncomputable def lp_spec_l11Events_1(x:(List (Int)×Int×Int)×Int×Int×Int×Int)(x0:(Int×(Int×((List (Int×(Int×Bool)))×(Int×(Int×Int)))))):Prop:=(((iGt x0.2.2.2.1 0)=true→((ok_spec_l1PickInt ((x.1.1,x0.2.2.2.2),[0,0,0,1,1,2,(iMax 0 (iSub .i64 x.2.2.2.1 1)),x.2.2.2.1,(iAdd .i64 x.2.2.2.1 1)]))∧((ok_spec_l1Below ((x.1.1,(ls_spec_l11Events_2 x x0).2),5))∧(((0:Int)≤(ls_spec_l11Events_3 x x0).1)∧(((0:Int)≤(ls_spec_l11Events_3 x x0).1)∧(roomy (((List.length x0.2.2.1)+(List.length [((iAdd .i64 x0.2.1 (ls_spec_l11Events_2 x x0).1),(ls_spec_l11Events_3 x x0).1,(iEq (iAnd .i64 (iShr .i64 (iXor .i64 x0.1 (iShl .i64 1 (ls_spec_l11Events_3 x x0).1)) (ls_spec_l11Events_3 x x0).1) 1) 1))]))*3)))))))∧((iGt x0.2.2.2.1 0)=false→True))
theorem ve_spec_l11Events (x):v_spec_l11Events x=((loopV lc_spec_l11Events_1 (lf_spec_l11Events_1 x) (x.2.1,x.2.2.1,[],(ls_spec_l11Events_1 x))).2.2.1,(loopV lc_spec_l11Events_1 (lf_spec_l11Events_1 x) (x.2.1,x.2.2.1,[],(ls_spec_l11Events_1 x))).2.2.2.2):=(vu_spec_l11Events x).trans (by kernel_rfl)
theorem oe_spec_l11Events (x):ok_spec_l11Events x=((ok_spec_l1Below (x.1,(iAdd .i64 x.2.2.2.2 1)))∧(LoopOk lc_spec_l11Events_1 (lf_spec_l11Events_1 x) (lp_spec_l11Events_1 x) (x.2.1,x.2.2.1,[],(ls_spec_l11Events_1 x)))):=(ou_spec_l11Events x).trans (by kernel_rfl)
theorem ve_spec_l11Bent (x):v_spec_l11Bent x=((bSel (v_spec_l1Once ((x.1,(v_spec_l11Combos x).2),3)).1 (lApp (v_spec_l11Combos x).1 [((v_spec_l1PickInt ((x.1,(v_spec_l1Once ((x.1,(v_spec_l11Combos x).2),3)).2),[3,1,31,16777217,(-1),10])).1,(v_spec_l1PickInt ((x.1,(v_spec_l1PickInt ((x.1,(v_spec_l1Once ((x.1,(v_spec_l11Combos x).2),3)).2),[3,1,31,16777217,(-1),10])).2),[23,24,31,32,30])).1)]) (v_spec_l11Combos x).1),(bSel (v_spec_l1Once ((x.1,(v_spec_l11Combos x).2),3)).1 (v_spec_l1PickInt ((x.1,(v_spec_l1PickInt ((x.1,(v_spec_l1Once ((x.1,(v_spec_l11Combos x).2),3)).2),[3,1,31,16777217,(-1),10])).2),[23,24,31,32,30])).2.1 (v_spec_l1Once ((x.1,(v_spec_l11Combos x).2),3)).2.1),(bSel (v_spec_l1Once ((x.1,(v_spec_l11Combos x).2),3)).1 (v_spec_l1PickInt ((x.1,(v_spec_l1PickInt ((x.1,(v_spec_l1Once ((x.1,(v_spec_l11Combos x).2),3)).2),[3,1,31,16777217,(-1),10])).2),[23,24,31,32,30])).2.2 (v_spec_l1Once ((x.1,(v_spec_l11Combos x).2),3)).2.2)):=(vu_spec_l11Bent x).trans (by kernel_rfl)
theorem oe_spec_l11Bent (x):ok_spec_l11Bent x=((ok_spec_l11Combos x)∧((ok_spec_l1Once ((x.1,(v_spec_l11Combos x).2),3))∧(((v_spec_l1Once ((x.1,(v_spec_l11Combos x).2),3)).1=true→((ok_spec_l1PickInt ((x.1,(v_spec_l1Once ((x.1,(v_spec_l11Combos x).2),3)).2),[3,1,31,16777217,(-1),10]))∧((ok_spec_l1PickInt ((x.1,(v_spec_l1PickInt ((x.1,(v_spec_l1Once ((x.1,(v_spec_l11Combos x).2),3)).2),[3,1,31,16777217,(-1),10])).2),[23,24,31,32,30]))∧(roomy (((List.length (v_spec_l11Combos x).1)+(List.length [((v_spec_l1PickInt ((x.1,(v_spec_l1Once ((x.1,(v_spec_l11Combos x).2),3)).2),[3,1,31,16777217,(-1),10])).1,(v_spec_l1PickInt ((x.1,(v_spec_l1PickInt ((x.1,(v_spec_l1Once ((x.1,(v_spec_l11Combos x).2),3)).2),[3,1,31,16777217,(-1),10])).2),[23,24,31,32,30])).1)]))*2)))))∧((v_spec_l1Once ((x.1,(v_spec_l11Combos x).2),3)).1=false→True)))):=(ou_spec_l11Bent x).trans (by kernel_rfl)
theorem oe_spec_l11Last (x):ok_spec_l11Last x=(((iEq (lLen x.1) 0)=true→True)∧((iEq (lLen x.1) 0)=false→((((0:Int)≤(iSub .i64 (lLen x.1) 1))∧((iSub .i64 (lLen x.1) 1)<(((List.length x.1):Int))))∧((iNat (iSub .i64 (lLen x.1) 1))<(List.length x.1))))):=(ou_spec_l11Last x).trans (by kernel_rfl)
noncomputable def ls_spec_DrawMatchCombo_1(x:List (Int)):=v_spec_l11Events (((v_spec_l1New x).1,(v_spec_l11New (v_spec_l1New x)).2),0,0,(v_spec_l11New (v_spec_l1New x)).1.2.1,5)
noncomputable def ls_spec_DrawMatchCombo_2(x:List (Int)):=v_spec_l1Once (((v_spec_l1New x).1,(ls_spec_DrawMatchCombo_1 x).2),10)
noncomputable def ls_spec_DrawMatchCombo_3(x:List (Int)):=v_spec_l1Below (((v_spec_l1New x).1,(bSel (iGt (lLen (ls_spec_DrawMatchCombo_1 x).1) 0) (ls_spec_DrawMatchCombo_2 x).2.1 (ls_spec_DrawMatchCombo_1 x).2.1),(bSel (iGt (lLen (ls_spec_DrawMatchCombo_1 x).1) 0) (ls_spec_DrawMatchCombo_2 x).2.2 (ls_spec_DrawMatchCombo_1 x).2.2)),(lLen (ls_spec_DrawMatchCombo_1 x).1))
noncomputable def ls_spec_DrawMatchCombo_4(x:List (Int)):=v_spec_l1PickInt (((v_spec_l1New x).1,(ls_spec_DrawMatchCombo_3 x).2),[(-1),24,31,32])
noncomputable def ls_spec_DrawMatchCombo_5(x:List (Int)):=v_spec_l1Once (((v_spec_l1New x).1,(bSel (bAnd (iGt (lLen (ls_spec_DrawMatchCombo_1 x).1) 0) (ls_spec_DrawMatchCombo_2 x).1) (ls_spec_DrawMatchCombo_4 x).2.1 (bSel (iGt (lLen (ls_spec_DrawMatchCombo_1 x).1) 0) (ls_spec_DrawMatchCombo_2 x).2.1 (ls_spec_DrawMatchCombo_1 x).2.1)),(bSel (bAnd (iGt (lLen (ls_spec_DrawMatchCombo_1 x).1) 0) (ls_spec_DrawMatchCombo_2 x).1) (ls_spec_DrawMatchCombo_4 x).2.2 (bSel (iGt (lLen (ls_spec_DrawMatchCombo_1 x).1) 0) (ls_spec_DrawMatchCombo_2 x).2.2 (ls_spec_DrawMatchCombo_1 x).2.2))),10)
noncomputable def ls_spec_DrawMatchCombo_6(x:List (Int)):=v_spec_l11Bent ((v_spec_l1New x).1,(ls_spec_DrawMatchCombo_5 x).2)
theorem ve_spec_DrawMatchCombo (x):v_spec_DrawMatchCombo x=(bSel (ls_spec_DrawMatchCombo_5 x).1 ((ls_spec_DrawMatchCombo_6 x).1,(v_spec_l1PickInt (((v_spec_l1New x).1,(ls_spec_DrawMatchCombo_6 x).2),[0,3,201])).1,(bSel (bAnd (iGt (lLen (ls_spec_DrawMatchCombo_1 x).1) 0) (ls_spec_DrawMatchCombo_2 x).1) (lSet (ls_spec_DrawMatchCombo_1 x).1 (iNat (ls_spec_DrawMatchCombo_3 x).1) ((lGet (ls_spec_DrawMatchCombo_1 x).1 (iNat (ls_spec_DrawMatchCombo_3 x).1) (0,0,false)).1,(ls_spec_DrawMatchCombo_4 x).1,(lGet (ls_spec_DrawMatchCombo_1 x).1 (iNat (ls_spec_DrawMatchCombo_3 x).1) (0,0,false)).2.2)) (ls_spec_DrawMatchCombo_1 x).1),5) ((v_spec_l11New (v_spec_l1New x)).1.1,(v_spec_l11New (v_spec_l1New x)).1.2.1,(bSel (bAnd (iGt (lLen (ls_spec_DrawMatchCombo_1 x).1) 0) (ls_spec_DrawMatchCombo_2 x).1) (lSet (ls_spec_DrawMatchCombo_1 x).1 (iNat (ls_spec_DrawMatchCombo_3 x).1) ((lGet (ls_spec_DrawMatchCombo_1 x).1 (iNat (ls_spec_DrawMatchCombo_3 x).1) (0,0,false)).1,(ls_spec_DrawMatchCombo_4 x).1,(lGet (ls_spec_DrawMatchCombo_1 x).1 (iNat (ls_spec_DrawMatchCombo_3 x).1) (0,0,false)).2.2)) (ls_spec_DrawMatchCombo_1 x).1),(iAdd .i64 (v_spec_l11Last ((bSel (bAnd (iGt (lLen (ls_spec_DrawMatchCombo_1 x).1) 0) (ls_spec_DrawMatchCombo_2 x).1) (lSet (ls_spec_DrawMatchCombo_1 x).1 (iNat (ls_spec_DrawMatchCombo_3 x).1) ((lGet (ls_spec_DrawMatchCombo_1 x).1 (iNat (ls_spec_DrawMatchCombo_3 x).1) (0,0,false)).1,(ls_spec_DrawMatchCombo_4 x).1,(lGet (ls_spec_DrawMatchCombo_1 x).1 (iNat (ls_spec_DrawMatchCombo_3 x).1) (0,0,false)).2.2)) (ls_spec_DrawMatchCombo_1 x).1),0)) (v_spec_l1Below (((v_spec_l1New x).1,(ls_spec_DrawMatchCombo_5 x).2),8)).1))):=(vu_spec_DrawMatchCombo x).trans (by kernel_rfl)
theorem oe_spec_DrawMatchCombo (x):ok_spec_DrawMatchCombo x=((ok_spec_l1New x)∧((ok_spec_l11New (v_spec_l1New x))∧((ok_spec_l11Events (((v_spec_l1New x).1,(v_spec_l11New (v_spec_l1New x)).2),0,0,(v_spec_l11New (v_spec_l1New x)).1.2.1,5))∧(((((iGt (lLen (ls_spec_DrawMatchCombo_1 x).1) 0)=true→(ok_spec_l1Once (((v_spec_l1New x).1,(ls_spec_DrawMatchCombo_1 x).2),10)))∧((iGt (lLen (ls_spec_DrawMatchCombo_1 x).1) 0)=false→True))∧(((bAnd (iGt (lLen (ls_spec_DrawMatchCombo_1 x).1) 0) (ls_spec_DrawMatchCombo_2 x).1)=true→((ok_spec_l1Below (((v_spec_l1New x).1,(bSel (iGt (lLen (ls_spec_DrawMatchCombo_1 x).1) 0) (ls_spec_DrawMatchCombo_2 x).2.1 (ls_spec_DrawMatchCombo_1 x).2.1),(bSel (iGt (lLen (ls_spec_DrawMatchCombo_1 x).1) 0) (ls_spec_DrawMatchCombo_2 x).2.2 (ls_spec_DrawMatchCombo_1 x).2.2)),(lLen (ls_spec_DrawMatchCombo_1 x).1)))∧((ok_spec_l1PickInt (((v_spec_l1New x).1,(ls_spec_DrawMatchCombo_3 x).2),[(-1),24,31,32]))∧((((0:Int)≤(ls_spec_DrawMatchCombo_3 x).1)∧((ls_spec_DrawMatchCombo_3 x).1<(((List.length (ls_spec_DrawMatchCombo_1 x).1):Int))))∧((iNat (ls_spec_DrawMatchCombo_3 x).1)<(List.length (ls_spec_DrawMatchCombo_1 x).1))))))∧((bAnd (iGt (lLen (ls_spec_DrawMatchCombo_1 x).1) 0) (ls_spec_DrawMatchCombo_2 x).1)=false→True)))∧((ok_spec_l1Once (((v_spec_l1New x).1,(bSel (bAnd (iGt (lLen (ls_spec_DrawMatchCombo_1 x).1) 0) (ls_spec_DrawMatchCombo_2 x).1) (ls_spec_DrawMatchCombo_4 x).2.1 (bSel (iGt (lLen (ls_spec_DrawMatchCombo_1 x).1) 0) (ls_spec_DrawMatchCombo_2 x).2.1 (ls_spec_DrawMatchCombo_1 x).2.1)),(bSel (bAnd (iGt (lLen (ls_spec_DrawMatchCombo_1 x).1) 0) (ls_spec_DrawMatchCombo_2 x).1) (ls_spec_DrawMatchCombo_4 x).2.2 (bSel (iGt (lLen (ls_spec_DrawMatchCombo_1 x).1) 0) (ls_spec_DrawMatchCombo_2 x).2.2 (ls_spec_DrawMatchCombo_1 x).2.2))),10))∧(((ls_spec_DrawMatchCombo_5 x).1=true→((ok_spec_l11Bent ((v_spec_l1New x).1,(ls_spec_DrawMatchCombo_5 x).2))∧(ok_spec_l1PickInt (((v_spec_l1New x).1,(ls_spec_DrawMatchCombo_6 x).2),[0,3,201]))))∧((ls_spec_DrawMatchCombo_5 x).1=false→((ok_spec_l11Last ((bSel (bAnd (iGt (lLen (ls_spec_DrawMatchCombo_1 x).1) 0) (ls_spec_DrawMatchCombo_2 x).1) (lSet (ls_spec_DrawMatchCombo_1 x).1 (iNat (ls_spec_DrawMatchCombo_3 x).1) ((lGet (ls_spec_DrawMatchCombo_1 x).1 (iNat (ls_spec_DrawMatchCombo_3 x).1) (0,0,false)).1,(ls_spec_DrawMatchCombo_4 x).1,(lGet (ls_spec_DrawMatchCombo_1 x).1 (iNat (ls_spec_DrawMatchCombo_3 x).1) (0,0,false)).2.2)) (ls_spec_DrawMatchCombo_1 x).1),0))∧(ok_spec_l1Below (((v_spec_l1New x).1,(ls_spec_DrawMatchCombo_5 x).2),8)))))))))):=(ou_spec_DrawMatchCombo x).trans (by kernel_rfl)
noncomputable def ls_laws_FnMatches_1(x:List (Int)):=v_spec_IsEvents (v_spec_DrawMatchCombo x).2.2.1
noncomputable def ls_laws_FnMatches_2(x:List (Int)):=v_impl_MatchCombo ((v_spec_DrawMatchCombo x).1,(v_spec_DrawMatchCombo x).2.1,(v_spec_DrawMatchCombo x).2.2.1,1000000)
noncomputable def ls_laws_FnMatches_3(x:List (Int))(x0:Int):=v_impl_MatchCombo ((v_spec_DrawMatchCombo x).1,(v_spec_DrawMatchCombo x).2.1,(lSub (v_spec_DrawMatchCombo x).2.2.1 0 (iNat x0)),(lGet (v_spec_DrawMatchCombo x).2.2.1 (iNat x0) (0,0,false)).1)
noncomputable def lc_laws_FnMatches_1(x:List (Int))(x0:Int):Bool:=(bAnd (iLt x0 (lLen (v_spec_DrawMatchCombo x).2.2.1)) (bNot (iGe (lGet (v_spec_DrawMatchCombo x).2.2.1 (iNat x0) (0,0,false)).2.1 24)))
noncomputable def lf_laws_FnMatches_1(x0:Int):Int:=(iAdd .i64 x0 1)
noncomputable def lc_laws_FnMatches_2(x:List (Int))(x0:Int):Bool:=(bAnd (iLt x0 (lLen (v_spec_DrawMatchCombo x).2.2.1)) (bNot (bAnd (iGt (ls_laws_FnMatches_3 x x0).1 0) (bOr (iNe (ls_laws_FnMatches_3 x x0).1 (ls_laws_FnMatches_2 x).1) (bOr (iNe (ls_laws_FnMatches_3 x x0).2.1 (ls_laws_FnMatches_2 x).2.1) (iNe (ls_laws_FnMatches_3 x x0).2.2 (ls_laws_FnMatches_2 x).2.2))))))
noncomputable def lp_laws_FnMatches_1(x:List (Int))(x0:Int):Prop:=(((iLt x0 (lLen (v_spec_DrawMatchCombo x).2.2.1))=true→((((0:Int)≤x0)∧(x0<(((List.length (v_spec_DrawMatchCombo x).2.2.1):Int))))∧((iNat x0)<(List.length (v_spec_DrawMatchCombo x).2.2.1))))∧((iLt x0 (lLen (v_spec_DrawMatchCombo x).2.2.1))=false→True))
noncomputable def lp_laws_FnMatches_2(x:List (Int))(x0:Int):Prop:=(((iLt x0 (lLen (v_spec_DrawMatchCombo x).2.2.1))=true→((((0:Int)≤x0)∧((0≤(iNat x0))∧(((iNat x0)≤(List.length (v_spec_DrawMatchCombo x).2.2.1))∧(0<(List.length (v_spec_DrawMatchCombo x).2.2.1)))))∧((((0:Int)≤x0)∧(x0<(((List.length (v_spec_DrawMatchCombo x).2.2.1):Int))))∧(((iNat x0)<(List.length (v_spec_DrawMatchCombo x).2.2.1))∧(ok_impl_MatchCombo ((v_spec_DrawMatchCombo x).1,(v_spec_DrawMatchCombo x).2.1,(lSub (v_spec_DrawMatchCombo x).2.2.1 0 (iNat x0)),(lGet (v_spec_DrawMatchCombo x).2.2.1 (iNat x0) (0,0,false)).1))))))∧((iLt x0 (lLen (v_spec_DrawMatchCombo x).2.2.1))=false→True))
theorem ve_laws_FnMatches (x):v_laws_FnMatches x=(bOr (v_laws_big x) (bOr (bOr (bNot (ls_laws_FnMatches_1 x)) (bOr (iEq (lLen (v_spec_DrawMatchCombo x).2.2.1) 0) (bNot (lGet (v_spec_DrawMatchCombo x).2.2.1 (iNat 0) (0,0,false)).2.2))) (bOr (iLt (loopV (lc_laws_FnMatches_1 x) lf_laws_FnMatches_1 0) (lLen (v_spec_DrawMatchCombo x).2.2.1)) (bAnd (bNot (iLt (loopV (lc_laws_FnMatches_2 x) lf_laws_FnMatches_1 1) (lLen (v_spec_DrawMatchCombo x).2.2.1))) (bSel (bOr (bNot (v_spec_IsCombos (v_spec_DrawMatchCombo x).1)) (bOr (iLt (v_spec_DrawMatchCombo x).2.1 1) (iGt (v_spec_DrawMatchCombo x).2.1 200))) (iEq (ls_laws_FnMatches_2 x).1 0) (bAnd (iGe (ls_laws_FnMatches_2 x).1 1) (bAnd (iLe (ls_laws_FnMatches_2 x).1 (lLen (v_spec_DrawMatchCombo x).2.2.1)) (bAnd (iGe (ls_laws_FnMatches_2 x).2.1 (lGet (v_spec_DrawMatchCombo x).2.2.1 (iNat 0) (0,0,false)).1) (bAnd (iLe (ls_laws_FnMatches_2 x).2.1 (iAdd .i64 (lGet (v_spec_DrawMatchCombo x).2.2.1 (iNat 0) (0,0,false)).1 (v_spec_DrawMatchCombo x).2.1)) (bIff (iGe (ls_laws_FnMatches_2 x).2.2 0) (iGt (ls_laws_FnMatches_2 x).1 1))))))))))):=(vu_laws_FnMatches x).trans (by kernel_rfl)
theorem oe_laws_FnMatches (x):ok_laws_FnMatches x=((ok_laws_big x)∧(((v_laws_big x)=true→True)∧((v_laws_big x)=false→((ok_spec_DrawMatchCombo x)∧(((ok_spec_IsEvents (v_spec_DrawMatchCombo x).2.2.1)∧(((bNot (ls_laws_FnMatches_1 x))=true→True)∧((bNot (ls_laws_FnMatches_1 x))=false→(((iEq (lLen (v_spec_DrawMatchCombo x).2.2.1) 0)=true→True)∧((iEq (lLen (v_spec_DrawMatchCombo x).2.2.1) 0)=false→((((0:Int)≤0)∧((0:Int)<(((List.length (v_spec_DrawMatchCombo x).2.2.1):Int))))∧((iNat 0)<(List.length (v_spec_DrawMatchCombo x).2.2.1))))))))∧(((bOr (bNot (ls_laws_FnMatches_1 x)) (bOr (iEq (lLen (v_spec_DrawMatchCombo x).2.2.1) 0) (bNot (lGet (v_spec_DrawMatchCombo x).2.2.1 (iNat 0) (0,0,false)).2.2)))=true→True)∧((bOr (bNot (ls_laws_FnMatches_1 x)) (bOr (iEq (lLen (v_spec_DrawMatchCombo x).2.2.1) 0) (bNot (lGet (v_spec_DrawMatchCombo x).2.2.1 (iNat 0) (0,0,false)).2.2)))=false→((LoopOk (lc_laws_FnMatches_1 x) lf_laws_FnMatches_1 (lp_laws_FnMatches_1 x) 0)∧(((iLt (loopV (lc_laws_FnMatches_1 x) lf_laws_FnMatches_1 0) (lLen (v_spec_DrawMatchCombo x).2.2.1))=true→True)∧((iLt (loopV (lc_laws_FnMatches_1 x) lf_laws_FnMatches_1 0) (lLen (v_spec_DrawMatchCombo x).2.2.1))=false→((ok_impl_MatchCombo ((v_spec_DrawMatchCombo x).1,(v_spec_DrawMatchCombo x).2.1,(v_spec_DrawMatchCombo x).2.2.1,1000000))∧((LoopOk (lc_laws_FnMatches_2 x) lf_laws_FnMatches_1 (lp_laws_FnMatches_2 x) 1)∧(((iLt (loopV (lc_laws_FnMatches_2 x) lf_laws_FnMatches_1 1) (lLen (v_spec_DrawMatchCombo x).2.2.1))=true→True)∧((iLt (loopV (lc_laws_FnMatches_2 x) lf_laws_FnMatches_1 1) (lLen (v_spec_DrawMatchCombo x).2.2.1))=false→((ok_spec_IsCombos (v_spec_DrawMatchCombo x).1)∧(((bOr (bNot (v_spec_IsCombos (v_spec_DrawMatchCombo x).1)) (bOr (iLt (v_spec_DrawMatchCombo x).2.1 1) (iGt (v_spec_DrawMatchCombo x).2.1 200)))=true→True)∧((bOr (bNot (v_spec_IsCombos (v_spec_DrawMatchCombo x).1)) (bOr (iLt (v_spec_DrawMatchCombo x).2.1 1) (iGt (v_spec_DrawMatchCombo x).2.1 200)))=false→(((iGe (ls_laws_FnMatches_2 x).1 1)=true→(((iLe (ls_laws_FnMatches_2 x).1 (lLen (v_spec_DrawMatchCombo x).2.2.1))=true→((((0:Int)≤0)∧((0:Int)<(((List.length (v_spec_DrawMatchCombo x).2.2.1):Int))))∧(((iNat 0)<(List.length (v_spec_DrawMatchCombo x).2.2.1))∧(((iGe (ls_laws_FnMatches_2 x).2.1 (lGet (v_spec_DrawMatchCombo x).2.2.1 (iNat 0) (0,0,false)).1)=true→((((0:Int)≤0)∧((0:Int)<(((List.length (v_spec_DrawMatchCombo x).2.2.1):Int))))∧((iNat 0)<(List.length (v_spec_DrawMatchCombo x).2.2.1))))∧((iGe (ls_laws_FnMatches_2 x).2.1 (lGet (v_spec_DrawMatchCombo x).2.2.1 (iNat 0) (0,0,false)).1)=false→True)))))∧((iLe (ls_laws_FnMatches_2 x).1 (lLen (v_spec_DrawMatchCombo x).2.2.1))=false→True)))∧((iGe (ls_laws_FnMatches_2 x).1 1)=false→True))))))))))))))))))):=(ou_laws_FnMatches x).trans (by kernel_rfl)
end
abbrev Cos:=List (Int×Int)
noncomputable def mFin(l:Cos)(set n kn:Int):Int×Int×Int:=if 0≤(v_impl_wholeCombo (l,set)).1 then (n,kn,(v_impl_wholeCombo (l,set)).1) else (1,kn,-1)
noncomputable def mNx(set:Int)(e:Ev):Int:=iOr .i64 set (iShl .i64 1 e.2.1)
noncomputable def mW(l:Cos)(en now:Int):List Ev→Int→Int→Int×Int×Int
 |[],set,n=>if now<en then (0,0,-1) else mFin l set n en
 | e :: r,set,n=>
   if v_impl_isSwitchEvent e=true then
    if en≤e.1∨e.2.2=false∨v_impl_within (l,mNx set e)=false then mFin l set n (iMin en e.1)
    else if 0≤(v_impl_wholeCombo (l,mNx set e)).1∧(v_impl_wholeCombo (l,mNx set e)).2=false then (iAdd .i64 n 1,e.1,(v_impl_wholeCombo (l,mNx set e)).1)
    else mW l en now r (mNx set e) (iAdd .i64 n 1)
   else (0,0,-1)
def mGo(l:Cos)(term:Int)(q:Ev):Prop:=v_impl_IsCombos l=true∧1≤term∧term≤200∧v_impl_isSwitchEvent q=true∧q.2.2=true
theorem mat_bad(l:Cos)(term:Int)(q:Ev)(rest:List Ev)(now:Int)(h:¬ mGo l term q):v_impl_MatchCombo (l,term,q::rest,now)=(0,0,-1):=by
 rw[ve_impl_MatchCombo]
 simp only
 have e0:lGet (q::rest) (iNat 0) (0,0,false)=q:=by rw[lGet_eq,iNat_eq];rfl
 rw[e0]
 have e1 : bOr (bNot (v_impl_IsCombos l)) (bOr (iLt term 1) (bOr (iGt term 200) (bOr (iEq (lLen (q::rest)) 0) (bOr (bNot (v_impl_isSwitchEvent q)) (bNot q.2.2)))))=true:=by
  simp only[bOr_eq,bNot_eq,iLt_eq,iGt_eq,iEq_eq]
  cases h1:v_impl_IsCombos l with
  |false=>rfl
  | true=>
    cases h2:v_impl_isSwitchEvent q with
    |false=>simp
    | true=>
      cases h3:q.2.2 with
      |false=>simp
      | true=>
        unfold mGo at h
        rw[h1,h2,h3] at h
        simp at h
        simp;omega
 rw[e1,bSel_t]
theorem mat_eq(l:Cos)(term:Int)(q:Ev)(rest:List Ev)(now:Int)(hl:rest.length≤1000000)(h:mGo l term q) :
 v_impl_MatchCombo (l,term,q::rest,now)=if v_impl_within (l,iShl .i64 1 q.2.1)=true then mW l (iAdd .i64 q.1 term) now rest (iShl .i64 1 q.2.1) 1 else (1,q.1,-1):=by
 obtain⟨g1,g2,g3,g4,g5⟩:=h
 rw[ve_impl_MatchCombo]
 simp only
 have e0:lGet (q::rest) (iNat 0) (0,0,false)=q:=by rw[lGet_eq,iNat_eq];rfl
 have er:lSub (q::rest) (iNat 1) (lN (q::rest))=rest:=by rw[rest_q];rfl
 have e1:bOr (bNot (v_impl_IsCombos l)) (bOr (iLt term 1) (bOr (iGt term 200) (bOr (iEq (lLen (q::rest)) 0) (bOr (bNot (v_impl_isSwitchEvent q)) (bNot q.2.2)))))=false:=by
  simp only[bOr_eq,bNot_eq,iLt_eq,iGt_eq,iEq_eq,lLen_eq,g1,g4,g5,List.length_cons]
  simp;omega
 simp only[e0,er,e1,bSel_f]
 by_cases hw:v_impl_within (l,iShl .i64 1 q.2.1)=true
 case neg=>
  have:bNot (v_impl_within (l,iShl .i64 1 q.2.1))=true:=by rw[bNot_eq];simpa using hw
  rw[this,bSel_t,if_neg hw]
 rw[if_pos hw]
 have:bNot (v_impl_within (l,iShl .i64 1 q.2.1))=false:=by rw[bNot_eq,hw];rfl
 rw[this,bSel_f]
 generalize hen:iAdd .i64 q.1 term=en
 generalize hset0:iShl .i64 1 q.2.1=set0
 have key:=loop_inv_v (c:=lc_impl_MatchCombo_1 (l,term,q::rest,now)) (f:=lf_impl_MatchCombo_1 (l,term,q::rest,now)) (x0:=(set0,1,0))
  (fun st=>0≤st.2.2∧st.2.2≤rest.length∧mW l en now (rest.drop st.2.2.toNat) st.1 st.2.1=mW l en now rest set0 1) (fun st=>rest.length-st.2.2.toNat) (fun st hI hc=>by
   obtain⟨set,n,i⟩:=st
   obtain⟨i0,i1,i2⟩:=hI
   simp only at i0 i1 i2
   unfold lc_impl_MatchCombo_1 at hc
   simp only[er,e0,hen] at hc
   simp only[bAnd_eq,bOr_eq,bNot_eq,iLt_eq,iGe_eq,lLen_eq,lGet_eq,iNat_eq,Bool.and_eq_true,Bool.not_not,Bool.not_eq_true',Bool.or_eq_false_iff,Bool.not_eq_false',decide_eq_true_eq,decide_eq_false_iff_not,Bool.and_eq_false_iff] at hc
   obtain⟨c1,c2,⟨c3,c4,c5⟩,c6⟩:=hc
   have hlt:i.toNat<rest.length:=by omega
   have hi:iAdd .i64 i 1=i+1:=iAdd_i64 (by unfold In64;omega)
   have hn:(i+1).toNat=i.toNat+1:=by omega
   rw[drop_cons rest i.toNat (0,0,false) hlt] at i2
   unfold lf_impl_MatchCombo_1
   simp only[er,e0]
   simp only[lGet_eq,iNat_eq,hi]
   refine⟨⟨by omega,by omega,?_⟩,by omega⟩
   rw[hn,← i2]
   generalize List.getD rest i.toNat (0,0,false)=e at c2 c3 c4 c5 c6 ⊢
   generalize rest.drop (i.toNat+1)=r
   conv=>rhs;unfold mW
   rw[if_pos c2,if_neg (by unfold mNx;rw[c4,c5];simp;omega),if_neg (by
    unfold mNx
    rintro⟨h1,h2⟩
    rcases c6 with c6|c6
    · omega
    · rw[h2] at c6;cases c6)]
   rfl) ⟨by simp,by simp,by simp⟩
 generalize loopV (lc_impl_MatchCombo_1 (l,term,q::rest,now)) (lf_impl_MatchCombo_1 (l,term,q::rest,now)) (set0,1,0)=y at key ⊢
 obtain⟨⟨i0,i1,i2⟩,hc⟩:=key
 obtain⟨set,n,i⟩:=y
 simp only at i0 i1 i2 hc ⊢
 rw[← i2]
 by_cases hlt:i<rest.length
 · have hlt':i.toNat<rest.length:=by omega
   rw[drop_cons rest i.toNat (0,0,false) hlt']
   unfold lc_impl_MatchCombo_1 at hc
   simp only[er,e0,hen] at hc
   simp only[bAnd_eq,bOr_eq,bNot_eq,bSel_eq,iLt_eq,iGe_eq,lLen_eq,lGet_eq,iNat_eq,if_pos hlt,decide_eq_true hlt,Bool.true_and,Bool.not_true,Bool.false_or,Bool.false_and,Bool.not_not] at hc ⊢
   generalize List.getD rest i.toNat (0,0,false)=e at hc ⊢
   generalize rest.drop (i.toNat+1)=r
   unfold mW mFin mNx
   cases c2:v_impl_isSwitchEvent e with
   |false=>simp
   | true=>
     simp only[c2,Bool.true_and] at hc ⊢
     by_cases c3:en≤e.1∨e.2.2=false∨v_impl_within (l,iOr .i64 set (iShl .i64 1 e.2.1))=false
     · have:(decide (e.1≥en)||(!e.2.2||!v_impl_within (l,iOr .i64 set (iShl .i64 1 e.2.1))))=true:=by
        rcases c3 with h|h|h
        · simp[h]
        · simp[h]
        · simp[h]
       simp only[this,if_pos c3,if_true,Bool.false_eq_true,if_false]
       simp only[decide_eq_true_eq,ge_iff_le]
     · have hn3:(decide (e.1≥en)||(!e.2.2||!v_impl_within (l,iOr .i64 set (iShl .i64 1 e.2.1))))=false:=by
        simp only[not_or,Bool.not_eq_false] at c3
        simp[c3]
       rw[hn3] at hc ⊢
       simp only[Bool.not_false,Bool.true_and,Bool.not_eq_false',Bool.and_eq_true,decide_eq_true_eq,Bool.not_eq_true',ge_iff_le] at hc
       simp only[if_neg c3,if_pos hc,if_true,Bool.false_eq_true,if_false]
       simp
 · have:rest.drop i.toNat=[]:=List.drop_eq_nil_of_le (by omega)
   rw[this]
   unfold mW mFin
   simp only[bAnd_eq,bOr_eq,bNot_eq,bSel_eq,iLt_eq,iGe_eq,lLen_eq,decide_eq_false hlt,Bool.not_false,Bool.true_or,if_true,Bool.false_eq_true,if_false,Bool.true_and,decide_eq_true_eq,ge_iff_le]
theorem iMin_le{a b:Int}(h:a≤b):iMin a b=a:=by rw[iMin_u];split<;>omega
theorem mW_app(l:Cos)(en now:Int)(e:Ev)(r:List Ev)(he:v_impl_isSwitchEvent e=true):∀ (a:List Ev) (set n:Int),(mW l en e.1 a set n).1 > 0→mW l en now (a++e::r) set n=mW l en e.1 a set n
 | [],set,n,h=>by
   rw[List.nil_append]
   unfold mW at h ⊢
   by_cases hn:e.1<en
   · rw[if_pos hn] at h;simp at h
   · have hen:en≤e.1:=by omega
     rw[if_pos he,if_pos (.inl hen),if_neg hn,iMin_le hen]
 | x :: a,set,n,h=>by
   have ih:=mW_app l en now e r he a (mNx set x) (iAdd .i64 n 1)
   rw[List.cons_append]
   unfold mW at h ⊢
   by_cases h1:v_impl_isSwitchEvent x=true
   · simp only[if_pos h1] at h ⊢
     by_cases h2:en≤x.1∨x.2.2=false∨v_impl_within (l,mNx set x)=false
     · simp only[if_pos h2]
     · simp only[if_neg h2] at h ⊢
       by_cases h3:0≤(v_impl_wholeCombo (l,mNx set x)).1∧(v_impl_wholeCombo (l,mNx set x)).2=false
       · simp only[if_pos h3]
       · simp only[if_neg h3] at h ⊢
         exact ih h
   · simp only[if_neg h1] at h;simp at h
def MOk(t0 en:Int)(N:Int)(r:Int×Int×Int):Prop:=1≤r.1∧r.1≤N∧t0≤r.2.1∧r.2.1≤en∧(0≤r.2.2↔1<r.1)
theorem mFin_ok{l:Cos}{t0 en N set n kn:Int}(h1:1≤n)(h2:n≤N)(h3:t0≤kn)(h4:kn≤en)(hs:n=1→(v_impl_wholeCombo (l,set)).1<0):MOk t0 en N (mFin l set n kn):=by
 unfold mFin MOk
 by_cases h:0≤(v_impl_wholeCombo (l,set)).1
 · rw[if_pos h]
   have:n≠1:=fun e=>by have:=hs e;omega
   exact⟨h1,h2,h3,h4,by simp only;omega⟩
 · rw[if_neg h]
   exact⟨by simp,by simp only;omega,h3,h4,by simp⟩
theorem mW_ok(l:Cos)(t0 en now:Int)(ht:t0≤en)(hN:en≤now):∀ (a:List Ev) (set n:Int),(∀ e∈a,v_impl_isSwitchEvent e=true∧t0≤e.1)→1≤n→n+a.length≤1000000→(n=1→(v_impl_wholeCombo (l,set)).1<0)→MOk t0 en (n+a.length) (mW l en now a set n)
 | [],set,n,_,h1,_,hs=>by
   unfold mW
   rw[if_neg (by omega)]
   exact mFin_ok h1 (by simp) ht (Int.le_refl _) hs
 | x :: a,set,n,ha,h1,h2,hs=>by
   have hlen:((x::a).length:Int)=a.length+1:=by simp
   rw[hlen] at h2
   have hn:iAdd .i64 n 1=n+1:=iAdd_i64 (by unfold In64;omega)
   have hx:=ha x List.mem_cons_self
   unfold mW
   rw[if_pos hx.1,hlen]
   by_cases hc:en≤x.1∨x.2.2=false∨v_impl_within (l,mNx set x)=false
   · rw[if_pos hc]
     refine mFin_ok h1 (by omega) ?_ ?_ hs
     · rw[iMin_u];split<;>omega
     · rw[iMin_u];split<;>omega
   · rw[if_neg hc]
     have hxe:x.1<en:=by
      rcases Int.lt_or_le x.1 en with h|h
      · exact h
      · exact absurd (.inl h) hc
     by_cases hw:0≤(v_impl_wholeCombo (l,mNx set x)).1∧(v_impl_wholeCombo (l,mNx set x)).2=false
     · rw[if_pos hw,hn]
       exact⟨by simp only;omega,by simp only;omega,hx.2,by simp only;omega,by simp only;omega⟩
     · rw[if_neg hw,hn]
       have:=mW_ok l t0 en now ht hN a (mNx set x) (n+1) (fun e he=>ha e (List.mem_cons_of_mem _ he)) (by omega) (by omega) (fun h=>by omega)
       rw[show n+(↑a.length+1)=n+1+↑a.length by omega]
       exact this
theorem combos_two{x:Cos}(hl:x.length≤1048576)(h:v_impl_IsCombos x=true):∀ j,j<x.length→∀ k:Nat,k<24→(x.getD j (0,0)).1≠((2^k:Nat):Int):=by
 rw[ve_impl_IsCombos] at h
 simp only[bAnd_eq,bNot_eq,Bool.and_eq_true,Bool.not_eq_true',iLt_eq _ (lLen x),lLen_eq x,decide_eq_false_iff_not] at h
 refine scan_every (P:=fun j=>∀ k:Nat,k<24→(x.getD j (0,0)).1≠((2^k:Nat):Int)) x.length hl (fun _=>rfl) (fun i hc=>?_) (Int.not_lt.mp (of_decide_eq_false ((iLt_eq _ _).symm.trans h.2)))
 simp only[bAnd_eq,bNot_eq,bOr_eq,iLt_eq,iGt_eq,Bool.and_eq_true,Bool.not_eq_true',Bool.or_eq_false_iff,decide_eq_true_eq,decide_eq_false_iff_not,lGet_eq,iNat_eq,Int.toNat_natCast] at hc
 obtain⟨c1,⟨c2,c3,_,_⟩,⟨c4,_⟩,_⟩:=hc
 refine⟨by omega,fun k hk e=>?_⟩
 rw[ones_count (by omega) (by omega),e] at c4
 have hb:∀ k:Fin 24,bits (2^k.val) 32=1:=by decide +kernel
 have h2:2^k≤2^23:=Nat.pow_le_pow_right (by omega) (by omega)
 have h23:(2:Nat)^23=8388608:=by decide
 rw[count_eq (by omega),hb ⟨k,hk⟩] at c4
 omega
theorem whole_one{l:Cos}(hl:l.length≤1048576)(h:v_impl_IsCombos l=true)(k:Nat)(hk:k<24):(v_impl_wholeCombo (l,((2^k:Nat):Int))).1<0:=by
 have hc:=combos_two hl h
 rw[ve_impl_wholeCombo]
 have key:=loop_inv_v (c:=lc_impl_wholeCombo_1 (l,((2^k:Nat):Int))) (f:=lf_impl_wholeCombo_1 (l,((2^k:Nat):Int))) (fun st=>(∃ i:Nat,st.2.2=i∧i≤l.length)∧st.1=-1) (fun st=>l.length-st.2.2.toNat) (fun st hI hc'=>?_) (x0:=((-1),false,0)) ⟨⟨0,rfl,Nat.zero_le _⟩,rfl⟩
 · simp only[key.1.2];omega
 · obtain⟨⟨i,k1,k2⟩,k3⟩:=hI
   obtain⟨o,b,n⟩:=st
   simp only at k1 k3
   subst k1
   simp only[lc_impl_wholeCombo_1,iLt_eq,lLen_eq,decide_eq_true_eq] at hc'
   have hi:i<l.length:=by omega
   have e:iAdd .i64 (i:Int) 1=((i+1:Nat):Int):=by rw[iAdd_i64 (by unfold In64;omega)];omega
   have hne:iEq (l.getD i (0,0)).1 ((2^k:Nat):Int)=false:=by rw[iEq_eq,decide_eq_false_iff_not];exact hc i hi k hk
   simp only[lf_impl_wholeCombo_1,e,lGet_eq,iNat_eq,Int.toNat_natCast,hne,bSel_f]
   exact⟨⟨⟨i+1,rfl,by omega⟩,k3⟩,by omega⟩
theorem combos11_ok(c:List Int×Int×Int)(h:CurOk c):ok_spec_l11Combos c∧CurOk (c.1,(v_spec_l11Combos c).2)∧(v_spec_l11Combos c).1.length≤4:=by
 rw[oe_spec_l11Combos,ve_spec_l11Combos]
 obtain⟨a1,a2,_,a4⟩:=below_ok c 4 h
 obtain⟨b1,b2,_,b4⟩:=below_ok _ 5 a2
 have a4:=a4 (by omega)
 have b4:=b4 (by omega)
 have key:=loop_inv (c:=lc_spec_l11Combos_1) (f:=lf_spec_l11Combos_1 c) (p:=lp_spec_l11Combos_1 c) (fun st=>CurOk (c.1,st.2.2.2)∧0≤st.2.1∧0≤st.2.2.1∧(st.1.length:Int)+st.2.2.1≤4) (fun st=>st.2.2.1.toNat) (fun st hI=>by
  obtain⟨l,a,n,cu⟩:=st
  obtain⟨i0,i1,i2,i3⟩:=hI
  simp only at i0 i1 i2 i3
  obtain⟨c1,c2,_,c4⟩:=below_ok (c.1,cu) 3 i0
  have c4:=c4 (by omega)
  have hL:lLen [(3:Int),5,6,7,12,24,9,11,14,15]=10:=by rw[lLen_eq];rfl
  refine⟨?_,fun hc=>?_⟩
  · unfold lp_spec_l11Combos_1
    simp only[bAnd_eq,iGt_eq,iLt_eq,hL,Bool.and_eq_true,decide_eq_true_eq]
    refine⟨fun hc=>⟨⟨i1,hc.2⟩,?_,⟨trivial,?_⟩,c1⟩,fun _=>trivial⟩
    · rw[iNat_eq];simp only[List.length_cons,List.length_nil];omega
    · unfold roomy;simp only[List.length_cons,List.length_nil];omega
  · unfold lc_spec_l11Combos_1 at hc
    simp only[bAnd_eq,iGt_eq,iLt_eq,hL,Bool.and_eq_true,decide_eq_true_eq] at hc
    unfold lf_spec_l11Combos_1
    have e1:iAdd .i64 a 1=a+1:=iAdd_i64 (by unfold In64;omega)
    have e2:iSub .i64 n 1=n-1:=iSub_i64 (by unfold In64;omega)
    simp only[e1,e2,lApp_eq,List.length_append,List.length_singleton]
    rw[iAdd_i64 (by unfold In64;omega)]
    exact⟨⟨c2,by omega,by omega,by omega⟩,by omega⟩) (x0:=([],(v_spec_l1Below (c,4)).1,v_spec_l1Below ((c.1,(v_spec_l1Below (c,4)).2),5))) ⟨b2,a4.1,b4.1,by simp only[List.length_nil];omega⟩
 obtain⟨k1,⟨k2,k3,k4,k5⟩,_⟩:=key
 exact⟨⟨a1,b1,k1⟩,k2,by simp only;omega⟩
theorem loop_zero{X:Type}{c:X→Bool}{f:X→X}{p:X→Prop}{x0:X}(hp:p x0)(hc:c x0=false):LoopOk c f p x0:=(loop_inv (fun x=>x=x0) (fun _=>0) (fun x hx=>by subst hx;exact⟨hp,fun h=>by rw[hc] at h;cases h⟩) rfl).1
theorem combiner_ok(L:Cos)(T:Int)(hl:L.length≤4):ok_spec_IsCombiner (L,T,[],0,0,0,[]):=by
 have n0:lLen ([]:List Ev)=0:=by rw[lLen_eq];rfl
 have z:iLt 0 0=false:=by rw[iLt_eq];decide
 have e:iEq (lLen ([]:List Ev)) 0=true:=by rw[n0,iEq_eq];decide
 have a1:=(ok_isCombos L (by omega)).1
 have a2:ok_spec_l11Active (L,T,[],0,0,0,[]):=by
  rw[oe_spec_l11Active]
  refine⟨loop_zero ?_ ?_,fun _=>trivial,fun _=>ok_l1In _⟩
  · unfold lp_spec_l11Active_1;simp only[n0,z];exact⟨fun h=>(by cases h),fun _=>trivial⟩
  · unfold lc_spec_l11Active_1;simp only[n0,z,bAnd_eq,Bool.false_and]
 have a3:ok_spec_l11Held (L,T,[],0,0,0,[]):=by
  rw[oe_spec_l11Held]
  refine loop_zero ?_ ?_
  · unfold lp_spec_l11Held_1;simp only[n0,z];exact⟨fun h=>(by cases h),fun _=>trivial⟩
  · unfold lc_spec_l11Held_1;simp only[n0,z]
 have a4:∀ m,ok_spec_l10Follows ([],m,24,0):=fun m=>by
  rw[oe_spec_l10Follows]
  refine loop_zero ?_ ?_
  · unfold lp_spec_l10Follows_1;simp only[n0,z];exact⟨fun h=>(by cases h),fun _=>trivial⟩
  · unfold lc_spec_l10Follows_1;simp only[n0,z,bAnd_eq,Bool.false_and]
 rw[oe_spec_IsCombiner]
 simp only[e]
 simp[a1,a2,a3,a4,ok_l1In]
theorem newc_ok(L:Cos)(T:Int)(hl:L.length≤4):ok_spec_NewCombiner (L,T)∧(v_spec_NewCombiner (L,T)).1.1.length≤4∧((v_spec_NewCombiner (L,T)).1.2.1=T∨(v_spec_NewCombiner (L,T)).1.2.1=0):=by
 rw[oe_spec_NewCombiner,ve_spec_NewCombiner]
 refine⟨⟨combiner_ok L T hl,fun _=>trivial,fun _=>?_⟩,?_⟩
 · rw[oe_spec_l11Copy]
   unfold roomy
   simp only[List.length_nil]
   omega
 · rw[ve_spec_l11Copy,bSel_eq]
   split
   · simp
   · simp only[lApp_eq,List.nil_append];exact⟨hl,.inl trivial⟩
theorem new11_ok(c:List Int×Int×Int)(h:CurOk c):ok_spec_l11New c∧CurOk (c.1,(v_spec_l11New c).2)∧(v_spec_l11New c).1.1.length≤4∧0≤(v_spec_l11New c).1.2.1∧(v_spec_l11New c).1.2.1≤6:=by
 rw[oe_spec_l11New,ve_spec_l11New]
 obtain⟨a1,a2,a3⟩:=combos11_ok c h
 obtain⟨b1,b2,_,b4⟩:=below_ok _ 6 a2
 have b4:=b4 (by omega)
 obtain⟨n1,n2,n3⟩:=newc_ok (v_spec_l11Combos c).1 (iAdd .i64 1 (v_spec_l1Below ((c.1,(v_spec_l11Combos c).2),6)).1) a3
 have e:iAdd .i64 1 (v_spec_l1Below ((c.1,(v_spec_l11Combos c).2),6)).1=1+(v_spec_l1Below ((c.1,(v_spec_l11Combos c).2),6)).1:=iAdd_i64 (by unfold In64;omega)
 refine⟨⟨a1,b1,n1⟩,b2,n2,?_,?_⟩
 · simp only;rcases n3 with n3|n3<;>rw[n3]<;>omega
 · simp only;rcases n3 with n3|n3<;>rw[n3]<;>omega
theorem bent11_ok(c:List Int×Int×Int)(h:CurOk c):ok_spec_l11Bent c∧CurOk (c.1,(v_spec_l11Bent c).2)∧(v_spec_l11Bent c).1.length≤5:=by
 rw[oe_spec_l11Bent,ve_spec_l11Bent]
 obtain⟨a1,a2,a3⟩:=combos11_ok c h
 generalize v_spec_l11Combos c=C at a2 a3 ⊢
 obtain⟨b1,b2⟩:=once_ok _ 3 a2
 simp only at b1 b2
 generalize v_spec_l1Once ((c.1,C.2),3)=O at b2 ⊢
 obtain⟨c1,c2,_⟩:=pick_ok _ [3,1,31,16777217,(-1),10] (by decide) b2
 simp only at c1 c2
 generalize v_spec_l1PickInt ((c.1,O.2),[3,1,31,16777217,(-1),10])=P at c2 ⊢
 obtain⟨d1,d2,_⟩:=pick_ok _ [23,24,31,32,30] (by decide) c2
 simp only at d1 d2
 generalize v_spec_l1PickInt ((c.1,P.2),[23,24,31,32,30])=R at d2 ⊢
 refine⟨⟨a1,b1,fun _=>⟨c1,d1,?_⟩,fun _=>trivial⟩,?_,?_⟩
 · unfold roomy;simp only[List.length_singleton];omega
 · cases O.1
   · simp only[bSel_f];exact b2
   · simp only[bSel_t];exact d2
 · simp only[bSel_eq,lApp_eq]
   split
   · simp only[List.length_append,List.length_singleton];omega
   · omega
theorem events11_ok(c:List Int×Int×Int)(T:Int)(h:CurOk c)(h0:0≤T)(h1:T≤1000):ok_spec_l11Events (c,0,0,T,5)∧CurOk (c.1,(v_spec_l11Events (c,0,0,T,5)).2)∧(v_spec_l11Events (c,0,0,T,5)).1.length≤5∧∀ e∈(v_spec_l11Events (c,0,0,T,5)).1,e.1≤5005:=by
 rw[oe_spec_l11Events,ve_spec_l11Events]
 have e6:iAdd .i64 5 1=6:=iAdd_i64 (by unfold In64;omega)
 obtain⟨a1,a2,_,a4⟩:=below_ok c (iAdd .i64 5 1) h
 have a4:=a4 (by rw[e6];omega)
 rw[e6] at a4
 have eB:ls_spec_l11Events_1 (c,0,0,T,5)=v_spec_l1Below (c,iAdd .i64 5 1):=rfl
 rw[e6] at eB
 have a2':CurOk (c.1,(ls_spec_l11Events_1 (c,0,0,T,5)).2):=a2
 have a4':0≤(ls_spec_l11Events_1 (c,0,0,T,5)).1∧(ls_spec_l11Events_1 (c,0,0,T,5)).1<6:=by rw[eB];exact a4
 generalize ls_spec_l11Events_1 (c,0,0,T,5)=B at a2' a4' ⊢
 have key:=loop_inv (c:=lc_spec_l11Events_1) (f:=lf_spec_l11Events_1 (c,0,0,T,5)) (p:=lp_spec_l11Events_1 (c,0,0,T,5)) (fun st=>CurOk (c.1,st.2.2.2.2)∧0≤st.2.2.2.1∧(st.2.2.1.length:Int)+st.2.2.2.1≤5∧0≤st.2.1∧st.2.1+1001*st.2.2.2.1≤5005∧∀ e∈st.2.2.1,e.1≤5005) (fun st=>st.2.2.2.1.toNat) (fun st hI=>by
  obtain⟨hd,tm,l,n,cu⟩:=st
  obtain⟨i0,i1,i2,i3,i4,i5⟩:=hI
  simp only at i0 i1 i2 i3 i4 i5
  obtain⟨c1,c2,c3⟩:=pick_ok (c.1,cu) [0,0,0,1,1,2,(iMax 0 (iSub .i64 T 1)),T,(iAdd .i64 T 1)] (by simp) i0
  have eP:ls_spec_l11Events_2 (c,0,0,T,5) (hd,tm,l,n,cu)=v_spec_l1PickInt ((c.1,cu),[0,0,0,1,1,2,(iMax 0 (iSub .i64 T 1)),T,(iAdd .i64 T 1)]):=rfl
  rw[← eP] at c2 c3
  have hP:0≤(ls_spec_l11Events_2 (c,0,0,T,5) (hd,tm,l,n,cu)).1∧(ls_spec_l11Events_2 (c,0,0,T,5) (hd,tm,l,n,cu)).1≤1001:=by
   generalize (ls_spec_l11Events_2 (c,0,0,T,5) (hd,tm,l,n,cu)).1=z at c3 ⊢
   rw[iSub_i64 (by unfold In64;omega),iAdd_i64 (by unfold In64;omega),iMax_u] at c3
   simp only[List.mem_cons,List.not_mem_nil,or_false] at c3
   split at c3<;>omega
  obtain⟨d1,d2,_,d4⟩:=below_ok _ 5 c2
  have d4:=d4 (by omega)
  have eK:ls_spec_l11Events_3 (c,0,0,T,5) (hd,tm,l,n,cu)=v_spec_l1Below ((c.1,(ls_spec_l11Events_2 (c,0,0,T,5) (hd,tm,l,n,cu)).2),5):=rfl
  rw[← eK] at d2 d4
  refine⟨?_,fun hc=>?_⟩
  · unfold lp_spec_l11Events_1
    simp only[iGt_eq,decide_eq_true_eq]
    refine⟨fun hc=>⟨c1,d1,d4.1,d4.1,?_⟩,fun _=>trivial⟩
    unfold roomy;simp only[List.length_singleton];omega
  · unfold lc_spec_l11Events_1 at hc
    simp only[iGt_eq,decide_eq_true_eq] at hc
    unfold lf_spec_l11Events_1
    generalize ls_spec_l11Events_3 (c,0,0,T,5) (hd,tm,l,n,cu)=K at d2 d4 ⊢
    generalize ls_spec_l11Events_2 (c,0,0,T,5) (hd,tm,l,n,cu)=P at hP ⊢
    have e1:iAdd .i64 tm P.1=tm+P.1:=iAdd_i64 (by unfold In64;omega)
    have e2:iSub .i64 n 1=n-1:=iSub_i64 (by unfold In64;omega)
    simp only[e1,e2,lApp_eq,List.length_append,List.length_singleton]
    refine⟨⟨d2,by omega,by omega,by omega,by omega,fun e he=>?_⟩,by omega⟩
    rw[List.mem_append,List.mem_singleton] at he
    rcases he with he|rfl
    · exact i5 e he
    · simp only;omega) (x0:=(0,0,[],B)) ⟨a2',a4'.1,by simp only[List.length_nil];omega,by simp,by simp only;omega,by simp⟩
 obtain⟨k1,⟨k2,k3,k4,k5,k6,k7⟩,_⟩:=key
 exact⟨⟨a1,k1⟩,k2,by simp only;omega,k7⟩
theorem drawMatch_ok(x:List Int)(hx:x.length≤1048576):ok_spec_DrawMatchCombo x∧(v_spec_DrawMatchCombo x).1.length≤5∧(v_spec_DrawMatchCombo x).2.2.1.length≤5∧∀ e∈(v_spec_DrawMatchCombo x).2.2.1,e.1≤5005:=by
 rw[oe_spec_DrawMatchCombo,ve_spec_DrawMatchCombo]
 obtain⟨n1,n2,_⟩:=new_ok x hx
 obtain⟨x1,x2,x3,x4,x5⟩:=new11_ok _ n2
 obtain⟨l1,l2,l3,l4⟩:=events11_ok _ (v_spec_l11New (v_spec_l1New x)).1.2.1 x2 x4 (by omega)
 have eL:ls_spec_DrawMatchCombo_1 x=v_spec_l11Events (((v_spec_l1New x).1,(v_spec_l11New (v_spec_l1New x)).2),0,0,(v_spec_l11New (v_spec_l1New x)).1.2.1,5):=rfl
 rw[← eL] at l2 l3 l4
 simp only at l2
 obtain⟨o1,o2⟩:=once_ok _ 10 l2
 change CurOk ((v_spec_l1New x).1,(ls_spec_DrawMatchCombo_2 x).2) at o2
 generalize hp:iGt (lLen (ls_spec_DrawMatchCombo_1 x).1) 0=p
 have c5:CurOk ((v_spec_l1New x).1,(bSel p (ls_spec_DrawMatchCombo_2 x).2.1 (ls_spec_DrawMatchCombo_1 x).2.1),(bSel p (ls_spec_DrawMatchCombo_2 x).2.2 (ls_spec_DrawMatchCombo_1 x).2.2)):=by
  cases p
  · simp only[bSel_f];exact l2
  · simp only[bSel_t];exact o2
 obtain⟨b1,b2,_,b4⟩:=below_ok _ (lLen (ls_spec_DrawMatchCombo_1 x).1) c5
 have eB:ls_spec_DrawMatchCombo_3 x=v_spec_l1Below (((v_spec_l1New x).1,(bSel p (ls_spec_DrawMatchCombo_2 x).2.1 (ls_spec_DrawMatchCombo_1 x).2.1),(bSel p (ls_spec_DrawMatchCombo_2 x).2.2 (ls_spec_DrawMatchCombo_1 x).2.2)),(lLen (ls_spec_DrawMatchCombo_1 x).1)):=by unfold ls_spec_DrawMatchCombo_3;rw[hp]
 rw[← eB] at b2 b4
 obtain⟨p1,p2,_⟩:=pick_ok _ [-1,24,31,32] (by decide) b2
 change CurOk ((v_spec_l1New x).1,(ls_spec_DrawMatchCombo_4 x).2) at p2
 generalize hq:bAnd p (ls_spec_DrawMatchCombo_2 x).1=q
 have c10:CurOk ((v_spec_l1New x).1,(bSel q (ls_spec_DrawMatchCombo_4 x).2.1 (bSel p (ls_spec_DrawMatchCombo_2 x).2.1 (ls_spec_DrawMatchCombo_1 x).2.1)),(bSel q (ls_spec_DrawMatchCombo_4 x).2.2 (bSel p (ls_spec_DrawMatchCombo_2 x).2.2 (ls_spec_DrawMatchCombo_1 x).2.2))):=by
  cases q
  · simp only[bSel_f];exact c5
  · simp only[bSel_t];exact p2
 obtain⟨g1,g2⟩:=once_ok _ 10 c10
 have eG:ls_spec_DrawMatchCombo_5 x=v_spec_l1Once (((v_spec_l1New x).1,(bSel q (ls_spec_DrawMatchCombo_4 x).2.1 (bSel p (ls_spec_DrawMatchCombo_2 x).2.1 (ls_spec_DrawMatchCombo_1 x).2.1)),(bSel q (ls_spec_DrawMatchCombo_4 x).2.2 (bSel p (ls_spec_DrawMatchCombo_2 x).2.2 (ls_spec_DrawMatchCombo_1 x).2.2))),10):=by unfold ls_spec_DrawMatchCombo_5;rw[hp,hq]
 rw[← eG] at g2
 obtain⟨t1,t2,t3⟩:=bent11_ok _ g2
 change CurOk ((v_spec_l1New x).1,(ls_spec_DrawMatchCombo_6 x).2) at t2
 change (ls_spec_DrawMatchCombo_6 x).1.length≤5 at t3
 obtain⟨u1,_,_⟩:=pick_ok _ [0,3,201] (by decide) t2
 obtain⟨w1,_,_⟩:=below_ok _ 8 g2
 have hQ:(bSel q (lSet (ls_spec_DrawMatchCombo_1 x).1 (iNat (ls_spec_DrawMatchCombo_3 x).1) ((lGet (ls_spec_DrawMatchCombo_1 x).1 (iNat (ls_spec_DrawMatchCombo_3 x).1) (0,0,false)).1,(ls_spec_DrawMatchCombo_4 x).1,(lGet (ls_spec_DrawMatchCombo_1 x).1 (iNat (ls_spec_DrawMatchCombo_3 x).1) (0,0,false)).2.2)) (ls_spec_DrawMatchCombo_1 x).1).length≤5∧∀ e∈(bSel q (lSet (ls_spec_DrawMatchCombo_1 x).1 (iNat (ls_spec_DrawMatchCombo_3 x).1) ((lGet (ls_spec_DrawMatchCombo_1 x).1 (iNat (ls_spec_DrawMatchCombo_3 x).1) (0,0,false)).1,(ls_spec_DrawMatchCombo_4 x).1,(lGet (ls_spec_DrawMatchCombo_1 x).1 (iNat (ls_spec_DrawMatchCombo_3 x).1) (0,0,false)).2.2)) (ls_spec_DrawMatchCombo_1 x).1),e.1≤5005:=by
  cases q
  · simp only[bSel_f];exact⟨l3,l4⟩
  · simp only[bSel_t,lSet_eq,lGet_eq,List.length_set]
    refine⟨l3,fun e he=>?_⟩
    rcases List.mem_or_eq_of_mem_set he with he|rfl
    · exact l4 e he
    · simp only
      rw[bAnd_eq,Bool.and_eq_true] at hq
      rw[hq.1,iGt_eq,decide_eq_true_eq] at hp
      have b4:=b4 hp
      rw[lLen_eq] at b4
      exact l4 _ (getD_mem _ _ _ (by rw[iNat_eq];omega))
 generalize hQe:(bSel q (lSet (ls_spec_DrawMatchCombo_1 x).1 (iNat (ls_spec_DrawMatchCombo_3 x).1) ((lGet (ls_spec_DrawMatchCombo_1 x).1 (iNat (ls_spec_DrawMatchCombo_3 x).1) (0,0,false)).1,(ls_spec_DrawMatchCombo_4 x).1,(lGet (ls_spec_DrawMatchCombo_1 x).1 (iNat (ls_spec_DrawMatchCombo_3 x).1) (0,0,false)).2.2)) (ls_spec_DrawMatchCombo_1 x).1)=Q at hQ ⊢
 have okLast:ok_spec_l11Last (Q,0):=by
  rw[oe_spec_l11Last]
  refine⟨fun _=>trivial,fun h=>?_⟩
  simp only[iEq_eq,lLen_eq,decide_eq_false_iff_not] at h ⊢
  rw[iSub_i64 (by unfold In64;omega),iNat_eq]
  exact⟨⟨by omega,by omega⟩,by omega⟩
 refine⟨⟨n1,x1,l1,⟨⟨fun _=>o1,fun _=>trivial⟩,fun hqt=>?_,fun _=>trivial⟩,g1,⟨fun _=>⟨t1,u1⟩,fun _=>⟨okLast,w1⟩⟩⟩,?_⟩
 · rw[hqt] at hq
   rw[bAnd_eq,Bool.and_eq_true] at hq
   rw[hq.1,iGt_eq,decide_eq_true_eq] at hp
   have b4:=b4 hp
   rw[lLen_eq] at b4
   exact⟨b1,p1,b4,by rw[iNat_eq];omega⟩
 · rw[bSel_eq]
   split
   · exact⟨t3,hQ⟩
   · exact⟨by simp only;omega,hQ⟩
theorem plain_FnMatches(x:List Int)(hw:TuX.wf h_laws_FnMatches x):ok_laws_FnMatches x∧v_laws_FnMatches x=true:=by
 rw[oe_laws_FnMatches,ve_laws_FnMatches]
 obtain⟨b1,b2⟩:=big_eq x
 by_cases hx:1048576<x.length
 · have e:v_laws_big x=true:=by rw[b1];simpa using hx
   simp[e,b2,bOr_eq]
 have e:v_laws_big x=false:=by rw[b1];simpa using hx
 obtain⟨d1,d2,d3,d4⟩:=drawMatch_ok x (by omega)
 have e1:ls_laws_FnMatches_1 x=v_spec_IsEvents (v_spec_DrawMatchCombo x).2.2.1:=rfl
 have e2:ls_laws_FnMatches_2 x=v_impl_MatchCombo ((v_spec_DrawMatchCombo x).1,(v_spec_DrawMatchCombo x).2.1,(v_spec_DrawMatchCombo x).2.2.1,1000000):=rfl
 have e3:∀ i,ls_laws_FnMatches_3 x i=v_impl_MatchCombo ((v_spec_DrawMatchCombo x).1,(v_spec_DrawMatchCombo x).2.1,(lSub (v_spec_DrawMatchCombo x).2.2.1 0 (iNat i)),(lGet (v_spec_DrawMatchCombo x).2.2.1 (iNat i) (0,0,false)).1):=fun i=>rfl
 have c1:∀ i,lc_laws_FnMatches_1 x i=(bAnd (iLt i (lLen (v_spec_DrawMatchCombo x).2.2.1)) (bNot (iGe (lGet (v_spec_DrawMatchCombo x).2.2.1 (iNat i) (0,0,false)).2.1 24))):=fun i=>rfl
 have c2:∀ i,lc_laws_FnMatches_2 x i=(bAnd (iLt i (lLen (v_spec_DrawMatchCombo x).2.2.1)) (bNot (bAnd (iGt (ls_laws_FnMatches_3 x i).1 0) (bOr (iNe (ls_laws_FnMatches_3 x i).1 (ls_laws_FnMatches_2 x).1) (bOr (iNe (ls_laws_FnMatches_3 x i).2.1 (ls_laws_FnMatches_2 x).2.1) (iNe (ls_laws_FnMatches_3 x i).2.2 (ls_laws_FnMatches_2 x).2.2)))))):=fun i=>rfl
 have p1:∀ i:Nat,i≤(v_spec_DrawMatchCombo x).2.2.1.length→lp_laws_FnMatches_1 x (i:Int):=fun i hi=>by
  simp only[lp_laws_FnMatches_1,iLt_eq,lLen_eq,iNat_eq,Int.toNat_natCast,decide_eq_true_eq]
  exact⟨fun h=>⟨⟨by omega,by omega⟩,by omega⟩,fun _=>trivial⟩
 have okM:∀ (q:List Ev) (now:Int),q.length≤5→ok_impl_MatchCombo ((v_spec_DrawMatchCombo x).1,(v_spec_DrawMatchCombo x).2.1,q,now):=fun q now h=>(matchCombo_two _ _ q now (by omega) (by omega)).2.1
 have p2:∀ i:Nat,i≤(v_spec_DrawMatchCombo x).2.2.1.length→lp_laws_FnMatches_2 x (i:Int):=fun i hi=>by
  simp only[lp_laws_FnMatches_2,iLt_eq,lLen_eq,iNat_eq,Int.toNat_natCast,decide_eq_true_eq]
  exact⟨fun h=>⟨⟨by omega,Nat.zero_le _,by omega,by omega⟩,⟨by omega,by omega⟩,by omega,okM _ _ (by rw[lSub_eq,List.length_take,List.length_drop];omega)⟩,fun _=>trivial⟩
 have okC:=(ok_isCombos (v_spec_DrawMatchCombo x).1 (by omega)).1
 have okE:=isEvents_ok (l:=(v_spec_DrawMatchCombo x).2.2.1) (by omega)
 have okN:=okM (v_spec_DrawMatchCombo x).2.2.1 1000000 (by omega)
 have sc:=isCombos_eq (v_spec_DrawMatchCombo x).1 (by omega)
 rw[sc]
 generalize (v_spec_DrawMatchCombo x).2.2.1=Q at *
 generalize (v_spec_DrawMatchCombo x).2.1=term at *
 generalize (v_spec_DrawMatchCombo x).1=l at *
 obtain⟨l1,k,hk,v1,h1⟩:=scan_st (c:=lc_laws_FnMatches_1 x) (f:=lf_laws_FnMatches_1) (p:=lp_laws_FnMatches_1 x) (x0:=0) Q.length (fun i=>(i:Int)) (fun i=>!decide ((Q.getD i (0,0,false)).2.1≥24)) rfl (fun i hi _=>by
  rw[c1];simp only[bAnd_eq,bNot_eq,iLt_eq,iGe_eq,lLen_eq,lGet_eq,iNat_eq,Int.toNat_natCast,Int.ofNat_lt]) (fun i hi _=>by unfold lf_laws_FnMatches_1;rw[iAdd_i64 (by unfold In64;omega)];simp) (fun i hi _=>p1 i hi)
 have loop2:∀ t:Nat→Bool,(∀ i:Nat,i<Q.length→1≤i→(!((decide ((ls_laws_FnMatches_3 x (i:Int)).1 > 0))&&((!decide ((ls_laws_FnMatches_3 x (i:Int)).1=(ls_laws_FnMatches_2 x).1))||((!decide ((ls_laws_FnMatches_3 x (i:Int)).2.1=(ls_laws_FnMatches_2 x).2.1))||(!decide ((ls_laws_FnMatches_3 x (i:Int)).2.2=(ls_laws_FnMatches_2 x).2.2))))))=t (i-1))→1≤Q.length→LoopOk (lc_laws_FnMatches_2 x) lf_laws_FnMatches_1 (lp_laws_FnMatches_2 x) 1∧((∀ i,i<Q.length-1→t i=true)→loopV (lc_laws_FnMatches_2 x) lf_laws_FnMatches_1 1=(Q.length:Int)):=by
  intro t ht hQ
  obtain⟨l2,k2,hk2,v2,h2⟩:=scan_st (c:=lc_laws_FnMatches_2 x) (f:=lf_laws_FnMatches_1) (p:=lp_laws_FnMatches_2 x) (x0:=1) (Q.length-1) (fun i=>((i+1:Nat):Int)) t (by simp) (fun i hi _=>by
   rw[c2]
   simp only[bAnd_eq,bNot_eq,bOr_eq,iLt_eq,iGt_eq,iNe_eq,lLen_eq,Int.ofNat_lt]
   by_cases h:i+1<Q.length
   · have:=ht (i+1) h (by omega)
     rw[Nat.add_sub_cancel] at this
     rw[← this]
     have h':i<Q.length-1:=by omega
     simp only[h,h',decide_true,Bool.true_and]
   · have h':¬ i<Q.length-1:=by omega
     simp only[h,h',decide_false,Bool.false_and]) (fun i hi _=>by unfold lf_laws_FnMatches_1;rw[iAdd_i64 (by unfold In64;omega)];simp) (fun i hi _=>p2 (i+1) (by omega))
  refine⟨l2,fun h=>?_⟩
  rw[v2,h2.2 h];omega
 have L2:=loop2 (fun i=>(!((decide ((ls_laws_FnMatches_3 x ((i+1:Nat):Int)).1 > 0))&&((!decide ((ls_laws_FnMatches_3 x ((i+1:Nat):Int)).1=(ls_laws_FnMatches_2 x).1))||((!decide ((ls_laws_FnMatches_3 x ((i+1:Nat):Int)).2.1=(ls_laws_FnMatches_2 x).2.1))||(!decide ((ls_laws_FnMatches_3 x ((i+1:Nat):Int)).2.2=(ls_laws_FnMatches_2 x).2.2))))))) (fun i _ h=>by rw[show i-1+1=i by omega])
 clear loop2
 refine⟨?_,?_⟩
 · refine⟨b2,fun _=>trivial,fun _=>⟨d1,⟨okE,fun _=>trivial,fun _=>⟨fun _=>trivial,fun h=>?_⟩⟩,fun _=>trivial,fun hcond=>?_⟩⟩
   · rw[iEq_eq,lLen_eq,decide_eq_false_iff_not] at h
     exact⟨⟨by omega,by omega⟩,by rw[iNat_eq];omega⟩
   · have hpos:1≤Q.length:=by
      simp only[bOr_eq,Bool.or_eq_false_iff,iEq_eq,lLen_eq,decide_eq_false_iff_not] at hcond
      omega
     have lt:((0:Int)≤0∧(0:Int)<(Q.length:Int))∧iNat 0<Q.length:=⟨⟨by omega,by omega⟩,by rw[iNat_eq];omega⟩
     exact⟨l1,fun _=>trivial,fun _=>⟨okN,(L2 hpos).1,fun _=>trivial,fun _=>⟨okC,fun _=>trivial,fun _=>⟨fun _=>⟨fun _=>⟨lt.1,lt.2,fun _=>lt,fun _=>trivial⟩,fun _=>trivial⟩,fun _=>trivial⟩⟩⟩⟩
 rw[e,bOr_eq false,Bool.false_or,e1]
 cases hE:v_spec_IsEvents Q with
 |false=>simp[bOr_eq,bNot_eq]
 | true=>
   obtain⟨ev,ord⟩:=isEvents_s (by omega) hE
   cases Q with
   |nil=>simp[bOr_eq,bNot_eq,iEq_eq,lLen_eq]
   | cons q0 rest=>
     have g0:lGet (q0::rest) (iNat 0) (0,0,false)=q0:=by rw[lGet_eq,iNat_eq];rfl
     rw[g0]
     cases hD:q0.2.2 with
     |false=>simp[bOr_eq,bNot_eq]
     | true=>
       have n0:iEq (lLen (q0::rest)) 0=false:=by rw[iEq_eq,lLen_eq];simp;omega
       rw[n0,v1]
       by_cases hkl:k=(q0::rest).length
       case neg=>
        have:iLt (k:Int) (lLen (q0::rest))=true:=by rw[iLt_eq,lLen_eq];simp only[decide_eq_true_eq];omega
        simp[this,bOr_eq,bNot_eq]
       have hkey:=h1.1 hkl
       have kf:iLt (k:Int) (lLen (q0::rest))=false:=by rw[iLt_eq,lLen_eq,hkl];simp
       rw[kf]
       have sw:∀ e∈q0::rest,v_impl_isSwitchEvent e=true:=fun e he=>by
        obtain⟨i,hi,rfl⟩:=List.getElem_of_mem he
        have:=hkey i hi
        rw[List.getD_eq_getElem?_getD,List.getElem?_eq_getElem hi] at this
        rw[ve_impl_isSwitchEvent,bAnd_eq,ev _ he,iLt_eq]
        simpa using this
       have hlen:((q0::rest).length:Int)=rest.length+1:=by simp
       have hr5:rest.length≤4:=by omega
       have h05:q0.1≤5005:=d4 q0 List.mem_cons_self
       have hq0:0≤q0.1:=by
        have:=ev q0 List.mem_cons_self
        rw[ve_impl_IsEvent] at this
        simp only[bAnd_eq,iGe_eq,Bool.and_eq_true,decide_eq_true_eq] at this
        omega
       have ordr:∀ e∈rest,q0.1≤e.1:=fun e he=>(List.pairwise_cons.1 ord).1 e he
       have early:∀ i,i<(q0::rest).length-1→(ls_laws_FnMatches_3 x ((i+1:Nat):Int)).1 > 0→ls_laws_FnMatches_3 x ((i+1:Nat):Int)=ls_laws_FnMatches_2 x:=by
        intro i hi hp
        have hi':i<rest.length:=by simpa using hi
        have es:lSub (q0::rest) 0 (iNat ((i+1:Nat):Int))=q0::rest.take i:=by rw[lSub_eq,iNat_eq,Int.toNat_natCast];rfl
        have eg:lGet (q0::rest) (iNat ((i+1:Nat):Int)) (0,0,false)=rest.getD i (0,0,false):=by rw[lGet_eq,iNat_eq,Int.toNat_natCast];rfl
        have er:rest=rest.take i++rest.getD i (0,0,false)::rest.drop (i+1):=by
         rw[← drop_cons rest i (0,0,false) hi',List.take_append_drop]
        rw[e3,es,eg] at hp ⊢
        rw[e2]
        by_cases hg:mGo l term q0
        · rw[mat_eq l term q0 _ _ (by rw[List.length_take];omega) hg] at hp ⊢
          rw[mat_eq l term q0 rest _ (by omega) hg]
          by_cases hw:v_impl_within (l,iShl .i64 1 q0.2.1)=true
          · rw[if_pos hw] at hp ⊢
            rw[if_pos hw]
            have:=mW_app l (iAdd .i64 q0.1 term) 1000000 (rest.getD i (0,0,false)) (rest.drop (i+1)) (sw _ (List.mem_cons_of_mem _ (getD_mem rest i _ hi'))) (rest.take i) (iShl .i64 1 q0.2.1) 1 hp
            rw[← er] at this
            exact this.symm
          · rw[if_neg hw,if_neg hw]
        · rw[mat_bad l term q0 _ _ hg] at hp
          simp at hp
       have v2:=(L2 (by simp)).2 fun i hi=>by
        by_cases hp:(ls_laws_FnMatches_3 x ((i+1:Nat):Int)).1 > 0
        · rw[early i hi hp];simp
        · simp only[hp,decide_false,Bool.false_and,Bool.not_false]
       rw[v2]
       have nf:iLt ((q0::rest).length:Int) (lLen (q0::rest))=false:=by rw[iLt_eq,lLen_eq];simp
       rw[nf,e2]
       by_cases hg:mGo l term q0
       case neg=>
        rw[mat_bad l term q0 rest _ hg]
        have:bOr (bNot (v_impl_IsCombos l)) (bOr (iLt term 1) (iGt term 200))=true:=by
         simp only[bOr_eq,bNot_eq,iLt_eq,iGt_eq]
         unfold mGo at hg
         cases hI:v_impl_IsCombos l with
         |false=>rfl
         | true=>
           rw[hI,sw q0 List.mem_cons_self,hD] at hg
           simp at hg
           simp;omega
        rw[this]
        simp[bOr_eq,bNot_eq,bAnd_eq,bSel_eq,iEq_eq]
       rw[mat_eq l term q0 rest _ (by omega) hg]
       obtain⟨g1,g2,g3,g4,g5⟩:=hg
       have:bOr (bNot (v_impl_IsCombos l)) (bOr (iLt term 1) (iGt term 200))=false:=by
        simp only[bOr_eq,bNot_eq,iLt_eq,iGt_eq,g1]
        simp;omega
       rw[this]
       have hen:iAdd .i64 q0.1 term=q0.1+term:=iAdd_i64 (by unfold In64;omega)
       rw[hen]
       have fin:MOk q0.1 (q0.1+term) (rest.length+1) (if v_impl_within (l,iShl .i64 1 q0.2.1)=true then mW l (q0.1+term) 1000000 rest (iShl .i64 1 q0.2.1) 1 else (1,q0.1,-1)):=by
        split
        · have hk0:=switch_key g4
          have hk1:q0.2.1<24:=by
           rw[ve_impl_isSwitchEvent,bAnd_eq,Bool.and_eq_true,iLt_eq,decide_eq_true_eq] at g4
           exact g4.2
          obtain⟨kn,hkn⟩:=Int.eq_ofNat_of_zero_le hk0
          have h2p:2^kn≤2^23:=Nat.pow_le_pow_right (by omega) (by omega)
          have h23:(2:Nat)^23=8388608:=by decide
          have es:=shl_i64 (a:=1) (k:=kn) (by omega) (by omega)
          rw[show ((1:Nat):Int)=1 from rfl,Nat.one_mul,← hkn] at es
          have:=mW_ok l q0.1 (q0.1+term) 1000000 (by omega) (by omega) rest (iShl .i64 1 q0.2.1) 1 (fun e he=>⟨sw e (List.mem_cons_of_mem _ he),ordr e he⟩) (by omega) (by omega) (fun _=>by rw[es];exact whole_one (by omega) g1 kn (by omega))
          rw[show (rest.length:Int)+1=1+rest.length by omega]
          exact this
        · exact⟨by simp,by simp only;omega,by simp,by simp only;omega,by simp⟩
       generalize (if v_impl_within (l,iShl .i64 1 q0.2.1)=true then mW l (q0.1+term) 1000000 rest (iShl .i64 1 q0.2.1) 1 else (1,q0.1,-1))=r at fin ⊢
       obtain⟨f1,f2,f3,f4,f5⟩:=fin
       simp only[bOr_eq,bNot_eq,bAnd_eq,bSel_eq,bIff_eq,iGe_eq,iLe_eq,iGt_eq,lLen_eq,hlen]
       simp only[Bool.not_true,Bool.not_false,Bool.false_or,Bool.true_and,Bool.false_eq_true,if_false,Bool.and_eq_true,decide_eq_true_eq,beq_iff_eq,ge_iff_le,gt_iff_lt]
       refine⟨f1,f2,f3,f4,?_⟩
       rw[decide_eq_decide]
       exact f5
end Go.Ag
