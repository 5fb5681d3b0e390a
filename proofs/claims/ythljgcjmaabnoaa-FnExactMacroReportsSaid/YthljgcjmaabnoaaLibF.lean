/- Part 6 of what FnExactMacroReports needs. No conditions. -/
import Derived.Test.YthljgcjmaabnoaaLibE
namespace Go.Ag
set_option linter.unusedSimpArgs false
set_option linter.unusedVariables false
noncomputable section
section
set_option maxRecDepth 8000
def Zqq:DCode:=
 (.seq [1,0] (.region [oi 0 4 0])
 (.seq [1] (.region [om 0 5 1,
 on 1 6 0,
 oa 2 7 (.len (.t 6)),
 oa 3 8 (.bin .sub (.t 5) (.t 7)),
 om 4 1 8])
  (.seq [1] (.seq [10,1] (.region [om 0 9 1,
 oa 1 10 (.bin .lss (.t 9) (.c (.int .i64 0)))])
  (.cond (.t 10) (.seq [4] (.region [oi 0 4 (-1)])
  .ret) .skip))
  (.seq [4] (.region [om 0 11 1,
 om 1 4 11])
  .ret))))
def df_laws_szHeldS:DFun:=⟨2,12,0,true,[.tmp 4],Zqq⟩
@[irreducible] def Zek:Zar:=Za5 df_laws_szHeldS.er.er
@[irreducible] def Zfp:ZfF:=ZaQ df_laws_szHeldS.er
theorem Zqj:Zbd Zek Zfp:=by unfold Zek Zfp;exact Zav (f:=df_laws_szHeldS.er) trivial
def ZgR:List HT:=[.one .frz (.sl rI5),.one .frz (.int .i64)]
def Zg4:QT:=.one (.one .own (.int .i64))
@[irreducible] def ZaN(x:(List (Int×Int×Int×Int×Int))×Int):Int:=(shut fun x=>fnV df_laws_szHeldS ZgR Zg4 x).1 x
@[irreducible] def ZdY(x:(List (Int×Int×Int×Int×Int))×Int):Prop:=(shut fun x=>ZhR df_laws_szHeldS ZgR Zg4 x).1 x
def ZlI:ZhA:=ZbC ZgR Zg4 ZdY ZaN
theorem ZpL:Zbp Zfp ZlI:=by unfold Zfp;exact Zaz (f:=df_laws_szHeldS) (hs:=ZgR) (q:=Zg4) trivial (by kernel_rfl) (fun x=>by kernel_rfl) (fun x h=>by unfold ZdY at h;exact Eq.mp (congrFun (shut _).2 x) h) (fun x=>by unfold ZaN;exact(congrFun (shut _).2 x).symm)
def Zoq:DCode:=
 (.seq [2,1] (.region [oa 0 1 (.boxB 0 4 (.t 0)),
 oa 1 2 (.allocB 1 [(.int .i64 0),(.int .i64 0),(.int .i64 0),(.int .i64 0)])])
  (.seq [3,2,1] (.region [oa 0 3 (.allocB 2 [(.int .i64 0),(.int .i64 0),(.int .i64 0),(.int .i64 0)])])
  (.seq [3,2,1] (.region [oa 0 4 (.fieldA 0 (.t 1)),
 ob 1 5 (.loadB 0 none (.t 4)),
 oa 2 6 (.fieldA 0 (.t 3)),
 os 3 (.storeB 2 1 (.t 6) (.t 5))])
  (.seq [3,2,1] (.region [oa 0 7 (.fieldA 1 (.t 1)),
 ob 1 8 (.loadB 0 none (.t 7)),
 oa 2 9 (.fieldA 1 (.t 3)),
 os 3 (.storeB 2 1 (.t 9) (.t 8))])
  (.seq [3,2,1] (.region [oa 0 10 (.fieldA 2 (.t 1)),
 ob 1 11 (.loadB 0 none (.t 10)),
 oa 2 12 (.fieldA 2 (.t 3)),
 os 3 (.storeB 2 1 (.t 12) (.t 11))])
  (.seq [3,2] (.region [oa 0 13 (.fieldA 3 (.t 1)),
 ob 1 14 (.loadB 0 none (.t 13)),
 oa 2 15 (.fieldA 3 (.t 3)),
 os 3 (.storeB 2 1 (.t 15) (.t 14))])
  (.seq [2] (.region [ob 0 16 (.loadB 2 (some 4) (.t 3)),
 os 1 (.storeB 1 4 (.t 2) (.t 16))])
  .ret)))))))
def df_laws_toAction:DFun:=⟨1,17,3,true,[.cell 2 (some 4)],Zoq⟩
@[irreducible] def ZdV:Zar:=Za5 df_laws_toAction.er.er
@[irreducible] def ZeJ:ZfF:=ZaQ df_laws_toAction.er
theorem ZoC:Zbd ZdV ZeJ:=by unfold ZdV ZeJ;exact Zav (f:=df_laws_toAction.er) trivial
def Zgj:List HT:=[.agg [(.frz,.int .i64),(.frz,.int .i64),(.frz,.int .i64),(.frz,.int .i64)]]
def Zgx:QT:=.one (.agg [(.own,.int .i64),(.own,.int .i64),(.own,.int .i64),(.own,.int .i64)])
@[irreducible] def ZbR(x:Int×Int×Int×Int):Int×Int×Int×Int:=(shut fun x=>fnV df_laws_toAction Zgj Zgx x).1 x
@[irreducible] def Zc9(x:Int×Int×Int×Int):Prop:=(shut fun x=>ZhR df_laws_toAction Zgj Zgx x).1 x
def ZkL:ZhA:=ZbC Zgj Zgx Zc9 ZbR
theorem Zoe:Zbp ZeJ ZkL:=by unfold ZeJ;exact Zaz (f:=df_laws_toAction) (hs:=Zgj) (q:=Zgx) trivial (by kernel_rfl) (fun x=>by kernel_rfl) (fun x h=>by unfold Zc9 at h;exact Eq.mp (congrFun (shut _).2 x) h) (fun x=>by unfold ZbR;exact(congrFun (shut _).2 x).symm)
def Zrx:DCode:=
 (.seq [2,1] (.region [oa 0 1 (.boxB 0 5 (.t 0)),
 oa 1 2 (.allocB 1 [(.int .i64 0),(.int .i64 0),(.int .i64 0),(.int .i64 0),(.int .i64 0)])])
  (.seq [3,2,1] (.region [oa 0 3 (.allocB 2 [(.int .i64 0),(.int .i64 0),(.int .i64 0),(.int .i64 0),(.int .i64 0)])])
  (.seq [3,2,1] (.region [oa 0 4 (.fieldA 0 (.t 1)),
 ob 1 5 (.loadB 0 none (.t 4)),
 oa 2 6 (.fieldA 0 (.t 3)),
 os 3 (.storeB 2 1 (.t 6) (.t 5))])
  (.seq [3,2] (.region [oa 0 7 (.fieldA 1 (.t 1)),
 oa 1 8 (.loadB 0 (some 4) (.t 7)),
 oc 2 9 ZdV ZeJ ZkL [(.t 8)],
 oa 3 10 (.fieldA 1 (.t 3)),
 os 4 (.storeB 2 4 (.t 10) (.t 9))])
  (.seq [2] (.region [ob 0 11 (.loadB 2 (some 5) (.t 3)),
 os 1 (.storeB 1 5 (.t 2) (.t 11))])
  .ret)))))
def df_laws_toHeld:DFun:=⟨1,12,3,true,[.cell 2 (some 5)],Zrx⟩
@[irreducible] def Ze2:Zar:=Za5 df_laws_toHeld.er.er
@[irreducible] def Zgi:ZfF:=ZaQ df_laws_toHeld.er
theorem Zq4:Zbd Ze2 Zgi:=by unfold Ze2 Zgi;exact Zav (f:=df_laws_toHeld.er) ⟨ZoC,trivial⟩
def ZhQ:List HT:=[.agg [(.frz,.int .i64),(.frz,.int .i64),(.frz,.int .i64),(.frz,.int .i64),(.frz,.int .i64)]]
def Zh4:QT:=.one (.agg [(.own,.int .i64),(.own,.int .i64),(.own,.int .i64),(.own,.int .i64),(.own,.int .i64)])
@[irreducible] def ZaZ(x:Int×Int×Int×Int×Int):Int×Int×Int×Int×Int:=(shut fun x=>fnV df_laws_toHeld ZhQ Zh4 x).1 x
@[irreducible] def Zdv(x:Int×Int×Int×Int×Int):Prop:=(shut fun x=>ZhR df_laws_toHeld ZhQ Zh4 x).1 x
def ZmW:ZhA:=ZbC ZhQ Zh4 Zdv ZaZ
theorem ZrO:Zbp Zgi ZmW:=by unfold Zgi;exact Zaz (f:=df_laws_toHeld) (hs:=ZhQ) (q:=Zh4) ⟨Zoe,trivial⟩ (by kernel_rfl) (fun x=>by kernel_rfl) (fun x h=>by unfold Zdv at h;exact Eq.mp (congrFun (shut _).2 x) h) (fun x=>by unfold ZaZ;exact(congrFun (shut _).2 x).symm)
def ZpD:DCode:=
 (.seq [0] (.region [oa 0 2 (.mv (.c .nils))])
 (.seq [3,0] (.region [on 0 5 0,
 oa 1 6 (.len (.t 5)),
 ⟨2,some 7,.a false (.mkSlice 5 [(.int .i64 0),(.int .i64 0),(.int .i64 0),(.int .i64 0),(.int .i64 0)] (.t 6)) (some rI5),none,[]⟩,
 om 3 3 7])
  (.seq [3] (.seq [4,3,0] (.region [oi 0 4 0])
  (.block 0 (.loop [0,3,4] 1 (.seq [4,3,0] (.seq [11,4,3,0] (.region [om 0 8 4,
 on 1 9 0,
 oa 2 10 (.len (.t 9)),
 oa 3 11 (.bin .lss (.t 8) (.t 10))])
  (.cond (.t 11) .skip (.exit 0)))
  (.seq [4,3,0] (.block 1 (.region [on 0 14 3,
 om 1 15 4,
 on 2 16 0,
 om 3 17 4,
 oa 4 18 (.indexA 5 (.t 16) (.t 17)),
 oa 5 19 (.loadH (some 5) (.t 18)),
 oc 6 20 Ze2 Zgi ZmW [(.t 19)],
 oa 7 21 (.indexA 5 (.t 14) (.t 15)),
 os 8 (.storeH 5 (.t 21) (.t 20))]))
  (.region [om 0 12 4,
 oa 1 13 (.bin .add (.t 12) (.c (.int .i64 1))),
 om 2 4 13]))))))
  (.seq [2] (.region [om 0 22 3,
 om 1 2 22])
  .ret))))
def df_laws_toHeldS:DFun:=⟨1,23,0,false,[.tmp 2],ZpD⟩
@[irreducible] def Zbj:Zar:=Za5 df_laws_toHeldS.er.er
@[irreducible] def ZcG:ZfF:=ZaQ df_laws_toHeldS.er
theorem Zf8:Zbd Zbj ZcG:=by unfold Zbj ZcG;exact Zav (f:=df_laws_toHeldS.er) ⟨Zq4,trivial⟩
def ZgV:List HT:=[.one .frz (.sl rI5)]
def ZgY:QT:=.one (.one .own (.sl rI5))
@[irreducible] def Zab(x:List (Int×Int×Int×Int×Int)):List (Int×Int×Int×Int×Int):=(shut fun x=>fnV df_laws_toHeldS ZgV ZgY x).1 x
@[irreducible] def ZbT(x:List (Int×Int×Int×Int×Int)):Prop:=(shut fun x=>ZhR df_laws_toHeldS ZgV ZgY x).1 x
def Zfi:ZhA:=ZbC ZgV ZgY ZbT Zab
theorem Zf7:Zbp ZcG Zfi:=by unfold ZcG;exact Zaz (f:=df_laws_toHeldS) (hs:=ZgV) (q:=ZgY) ⟨ZrO,trivial⟩ (by kernel_rfl) (fun x=>by kernel_rfl) (fun x h=>by unfold ZbT at h;exact Eq.mp (congrFun (shut _).2 x) h) (fun x=>by unfold Zab;exact(congrFun (shut _).2 x).symm)
def Znl:DCode:=
 (.seq [1] (.region [oa 0 1 (.boxB 0 4 (.t 0)),
 oa 1 2 (.mv (.c (.bool false)))])
  (.seq [2] (.region [oa 0 3 (.loadB 0 (some 4) (.t 1)),
 oc 1 4 ZbE ZcQ ZfR [(.t 3)],
 om 2 5 4,
 og 3 6 (.fieldA 0 (.t 1)) 5 true,
 og 4 7 (.loadB 0 none (.t 6)) 5 true,
 og 5 8 (.bin .eql (.t 7) (.c (.int .i64 6))) 5 true,
 og 6 9 (.mv (.t 8)) 5 true,
 og 7 10 (.fieldA 0 (.t 1)) 9 false,
 og 8 11 (.loadB 0 none (.t 10)) 9 false,
 og 9 12 (.bin .eql (.t 11) (.c (.int .i64 7))) 9 false,
 og 10 13 (.pick (.t 9) (.c (.bool true)) (.t 12)) 5 true,
 oa 11 14 (.pick (.t 5) (.t 13) (.c (.bool false))),
 om 12 2 14])
  .ret))
def df_spec_IsTapHold:DFun:=⟨1,15,1,true,[.tmp 2],Znl⟩
@[irreducible] def Zda:Zar:=Za5 df_spec_IsTapHold.er.er
@[irreducible] def Zed:ZfF:=ZaQ df_spec_IsTapHold.er
theorem Zni:Zbd Zda Zed:=by unfold Zda Zed;exact Zav (f:=df_spec_IsTapHold.er) ⟨Zhy,trivial⟩
def Zfx:List HT:=[.agg [(.frz,.int .i64),(.frz,.int .i64),(.frz,.int .i64),(.frz,.int .i64)]]
def ZfC:QT:=.one (.one .own (.bool))
@[irreducible] def ZbY(x:Int×Int×Int×Int):Bool:=(shut fun x=>fnV df_spec_IsTapHold Zfx ZfC x).1 x
@[irreducible] def ZcO(x:Int×Int×Int×Int):Prop:=(shut fun x=>ZhR df_spec_IsTapHold Zfx ZfC x).1 x
def Zj8:ZhA:=ZbC Zfx ZfC ZcO ZbY
theorem Znm:Zbp Zed Zj8:=by unfold Zed;exact Zaz (f:=df_spec_IsTapHold) (hs:=Zfx) (q:=ZfC) ⟨Zhs,trivial⟩ (by kernel_rfl) (fun x=>by kernel_rfl) (fun x h=>by unfold ZcO at h;exact Eq.mp (congrFun (shut _).2 x) h) (fun x=>by unfold ZbY;exact(congrFun (shut _).2 x).symm)
def Zrl:DCode:=
 (.seq [0] (.region [oa 0 2 (.mv (.c (.bool false)))])
 (.seq [3,0] (.region [oi 0 3 0])
 (.seq [] (.seq [4,3,0] (.region [oi 0 4 0])
 (.block 0 (.loop [0,3,4] 1 (.seq [4,3,0] (.seq [9,4,3,0] (.region [om 0 6 4,
 on 1 7 0,
 oa 2 8 (.len (.t 7)),
 oa 3 9 (.bin .lss (.t 6) (.t 8))])
  (.cond (.t 9) .skip (.exit 0)))
  (.seq [4,3,0] (.block 1 (.seq [5,4,3,0] (.region [on 0 12 0,
 om 1 13 4,
 oa 2 14 (.indexA 5 (.t 12) (.t 13)),
 oa 3 15 (.fieldA 1 (.t 14)),
 ob 4 16 (.loadH (some 4) (.t 15)),
 oa 5 5 (.allocB 0 [(.int .i64 0),(.int .i64 0),(.int .i64 0),(.int .i64 0)]),
 os 6 (.storeB 0 4 (.t 5) (.t 16))])
  (.seq [4,3,0] (.seq [48,4,3,0] (.region [on 0 17 0,
 om 1 18 4,
 oa 2 19 (.indexA 5 (.t 17) (.t 18)),
 oa 3 20 (.fieldA 0 (.t 19)),
 oa 4 21 (.loadH none (.t 20)),
 oc 5 22 Zbt Zdt ZfK [(.t 21),(.c (.int .i64 0)),(.c (.int .i64 31))],
 oa 6 23 (.un .not (.t 22)),
 om 7 24 23,
 og 8 25 (.mv (.t 3)) 24 false,
 ⟨9,some 26,.a true (.mv (.t 0)) none,(some (24,false)),[]⟩,
 og 10 27 (.mv (.t 4)) 24 false,
 og 11 28 (.indexA 5 (.t 26) (.t 27)) 24 false,
 og 12 29 (.fieldA 0 (.t 28)) 24 false,
 og 13 30 (.loadH none (.t 29)) 24 false,
 og 14 31 (.bin .shr (.t 25) (.t 30)) 24 false,
 og 15 32 (.bin .and (.t 31) (.c (.int .i64 1))) 24 false,
 og 16 33 (.bin .eql (.t 32) (.c (.int .i64 1))) 24 false,
 oa 17 34 (.pick (.t 24) (.c (.bool true)) (.t 33)),
 om 18 35 34,
 og 19 36 (.loadB 0 (some 4) (.t 5)) 35 false,
 ⟨20,some 37,.call false ZbE ZcQ ZfR [(.t 36)],(some (35,false)),[]⟩,
 og 21 38 (.un .not (.t 37)) 35 false,
 oa 22 39 (.pick (.t 35) (.c (.bool true)) (.t 38)),
 om 23 40 39,
 og 24 41 (.fieldA 0 (.t 5)) 40 false,
 og 25 42 (.loadB 0 none (.t 41)) 40 false,
 og 26 43 (.bin .eql (.t 42) (.c (.int .i64 1))) 40 false,
 oa 27 44 (.pick (.t 40) (.c (.bool true)) (.t 43)),
 om 28 45 44,
 og 29 46 (.loadB 0 (some 4) (.t 5)) 45 false,
 ⟨30,some 47,.call false Zda Zed Zj8 [(.t 46)],(some (45,false)),[]⟩,
 oa 31 48 (.pick (.t 45) (.c (.bool true)) (.t 47))])
  (.cond (.t 48) (.seq [2] (.region [oa 0 2 (.mv (.c (.bool false)))])
  .ret) .skip))
  (.region [om 0 49 3,
 on 1 50 0,
 om 2 51 4,
 oa 3 52 (.indexA 5 (.t 50) (.t 51)),
 oa 4 53 (.fieldA 0 (.t 52)),
 oa 5 54 (.loadH none (.t 53)),
 oa 6 55 (.bin .shl (.c (.int .i64 1)) (.t 54)),
 oa 7 56 (.bin .or (.t 49) (.t 55)),
 om 8 3 56]))))
  (.region [om 0 10 4,
 oa 1 11 (.bin .add (.t 10) (.c (.int .i64 1))),
 om 2 4 11]))))))
  (.seq [2] (.region [oa 0 2 (.mv (.c (.bool true)))])
  .ret))))
def df_spec_IsHeld:DFun:=⟨1,57,1,true,[.tmp 2],Zrl⟩
@[irreducible] def Zdj:Zar:=Za5 df_spec_IsHeld.er.er
@[irreducible] def Ze0:ZfF:=ZaQ df_spec_IsHeld.er
theorem Zl3:Zbd Zdj Ze0:=by unfold Zdj Ze0;exact Zav (f:=df_spec_IsHeld.er) ⟨ZfN,Zhy,Zni,trivial⟩
def ZhL:List HT:=[.one .frz (.sl rI5)]
def Zih:QT:=.one (.one .own (.bool))
@[irreducible] def Zbn(x:List (Int×Int×Int×Int×Int)):Bool:=(shut fun x=>fnV df_spec_IsHeld ZhL Zih x).1 x
@[irreducible] def Zdy(x:List (Int×Int×Int×Int×Int)):Prop:=(shut fun x=>ZhR df_spec_IsHeld ZhL Zih x).1 x
def Zj2:ZhA:=ZbC ZhL Zih Zdy Zbn
theorem ZlJ:Zbp Ze0 Zj2:=by unfold Ze0;exact Zaz (f:=df_spec_IsHeld) (hs:=ZhL) (q:=Zih) ⟨ZfL,Zhs,Znm,trivial⟩ (by kernel_rfl) (fun x=>by kernel_rfl) (fun x h=>by unfold Zdy at h;exact Eq.mp (congrFun (shut _).2 x) h) (fun x=>by unfold Zbn;exact(congrFun (shut _).2 x).symm)
def ZvK:DCode:=
 (.seq [1,0] (.region [oi 0 4 0])
 (.seq [4] (.region [om 0 5 0,
 om 1 6 1,
 oa 2 7 (.bin .shr (.t 5) (.t 6)),
 oa 3 8 (.bin .and (.t 7) (.c (.int .i64 1))),
 om 4 4 8])
  .ret))
def df_impl_bit:DFun:=⟨2,9,0,true,[.tmp 4],ZvK⟩
@[irreducible] def Zij:Zar:=Za5 df_impl_bit.er.er
@[irreducible] def Zjr:ZfF:=ZaQ df_impl_bit.er
theorem Zvg:Zbd Zij Zjr:=by unfold Zij Zjr;exact Zav (f:=df_impl_bit.er) trivial
def Zlf:List HT:=[.one .frz (.int .i64),.one .frz (.int .i64)]
def Zlo:QT:=.one (.one .own (.int .i64))
@[irreducible] def ZdL(x:Int×Int):Int:=(shut fun x=>fnV df_impl_bit Zlf Zlo x).1 x
@[irreducible] def ZiO(x:Int×Int):Prop:=(shut fun x=>ZhR df_impl_bit Zlf Zlo x).1 x
def ZrV:ZhA:=ZbC Zlf Zlo ZiO ZdL
theorem Zu3:Zbp Zjr ZrV:=by unfold Zjr;exact Zaz (f:=df_impl_bit) (hs:=Zlf) (q:=Zlo) trivial (by kernel_rfl) (fun x=>by kernel_rfl) (fun x h=>by unfold ZiO at h;exact Eq.mp (congrFun (shut _).2 x) h) (fun x=>by unfold ZdL;exact(congrFun (shut _).2 x).symm)
def Zrc:DCode:=
 (.seq [0] (.region [oa 0 2 (.mv (.c (.bool false)))])
 (.seq [3,0] (.region [oi 0 3 0])
 (.seq [] (.seq [8,7,6,3] (.region [on 0 6 0,
 oa 1 7 (.len (.t 6)),
 oi 2 8 0])
  (.block 0 (.loop [3,6,7,8] 1 (.seq [9,8,7,6,3] (.region [oa 0 9 (.bin .lss (.t 8) (.t 7))])
  (.seq [8,7,6,3] (.cond (.t 9) .skip (.exit 0))
  (.seq [8,7,6,3] (.block 1 (.seq [8,7,6,5,3] (.region [oa 0 10 (.indexA 5 (.t 6) (.t 8)),
 ob 1 11 (.loadH (some 5) (.t 10)),
 oa 2 5 (.allocB 0 [(.int .i64 0),(.int .i64 0),(.int .i64 0),(.int .i64 0),(.int .i64 0)]),
 os 3 (.storeB 0 5 (.t 5) (.t 11))])
  (.seq [8,7,6,5,3] (.seq [32,8,7,6,5,3] (.region [oa 0 12 (.fieldA 0 (.t 5)),
 oa 1 13 (.loadB 0 none (.t 12)),
 oa 2 14 (.bin .lss (.t 13) (.c (.int .i64 0))),
 om 3 15 14,
 og 4 16 (.fieldA 0 (.t 5)) 15 false,
 og 5 17 (.loadB 0 none (.t 16)) 15 false,
 og 6 18 (.bin .gtr (.t 17) (.c (.int .i64 31))) 15 false,
 oa 7 19 (.pick (.t 15) (.c (.bool true)) (.t 18)),
 om 8 20 19,
 og 9 21 (.mv (.t 3)) 20 false,
 og 10 22 (.fieldA 0 (.t 5)) 20 false,
 og 11 23 (.loadB 0 none (.t 22)) 20 false,
 ⟨12,some 24,.call false Zij Zjr ZrV [(.t 21),(.t 23)],(some (20,false)),[]⟩,
 og 13 25 (.bin .eql (.t 24) (.c (.int .i64 1))) 20 false,
 oa 14 26 (.pick (.t 20) (.c (.bool true)) (.t 25)),
 om 15 27 26,
 og 16 28 (.fieldA 1 (.t 5)) 27 false,
 og 17 29 (.loadB 0 (some 4) (.t 28)) 27 false,
 ⟨18,some 30,.call false Zcj ZdW ZiA [(.t 29)],(some (27,false)),[]⟩,
 og 19 31 (.un .not (.t 30)) 27 false,
 oa 20 32 (.pick (.t 27) (.c (.bool true)) (.t 31))])
  (.cond (.t 32) (.seq [2] (.region [oa 0 2 (.mv (.c (.bool false)))])
  .ret) .skip))
  (.seq [8,7,6,5,3] (.seq [35,8,7,6,5,3] (.region [oa 0 33 (.fieldA 1 (.t 5)),
 oa 1 34 (.fieldA 0 (.t 33)),
 oa 2 35 (.loadB 0 none (.t 34))])
  (.block 2 (.seq [36,8,7,6,5,3] (.seq [36,35,8,7,6,5,3] (.region [oa 0 37 (.bin .eql (.t 35) (.c (.int .i64 1))),
 om 1 36 37])
  (.cond (.t 36) .skip (.seq [36,35,8,7,6,5,3] (.region [oa 0 38 (.bin .eql (.t 35) (.c (.int .i64 6))),
 om 1 36 38])
  (.cond (.t 36) .skip (.region [oa 0 39 (.bin .eql (.t 35) (.c (.int .i64 7))),
 om 1 36 39])))))
  (.cond (.t 36) (.seq [2] (.region [oa 0 2 (.mv (.c (.bool false)))])
  .ret) .skip))))
  (.region [om 0 40 3,
 oa 1 41 (.fieldA 0 (.t 5)),
 oa 2 42 (.loadB 0 none (.t 41)),
 oa 3 43 (.bin .shl (.c (.int .i64 1)) (.t 42)),
 oa 4 44 (.bin .or (.t 40) (.t 43)),
 om 5 3 44])))))
  (.region [oa 0 45 (.bin .add (.t 8) (.c (.int .i64 1))),
 om 1 8 45])))))))
  (.seq [2] (.region [oa 0 2 (.mv (.c (.bool true)))])
  .ret))))
def df_impl_IsHeld:DFun:=⟨1,46,1,true,[.tmp 2],Zrc⟩
@[irreducible] def Zdh:Zar:=Za5 df_impl_IsHeld.er.er
@[irreducible] def ZeX:ZfF:=ZaQ df_impl_IsHeld.er
theorem ZlN:Zbd Zdh ZeX:=by unfold Zdh ZeX;exact Zav (f:=df_impl_IsHeld.er) ⟨Zvg,Zke,trivial⟩
def Zie:List HT:=[.one .frz (.sl rI5)]
def Zh0:QT:=.one (.one .own (.bool))
@[irreducible] def ZaH(x:List (Int×Int×Int×Int×Int)):Bool:=(shut fun x=>fnV df_impl_IsHeld Zie Zh0 x).1 x
@[irreducible] def Zdw(x:List (Int×Int×Int×Int×Int)):Prop:=(shut fun x=>ZhR df_impl_IsHeld Zie Zh0 x).1 x
def ZjZ:ZhA:=ZbC Zie Zh0 Zdw ZaH
theorem ZlX:Zbp ZeX ZjZ:=by unfold ZeX;exact Zaz (f:=df_impl_IsHeld) (hs:=Zie) (q:=Zh0) ⟨Zu3,Zkj,trivial⟩ (by kernel_rfl) (fun x=>by kernel_rfl) (fun x h=>by unfold Zdw at h;exact Eq.mp (congrFun (shut _).2 x) h) (fun x=>by unfold ZaH;exact(congrFun (shut _).2 x).symm)
def Zq8:DCode:=
 (.seq [3,2] (.region [oa 0 2 (.boxB 0 5 (.t 0)),
 oa 1 3 (.boxB 1 5 (.t 1)),
 oa 2 4 (.mv (.c (.bool false)))])
  (.seq [3,2] (.seq [9,3,2] (.region [oa 0 5 (.fieldA 0 (.t 2)),
 oa 1 6 (.loadB 0 none (.t 5)),
 oa 2 7 (.fieldA 0 (.t 3)),
 oa 3 8 (.loadB 1 none (.t 7)),
 oa 4 9 (.bin .neq (.t 6) (.t 8))])
  (.cond (.t 9) (.seq [4] (.region [oa 0 4 (.mv (.c (.bool false)))])
  .ret) .skip))
  (.seq [] (.seq [15] (.region [oa 0 10 (.fieldA 1 (.t 2)),
 oa 1 11 (.loadB 0 (some 4) (.t 10)),
 oa 2 12 (.fieldA 1 (.t 3)),
 oa 3 13 (.loadB 1 (some 4) (.t 12)),
 oc 4 14 ZdX ZeL ZkV [(.t 11),(.t 13)],
 oa 5 15 (.un .not (.t 14))])
  (.cond (.t 15) (.seq [4] (.region [oa 0 4 (.mv (.c (.bool false)))])
  .ret) .skip))
  (.seq [4] (.region [oa 0 4 (.mv (.c (.bool true)))])
  .ret))))
def df_laws_eqHeld:DFun:=⟨2,16,2,true,[.tmp 4],Zq8⟩
@[irreducible] def ZeW:Zar:=Za5 df_laws_eqHeld.er.er
@[irreducible] def Zgv:ZfF:=ZaQ df_laws_eqHeld.er
theorem Zrb:Zbd ZeW Zgv:=by unfold ZeW Zgv;exact Zav (f:=df_laws_eqHeld.er) ⟨ZoN,trivial⟩
def Zh3:List HT:=[.agg [(.frz,.int .i64),(.frz,.int .i64),(.frz,.int .i64),(.frz,.int .i64),(.frz,.int .i64)],.agg [(.frz,.int .i64),(.frz,.int .i64),(.frz,.int .i64),(.frz,.int .i64),(.frz,.int .i64)]]
def ZhT:QT:=.one (.one .own (.bool))
@[irreducible] def ZbP(x:(Int×Int×Int×Int×Int)×(Int×Int×Int×Int×Int)):Bool:=(shut fun x=>fnV df_laws_eqHeld Zh3 ZhT x).1 x
@[irreducible] def Zdq(x:(Int×Int×Int×Int×Int)×(Int×Int×Int×Int×Int)):Prop:=(shut fun x=>ZhR df_laws_eqHeld Zh3 ZhT x).1 x
def ZmZ:ZhA:=ZbC Zh3 ZhT Zdq ZbP
theorem ZrR:Zbp Zgv ZmZ:=by unfold Zgv;exact Zaz (f:=df_laws_eqHeld) (hs:=Zh3) (q:=ZhT) ⟨Zox,trivial⟩ (by kernel_rfl) (fun x=>by kernel_rfl) (fun x h=>by unfold Zdq at h;exact Eq.mp (congrFun (shut _).2 x) h) (fun x=>by unfold ZbP;exact(congrFun (shut _).2 x).symm)
def Zp5:DCode:=
 (.seq [1,0] (.region [oa 0 4 (.mv (.c (.bool false)))])
 (.seq [1,0] (.seq [10,1,0] (.region [on 0 6 0,
 oa 1 7 (.len (.t 6)),
 on 2 8 1,
 oa 3 9 (.len (.t 8)),
 oa 4 10 (.bin .neq (.t 7) (.t 9))])
  (.cond (.t 10) (.seq [4] (.region [oa 0 4 (.mv (.c (.bool false)))])
  .ret) .skip))
  (.seq [] (.seq [5,1,0] (.region [oi 0 5 0])
  (.block 0 (.loop [0,1,5] 1 (.seq [5,1,0] (.seq [14,5,1,0] (.region [om 0 11 5,
 on 1 12 0,
 oa 2 13 (.len (.t 12)),
 oa 3 14 (.bin .lss (.t 11) (.t 13))])
  (.cond (.t 14) .skip (.exit 0)))
  (.seq [5,1,0] (.block 1 (.seq [26,5,1,0] (.region [on 0 17 0,
 om 1 18 5,
 xA 2 19 (.indexA 5 (.t 17) (.t 18)) (rg 2),
 xA 3 20 (.loadH (some 5) (.t 19)) (rg 3),
 on 4 21 1,
 om 5 22 5,
 xA 6 23 (.indexA 5 (.t 21) (.t 22)) [4,5],
 xA 7 24 (.loadH (some 5) (.t 23)) [4,5,6],
 xC 8 25 ZeW Zgv ZmZ [(.t 20),(.t 24)] (rg 8),
 xA 9 26 (.un .not (.t 25)) (rg 9)])
  (.cond (.t 26) (.seq [4] (.region [oa 0 4 (.mv (.c (.bool false)))])
  .ret) .skip)))
  (.region [om 0 15 5,
 oa 1 16 (.bin .add (.t 15) (.c (.int .i64 1))),
 om 2 5 16]))))))
  (.seq [4] (.region [oa 0 4 (.mv (.c (.bool true)))])
  .ret))))
def df_laws_eqHeldS:DFun:=⟨2,27,0,true,[.tmp 4],Zp5⟩
@[irreducible] def Zen:Zar:=Za5 df_laws_eqHeldS.er.er
@[irreducible] def Zfj:ZfF:=ZaQ df_laws_eqHeldS.er
theorem ZpJ:Zbd Zen Zfj:=by unfold Zen Zfj;exact Zav (f:=df_laws_eqHeldS.er) ⟨Zrb,trivial⟩
def Zg2:List HT:=[.one .frz (.sl rI5),.one .frz (.sl rI5)]
def Zg7:QT:=.one (.one .own (.bool))
@[irreducible] def ZcK(x:(List (Int×Int×Int×Int×Int))×(List (Int×Int×Int×Int×Int))):Bool:=(shut fun x=>fnV df_laws_eqHeldS Zg2 Zg7 x).1 x
@[irreducible] def ZdC(x:(List (Int×Int×Int×Int×Int))×(List (Int×Int×Int×Int×Int))):Prop:=(shut fun x=>ZhR df_laws_eqHeldS Zg2 Zg7 x).1 x
def Zl1:ZhA:=ZbC Zg2 Zg7 ZdC ZcK
theorem ZqR:Zbp Zfj Zl1:=by unfold Zfj;exact Zaz (f:=df_laws_eqHeldS) (hs:=Zg2) (q:=Zg7) ⟨ZrR,trivial⟩ (by kernel_rfl) (fun x=>by kernel_rfl) (fun x h=>by unfold ZdC at h;exact Eq.mp (congrFun (shut _).2 x) h) (fun x=>by unfold ZcK;exact(congrFun (shut _).2 x).symm)
end
section
set_option maxRecDepth 100000
theorem Zqz (x):ZaN x=(bSel (iLt (iSub .i64 x.2 (lLen x.1)) 0) (-1) (iSub .i64 x.2 (lLen x.1))):=by unfold ZaN;exact(congrFun (shut _).2 x).trans (by kernel_rfl)
theorem Zpt (x):ZdY x=True:=by unfold ZdY;exact(congrFun (shut _).2 x).trans (by kernel_rfl)
theorem Zn8 (x):ZbR x=(x.1,x.2.1,x.2.2.1,x.2.2.2):=by unfold ZbR;exact(congrFun (shut _).2 x).trans (by kernel_rfl)
theorem Zow (x):Zc9 x=True:=by unfold Zc9;exact(congrFun (shut _).2 x).trans (by kernel_rfl)
theorem Zrv (x):ZaZ x=(x.1,(ZbR (x.2.1,x.2.2.1,x.2.2.2.1,x.2.2.2.2)).1,(ZbR (x.2.1,x.2.2.1,x.2.2.2.1,x.2.2.2.2)).2.1,(ZbR (x.2.1,x.2.2.1,x.2.2.2.1,x.2.2.2.2)).2.2.1,(ZbR (x.2.1,x.2.2.1,x.2.2.2.1,x.2.2.2.2)).2.2.2):=by unfold ZaZ;exact(congrFun (shut _).2 x).trans (by kernel_rfl)
theorem ZrH (x):Zdv x=(Zc9 (x.2.1,x.2.2.1,x.2.2.2.1,x.2.2.2.2)):=by unfold Zdv;exact(congrFun (shut _).2 x).trans (by kernel_rfl)
theorem ZqG (x):Zab x=(ZaV (fun(x0:((List (Int×(Int×(Int×(Int×Int)))))×Int))=>(iLt x0.2 (lLen x))) (fun(x0:((List (Int×(Int×(Int×(Int×Int)))))×Int))=>((lSet x0.1 (iNat x0.2) ((ZaZ ((lGet x (iNat x0.2) (0,0,0,0,0)).1,(lGet x (iNat x0.2) (0,0,0,0,0)).2.1,(lGet x (iNat x0.2) (0,0,0,0,0)).2.2.1,(lGet x (iNat x0.2) (0,0,0,0,0)).2.2.2.1,(lGet x (iNat x0.2) (0,0,0,0,0)).2.2.2.2)).1,(ZaZ ((lGet x (iNat x0.2) (0,0,0,0,0)).1,(lGet x (iNat x0.2) (0,0,0,0,0)).2.1,(lGet x (iNat x0.2) (0,0,0,0,0)).2.2.1,(lGet x (iNat x0.2) (0,0,0,0,0)).2.2.2.1,(lGet x (iNat x0.2) (0,0,0,0,0)).2.2.2.2)).2.1,(ZaZ ((lGet x (iNat x0.2) (0,0,0,0,0)).1,(lGet x (iNat x0.2) (0,0,0,0,0)).2.1,(lGet x (iNat x0.2) (0,0,0,0,0)).2.2.1,(lGet x (iNat x0.2) (0,0,0,0,0)).2.2.2.1,(lGet x (iNat x0.2) (0,0,0,0,0)).2.2.2.2)).2.2.1,(ZaZ ((lGet x (iNat x0.2) (0,0,0,0,0)).1,(lGet x (iNat x0.2) (0,0,0,0,0)).2.1,(lGet x (iNat x0.2) (0,0,0,0,0)).2.2.1,(lGet x (iNat x0.2) (0,0,0,0,0)).2.2.2.1,(lGet x (iNat x0.2) (0,0,0,0,0)).2.2.2.2)).2.2.2.1,(ZaZ ((lGet x (iNat x0.2) (0,0,0,0,0)).1,(lGet x (iNat x0.2) (0,0,0,0,0)).2.1,(lGet x (iNat x0.2) (0,0,0,0,0)).2.2.1,(lGet x (iNat x0.2) (0,0,0,0,0)).2.2.2.1,(lGet x (iNat x0.2) (0,0,0,0,0)).2.2.2.2)).2.2.2.2)),(iAdd .i64 x0.2 1))) ((lRep (lLen x) (0,0,0,0,0)),0)).1:=by unfold Zab;exact(congrFun (shut _).2 x).trans (by kernel_rfl)
theorem ZpY (x):ZbT x=((((0:Int)≤(lLen x))∧(Zbu ((Int.toNat (lLen x))*5)))∧(LoopOk (fun(x0:((List (Int×(Int×(Int×(Int×Int)))))×Int))=>(iLt x0.2 (lLen x))) (fun(x0:((List (Int×(Int×(Int×(Int×Int)))))×Int))=>((lSet x0.1 (iNat x0.2) ((ZaZ ((lGet x (iNat x0.2) (0,0,0,0,0)).1,(lGet x (iNat x0.2) (0,0,0,0,0)).2.1,(lGet x (iNat x0.2) (0,0,0,0,0)).2.2.1,(lGet x (iNat x0.2) (0,0,0,0,0)).2.2.2.1,(lGet x (iNat x0.2) (0,0,0,0,0)).2.2.2.2)).1,(ZaZ ((lGet x (iNat x0.2) (0,0,0,0,0)).1,(lGet x (iNat x0.2) (0,0,0,0,0)).2.1,(lGet x (iNat x0.2) (0,0,0,0,0)).2.2.1,(lGet x (iNat x0.2) (0,0,0,0,0)).2.2.2.1,(lGet x (iNat x0.2) (0,0,0,0,0)).2.2.2.2)).2.1,(ZaZ ((lGet x (iNat x0.2) (0,0,0,0,0)).1,(lGet x (iNat x0.2) (0,0,0,0,0)).2.1,(lGet x (iNat x0.2) (0,0,0,0,0)).2.2.1,(lGet x (iNat x0.2) (0,0,0,0,0)).2.2.2.1,(lGet x (iNat x0.2) (0,0,0,0,0)).2.2.2.2)).2.2.1,(ZaZ ((lGet x (iNat x0.2) (0,0,0,0,0)).1,(lGet x (iNat x0.2) (0,0,0,0,0)).2.1,(lGet x (iNat x0.2) (0,0,0,0,0)).2.2.1,(lGet x (iNat x0.2) (0,0,0,0,0)).2.2.2.1,(lGet x (iNat x0.2) (0,0,0,0,0)).2.2.2.2)).2.2.2.1,(ZaZ ((lGet x (iNat x0.2) (0,0,0,0,0)).1,(lGet x (iNat x0.2) (0,0,0,0,0)).2.1,(lGet x (iNat x0.2) (0,0,0,0,0)).2.2.1,(lGet x (iNat x0.2) (0,0,0,0,0)).2.2.2.1,(lGet x (iNat x0.2) (0,0,0,0,0)).2.2.2.2)).2.2.2.2)),(iAdd .i64 x0.2 1))) (fun(x0:((List (Int×(Int×(Int×(Int×Int)))))×Int))=>(((iLt x0.2 (lLen x))=true→((((0:Int)≤x0.2)∧(x0.2<(((List.length x):Int))))∧(((iNat x0.2)<(List.length x))∧((Zdv ((lGet x (iNat x0.2) (0,0,0,0,0)).1,(lGet x (iNat x0.2) (0,0,0,0,0)).2.1,(lGet x (iNat x0.2) (0,0,0,0,0)).2.2.1,(lGet x (iNat x0.2) (0,0,0,0,0)).2.2.2.1,(lGet x (iNat x0.2) (0,0,0,0,0)).2.2.2.2))∧((((0:Int)≤x0.2)∧(x0.2<(((List.length x0.1):Int))))∧((iNat x0.2)<(List.length x0.1)))))))∧((iLt x0.2 (lLen x))=false→True))) ((lRep (lLen x) (0,0,0,0,0)),0))):=by unfold ZbT;exact(congrFun (shut _).2 x).trans (by kernel_rfl)
theorem Znt (x):ZbY x=(bAnd (ZaJ (x.1,x.2.1,x.2.2.1,x.2.2.2)) (bOr (iEq x.1 6) (iEq x.1 7))):=by unfold ZbY;exact(congrFun (shut _).2 x).trans (by kernel_rfl)
theorem Zng (x):ZcO x=(Zb0 (x.1,x.2.1,x.2.2.1,x.2.2.2)):=by unfold ZcO;exact(congrFun (shut _).2 x).trans (by kernel_rfl)
theorem ZrI (x):Zbn x=(bNot (iLt (ZaV (fun(x0:(Int×Int))=>(bAnd (iLt x0.2 (lLen x)) (bNot (bOr (bNot (ZaB ((lGet x (iNat x0.2) (0,0,0,0,0)).1,0,31))) (bOr (iEq (iAnd .i64 (iShr .i64 x0.1 (lGet x (iNat x0.2) (0,0,0,0,0)).1) 1) 1) (bOr (bNot (ZaJ ((lGet x (iNat x0.2) (0,0,0,0,0)).2.1,(lGet x (iNat x0.2) (0,0,0,0,0)).2.2.1,(lGet x (iNat x0.2) (0,0,0,0,0)).2.2.2.1,(lGet x (iNat x0.2) (0,0,0,0,0)).2.2.2.2))) (bOr (iEq (lGet x (iNat x0.2) (0,0,0,0,0)).2.1 1) (ZbY ((lGet x (iNat x0.2) (0,0,0,0,0)).2.1,(lGet x (iNat x0.2) (0,0,0,0,0)).2.2.1,(lGet x (iNat x0.2) (0,0,0,0,0)).2.2.2.1,(lGet x (iNat x0.2) (0,0,0,0,0)).2.2.2.2))))))))) (fun(x0:(Int×Int))=>((iOr .i64 x0.1 (iShl .i64 1 (lGet x (iNat x0.2) (0,0,0,0,0)).1)),(iAdd .i64 x0.2 1))) (0,0)).2 (lLen x))):=by unfold Zbn;exact(congrFun (shut _).2 x).trans (by kernel_rfl)
theorem Zrp (x):Zdy x=(LoopOk (fun(x0:(Int×Int))=>(bAnd (iLt x0.2 (lLen x)) (bNot (bOr (bNot (ZaB ((lGet x (iNat x0.2) (0,0,0,0,0)).1,0,31))) (bOr (iEq (iAnd .i64 (iShr .i64 x0.1 (lGet x (iNat x0.2) (0,0,0,0,0)).1) 1) 1) (bOr (bNot (ZaJ ((lGet x (iNat x0.2) (0,0,0,0,0)).2.1,(lGet x (iNat x0.2) (0,0,0,0,0)).2.2.1,(lGet x (iNat x0.2) (0,0,0,0,0)).2.2.2.1,(lGet x (iNat x0.2) (0,0,0,0,0)).2.2.2.2))) (bOr (iEq (lGet x (iNat x0.2) (0,0,0,0,0)).2.1 1) (ZbY ((lGet x (iNat x0.2) (0,0,0,0,0)).2.1,(lGet x (iNat x0.2) (0,0,0,0,0)).2.2.1,(lGet x (iNat x0.2) (0,0,0,0,0)).2.2.2.1,(lGet x (iNat x0.2) (0,0,0,0,0)).2.2.2.2))))))))) (fun(x0:(Int×Int))=>((iOr .i64 x0.1 (iShl .i64 1 (lGet x (iNat x0.2) (0,0,0,0,0)).1)),(iAdd .i64 x0.2 1))) (fun(x0:(Int×Int))=>(((iLt x0.2 (lLen x))=true→((((0:Int)≤x0.2)∧(x0.2<(((List.length x):Int))))∧(((iNat x0.2)<(List.length x))∧(((((0:Int)≤x0.2)∧(x0.2<(((List.length x):Int))))∧(((iNat x0.2)<(List.length x))∧((Zb3 ((lGet x (iNat x0.2) (0,0,0,0,0)).1,0,31))∧(((bNot (ZaB ((lGet x (iNat x0.2) (0,0,0,0,0)).1,0,31)))=true→True)∧((bNot (ZaB ((lGet x (iNat x0.2) (0,0,0,0,0)).1,0,31)))=false→((((0:Int)≤x0.2)∧(x0.2<(((List.length x):Int))))∧(((iNat x0.2)<(List.length x))∧(((0:Int)≤(lGet x (iNat x0.2) (0,0,0,0,0)).1)∧(((iEq (iAnd .i64 (iShr .i64 x0.1 (lGet x (iNat x0.2) (0,0,0,0,0)).1) 1) 1)=true→True)∧((iEq (iAnd .i64 (iShr .i64 x0.1 (lGet x (iNat x0.2) (0,0,0,0,0)).1) 1) 1)=false→((Zb0 ((lGet x (iNat x0.2) (0,0,0,0,0)).2.1,(lGet x (iNat x0.2) (0,0,0,0,0)).2.2.1,(lGet x (iNat x0.2) (0,0,0,0,0)).2.2.2.1,(lGet x (iNat x0.2) (0,0,0,0,0)).2.2.2.2))∧(((bNot (ZaJ ((lGet x (iNat x0.2) (0,0,0,0,0)).2.1,(lGet x (iNat x0.2) (0,0,0,0,0)).2.2.1,(lGet x (iNat x0.2) (0,0,0,0,0)).2.2.2.1,(lGet x (iNat x0.2) (0,0,0,0,0)).2.2.2.2)))=true→True)∧((bNot (ZaJ ((lGet x (iNat x0.2) (0,0,0,0,0)).2.1,(lGet x (iNat x0.2) (0,0,0,0,0)).2.2.1,(lGet x (iNat x0.2) (0,0,0,0,0)).2.2.2.1,(lGet x (iNat x0.2) (0,0,0,0,0)).2.2.2.2)))=false→(((iEq (lGet x (iNat x0.2) (0,0,0,0,0)).2.1 1)=true→True)∧((iEq (lGet x (iNat x0.2) (0,0,0,0,0)).2.1 1)=false→(ZcO ((lGet x (iNat x0.2) (0,0,0,0,0)).2.1,(lGet x (iNat x0.2) (0,0,0,0,0)).2.2.1,(lGet x (iNat x0.2) (0,0,0,0,0)).2.2.2.1,(lGet x (iNat x0.2) (0,0,0,0,0)).2.2.2.2)))))))))))))))))∧(((bOr (bNot (ZaB ((lGet x (iNat x0.2) (0,0,0,0,0)).1,0,31))) (bOr (iEq (iAnd .i64 (iShr .i64 x0.1 (lGet x (iNat x0.2) (0,0,0,0,0)).1) 1) 1) (bOr (bNot (ZaJ ((lGet x (iNat x0.2) (0,0,0,0,0)).2.1,(lGet x (iNat x0.2) (0,0,0,0,0)).2.2.1,(lGet x (iNat x0.2) (0,0,0,0,0)).2.2.2.1,(lGet x (iNat x0.2) (0,0,0,0,0)).2.2.2.2))) (bOr (iEq (lGet x (iNat x0.2) (0,0,0,0,0)).2.1 1) (ZbY ((lGet x (iNat x0.2) (0,0,0,0,0)).2.1,(lGet x (iNat x0.2) (0,0,0,0,0)).2.2.1,(lGet x (iNat x0.2) (0,0,0,0,0)).2.2.2.1,(lGet x (iNat x0.2) (0,0,0,0,0)).2.2.2.2))))))=true→True)∧((bOr (bNot (ZaB ((lGet x (iNat x0.2) (0,0,0,0,0)).1,0,31))) (bOr (iEq (iAnd .i64 (iShr .i64 x0.1 (lGet x (iNat x0.2) (0,0,0,0,0)).1) 1) 1) (bOr (bNot (ZaJ ((lGet x (iNat x0.2) (0,0,0,0,0)).2.1,(lGet x (iNat x0.2) (0,0,0,0,0)).2.2.1,(lGet x (iNat x0.2) (0,0,0,0,0)).2.2.2.1,(lGet x (iNat x0.2) (0,0,0,0,0)).2.2.2.2))) (bOr (iEq (lGet x (iNat x0.2) (0,0,0,0,0)).2.1 1) (ZbY ((lGet x (iNat x0.2) (0,0,0,0,0)).2.1,(lGet x (iNat x0.2) (0,0,0,0,0)).2.2.1,(lGet x (iNat x0.2) (0,0,0,0,0)).2.2.2.1,(lGet x (iNat x0.2) (0,0,0,0,0)).2.2.2.2))))))=false→((((0:Int)≤x0.2)∧(x0.2<(((List.length x):Int))))∧(((iNat x0.2)<(List.length x))∧((0:Int)≤(lGet x (iNat x0.2) (0,0,0,0,0)).1)))))))))∧((iLt x0.2 (lLen x))=false→True))) (0,0)):=by unfold Zdy;exact(congrFun (shut _).2 x).trans (by kernel_rfl)
theorem Zvr (x):ZdL x=(iAnd .i64 (iShr .i64 x.1 x.2) 1):=by unfold ZdL;exact(congrFun (shut _).2 x).trans (by kernel_rfl)
theorem Zvo (x):ZiO x=((0:Int)≤x.2):=by unfold ZiO;exact(congrFun (shut _).2 x).trans (by kernel_rfl)
theorem ZlW (x):ZaH x=(bNot (iLt (ZaV (fun(x0:(Int×Int))=>(bAnd (iLt x0.2 (lLen x)) (bAnd (bNot (bOr (iLt (lGet x (iNat x0.2) (0,0,0,0,0)).1 0) (bOr (iGt (lGet x (iNat x0.2) (0,0,0,0,0)).1 31) (bOr (iEq (ZdL (x0.1,(lGet x (iNat x0.2) (0,0,0,0,0)).1)) 1) (bNot (ZaF ((lGet x (iNat x0.2) (0,0,0,0,0)).2.1,(lGet x (iNat x0.2) (0,0,0,0,0)).2.2.1,(lGet x (iNat x0.2) (0,0,0,0,0)).2.2.2.1,(lGet x (iNat x0.2) (0,0,0,0,0)).2.2.2.2))))))) (bNot (bOr (iEq (lGet x (iNat x0.2) (0,0,0,0,0)).2.1 1) (bOr (iEq (lGet x (iNat x0.2) (0,0,0,0,0)).2.1 6) (iEq (lGet x (iNat x0.2) (0,0,0,0,0)).2.1 7))))))) (fun(x0:(Int×Int))=>((iOr .i64 x0.1 (iShl .i64 1 (lGet x (iNat x0.2) (0,0,0,0,0)).1)),(iAdd .i64 x0.2 1))) (0,0)).2 (lLen x))):=by unfold ZaH;exact(congrFun (shut _).2 x).trans (by kernel_rfl)
theorem Zra (x):Zdw x=(LoopOk (fun(x0:(Int×Int))=>(bAnd (iLt x0.2 (lLen x)) (bAnd (bNot (bOr (iLt (lGet x (iNat x0.2) (0,0,0,0,0)).1 0) (bOr (iGt (lGet x (iNat x0.2) (0,0,0,0,0)).1 31) (bOr (iEq (ZdL (x0.1,(lGet x (iNat x0.2) (0,0,0,0,0)).1)) 1) (bNot (ZaF ((lGet x (iNat x0.2) (0,0,0,0,0)).2.1,(lGet x (iNat x0.2) (0,0,0,0,0)).2.2.1,(lGet x (iNat x0.2) (0,0,0,0,0)).2.2.2.1,(lGet x (iNat x0.2) (0,0,0,0,0)).2.2.2.2))))))) (bNot (bOr (iEq (lGet x (iNat x0.2) (0,0,0,0,0)).2.1 1) (bOr (iEq (lGet x (iNat x0.2) (0,0,0,0,0)).2.1 6) (iEq (lGet x (iNat x0.2) (0,0,0,0,0)).2.1 7))))))) (fun(x0:(Int×Int))=>((iOr .i64 x0.1 (iShl .i64 1 (lGet x (iNat x0.2) (0,0,0,0,0)).1)),(iAdd .i64 x0.2 1))) (fun(x0:(Int×Int))=>(((iLt x0.2 (lLen x))=true→((((0:Int)≤x0.2)∧(x0.2<(((List.length x):Int))))∧(((iNat x0.2)<(List.length x))∧((((iLt (lGet x (iNat x0.2) (0,0,0,0,0)).1 0)=true→True)∧((iLt (lGet x (iNat x0.2) (0,0,0,0,0)).1 0)=false→(((iGt (lGet x (iNat x0.2) (0,0,0,0,0)).1 31)=true→True)∧((iGt (lGet x (iNat x0.2) (0,0,0,0,0)).1 31)=false→((ZiO (x0.1,(lGet x (iNat x0.2) (0,0,0,0,0)).1))∧(((iEq (ZdL (x0.1,(lGet x (iNat x0.2) (0,0,0,0,0)).1)) 1)=true→True)∧((iEq (ZdL (x0.1,(lGet x (iNat x0.2) (0,0,0,0,0)).1)) 1)=false→(Zct ((lGet x (iNat x0.2) (0,0,0,0,0)).2.1,(lGet x (iNat x0.2) (0,0,0,0,0)).2.2.1,(lGet x (iNat x0.2) (0,0,0,0,0)).2.2.2.1,(lGet x (iNat x0.2) (0,0,0,0,0)).2.2.2.2)))))))))∧(((bOr (iLt (lGet x (iNat x0.2) (0,0,0,0,0)).1 0) (bOr (iGt (lGet x (iNat x0.2) (0,0,0,0,0)).1 31) (bOr (iEq (ZdL (x0.1,(lGet x (iNat x0.2) (0,0,0,0,0)).1)) 1) (bNot (ZaF ((lGet x (iNat x0.2) (0,0,0,0,0)).2.1,(lGet x (iNat x0.2) (0,0,0,0,0)).2.2.1,(lGet x (iNat x0.2) (0,0,0,0,0)).2.2.2.1,(lGet x (iNat x0.2) (0,0,0,0,0)).2.2.2.2))))))=true→True)∧((bOr (iLt (lGet x (iNat x0.2) (0,0,0,0,0)).1 0) (bOr (iGt (lGet x (iNat x0.2) (0,0,0,0,0)).1 31) (bOr (iEq (ZdL (x0.1,(lGet x (iNat x0.2) (0,0,0,0,0)).1)) 1) (bNot (ZaF ((lGet x (iNat x0.2) (0,0,0,0,0)).2.1,(lGet x (iNat x0.2) (0,0,0,0,0)).2.2.1,(lGet x (iNat x0.2) (0,0,0,0,0)).2.2.2.1,(lGet x (iNat x0.2) (0,0,0,0,0)).2.2.2.2))))))=false→(((bOr (iEq (lGet x (iNat x0.2) (0,0,0,0,0)).2.1 1) (bOr (iEq (lGet x (iNat x0.2) (0,0,0,0,0)).2.1 6) (iEq (lGet x (iNat x0.2) (0,0,0,0,0)).2.1 7)))=true→True)∧((bOr (iEq (lGet x (iNat x0.2) (0,0,0,0,0)).2.1 1) (bOr (iEq (lGet x (iNat x0.2) (0,0,0,0,0)).2.1 6) (iEq (lGet x (iNat x0.2) (0,0,0,0,0)).2.1 7)))=false→((0:Int)≤(lGet x (iNat x0.2) (0,0,0,0,0)).1)))))))))∧((iLt x0.2 (lLen x))=false→True))) (0,0)):=by unfold Zdw;exact(congrFun (shut _).2 x).trans (by kernel_rfl)
theorem Zq7 (x):ZbP x=(bAnd (bNot (iNe x.1.1 x.2.1)) (bNot (bNot (ZdR ((x.1.2.1,x.1.2.2.1,x.1.2.2.2.1,x.1.2.2.2.2),x.2.2.1,x.2.2.2.1,x.2.2.2.2.1,x.2.2.2.2.2))))):=by unfold ZbP;exact(congrFun (shut _).2 x).trans (by kernel_rfl)
theorem Zq5 (x):Zdq x=(((iNe x.1.1 x.2.1)=true→True)∧((iNe x.1.1 x.2.1)=false→(Zc7 ((x.1.2.1,x.1.2.2.1,x.1.2.2.2.1,x.1.2.2.2.2),x.2.2.1,x.2.2.2.1,x.2.2.2.2.1,x.2.2.2.2.2)))):=by unfold Zdq;exact(congrFun (shut _).2 x).trans (by kernel_rfl)
theorem ZpI (x):ZcK x=(bAnd (bNot (iNe (lLen x.1) (lLen x.2))) (bNot (iLt (ZaV (fun(x0:Int)=>(bAnd (iLt x0 (lLen x.1)) (bNot (bNot (ZbP (((lGet x.1 (iNat x0) (0,0,0,0,0)).1,(lGet x.1 (iNat x0) (0,0,0,0,0)).2.1,(lGet x.1 (iNat x0) (0,0,0,0,0)).2.2.1,(lGet x.1 (iNat x0) (0,0,0,0,0)).2.2.2.1,(lGet x.1 (iNat x0) (0,0,0,0,0)).2.2.2.2),(lGet x.2 (iNat x0) (0,0,0,0,0)).1,(lGet x.2 (iNat x0) (0,0,0,0,0)).2.1,(lGet x.2 (iNat x0) (0,0,0,0,0)).2.2.1,(lGet x.2 (iNat x0) (0,0,0,0,0)).2.2.2.1,(lGet x.2 (iNat x0) (0,0,0,0,0)).2.2.2.2)))))) (fun(x0:Int)=>(iAdd .i64 x0 1)) 0) (lLen x.1)))):=by unfold ZcK;exact(congrFun (shut _).2 x).trans (by kernel_rfl)
theorem ZpF (x):ZdC x=(((iNe (lLen x.1) (lLen x.2))=true→True)∧((iNe (lLen x.1) (lLen x.2))=false→(LoopOk (fun(x0:Int)=>(bAnd (iLt x0 (lLen x.1)) (bNot (bNot (ZbP (((lGet x.1 (iNat x0) (0,0,0,0,0)).1,(lGet x.1 (iNat x0) (0,0,0,0,0)).2.1,(lGet x.1 (iNat x0) (0,0,0,0,0)).2.2.1,(lGet x.1 (iNat x0) (0,0,0,0,0)).2.2.2.1,(lGet x.1 (iNat x0) (0,0,0,0,0)).2.2.2.2),(lGet x.2 (iNat x0) (0,0,0,0,0)).1,(lGet x.2 (iNat x0) (0,0,0,0,0)).2.1,(lGet x.2 (iNat x0) (0,0,0,0,0)).2.2.1,(lGet x.2 (iNat x0) (0,0,0,0,0)).2.2.2.1,(lGet x.2 (iNat x0) (0,0,0,0,0)).2.2.2.2)))))) (fun(x0:Int)=>(iAdd .i64 x0 1)) (fun(x0:Int)=>(((iLt x0 (lLen x.1))=true→((((0:Int)≤x0)∧(x0<(((List.length x.1):Int))))∧(((iNat x0)<(List.length x.1))∧((((0:Int)≤x0)∧(x0<(((List.length x.2):Int))))∧(((iNat x0)<(List.length x.2))∧(Zdq (((lGet x.1 (iNat x0) (0,0,0,0,0)).1,(lGet x.1 (iNat x0) (0,0,0,0,0)).2.1,(lGet x.1 (iNat x0) (0,0,0,0,0)).2.2.1,(lGet x.1 (iNat x0) (0,0,0,0,0)).2.2.2.1,(lGet x.1 (iNat x0) (0,0,0,0,0)).2.2.2.2),(lGet x.2 (iNat x0) (0,0,0,0,0)).1,(lGet x.2 (iNat x0) (0,0,0,0,0)).2.1,(lGet x.2 (iNat x0) (0,0,0,0,0)).2.2.1,(lGet x.2 (iNat x0) (0,0,0,0,0)).2.2.2.1,(lGet x.2 (iNat x0) (0,0,0,0,0)).2.2.2.2)))))))∧((iLt x0 (lLen x.1))=false→True))) 0))):=by unfold ZdC;exact(congrFun (shut _).2 x).trans (by kernel_rfl)
end
def ZmJ(_:Int×Int×Int×Int):Prop:=True
def Zud(_:Int×Int×Int×Int):Prop:=True
theorem ZAi(a b:Int×Int×Int×Int)(h:ZmJ a):Zc7 (a,b)∧(ZdR (a,b)=true↔a=b):=by
 obtain⟨a0,a1,a2,a3⟩:=a
 obtain⟨b0,b1,b2,b3⟩:=b
 rw[Zos,ZoJ]
 refine⟨by simp,?_⟩
 simp only[ZaC,ZaI,Zjj,Zdz,Bool.and_eq_true,Bool.not_not,decide_eq_true_eq,Prod.mk.injEq,beq_iff_eq]
 try (constructor<;>intro h<;>simp_all)
def Znb(x:Int×Int×Int×Int×Int):Prop:=ZmJ (x.2.1,x.2.2.1,x.2.2.2.1,x.2.2.2.2)∧True
def ZBu(x:Int×Int×Int×Int×Int):Prop:=Zud (x.2.1,x.2.2.1,x.2.2.2.1,x.2.2.2.2)∧True
def Zpa(x:List (Int×Int×Int×Int×Int)):Prop:=x.length≤1048576∧∀ a∈x,Znb a
def ZCo(x:List (Int×Int×Int×Int×Int)):Prop:=x.length≤9223372036854775807∧∀ a∈x,ZBu a
theorem ZCN(x:List (Int×Int×Int×Int×Int))(hw:ZCo x)(l:Int)(h0:0≤l)(h1:l≤1048576):ZdY (x,l)∧(ZaN (x,l)<0∨(0≤ZaN (x,l)∧ZaN (x,l)≤l∧Zpa x)):=by
 rw[Zpt,Zqz]
 have hl:x.length≤9223372036854775807:=hw.1
 have hs:iSub .i64 l (lLen x)=l-x.length:=by rw[Zan];exact ZwM (by unfold Zo0;omega)
 refine⟨trivial,?_⟩
 simp only[hs,ZaA,Zep,decide_eq_true_eq]
 split
 · left;omega
 · right;exact⟨by omega,by omega,⟨by omega,fun a _=>by simp[Znb,ZmJ]⟩⟩
theorem Zy0(x:Int×Int×Int×Int)(h:ZmJ x):Zc9 x∧ZbR x=x:=by
 rw[Zow,Zn8]
 exact⟨trivial,rfl⟩
theorem ZEk(x:Int×Int×Int×Int×Int)(h:Znb x):Zdv x∧ZaZ x=x:=by
 rw[ZrH,Zrv]
 have k0:=Zy0 (x.2.1,x.2.2.1,x.2.2.2.1,x.2.2.2.2) (by unfold Znb at h;exact h.1)
 refine⟨k0.1,?_⟩
 simp only[k0.2]
theorem ZCH(x:List (Int×Int×Int×Int×Int))(h:Zpa x):ZbT x∧Zab x=x:=by
 rw[ZpY,ZqG]
 obtain⟨h1,h2⟩:=h
 have hY:∀ i:Nat,i<x.length→Zdv ((x.getD i (0,0,0,0,0)).1,(x.getD i (0,0,0,0,0)).2.1,(x.getD i (0,0,0,0,0)).2.2.1,(x.getD i (0,0,0,0,0)).2.2.2.1,(x.getD i (0,0,0,0,0)).2.2.2.2)∧ZaZ ((x.getD i (0,0,0,0,0)).1,(x.getD i (0,0,0,0,0)).2.1,(x.getD i (0,0,0,0,0)).2.2.1,(x.getD i (0,0,0,0,0)).2.2.2.1,(x.getD i (0,0,0,0,0)).2.2.2.2)=x.getD i (0,0,0,0,0):=fun i hi=>ZEk _ (h2 _ (ZgX x i (0,0,0,0,0) hi))
 refine⟨⟨⟨by rw[Zan];omega,Zxo (by rw[Zan];omega) (by rw[Zan];omega) (by omega)⟩,Zxi x (0,0,0,0,0) (0,0,0,0,0) h1 (fun _=>rfl) (fun l i hi=>by simp only[ZqS,ZbJ,ZaK,Int.toNat_natCast];rw[(hY i hi).2]) (fun l i hl hi=>?_)⟩,Zzq x (0,0,0,0,0) (0,0,0,0,0) h1 (fun _=>rfl) (fun l i hi=>by simp only[ZqS,ZbJ,ZaK,Int.toNat_natCast];rw[(hY i hi).2])⟩
 simp only[ZaA,Zan,ZaK,ZbJ,decide_eq_true_eq,Int.toNat_natCast]
 exact⟨fun hh=>⟨by omega,by omega,(hY i (by omega)).1,by omega,by omega⟩,fun _=>trivial⟩
theorem ZFx(a b:Int×Int×Int×Int×Int)(h:Znb a):Zdq (a,b)∧(ZbP (a,b)=true↔a=b):=by
 obtain⟨a0,a1,a2,a3,a4⟩:=a
 obtain⟨b0,b1,b2,b3,b4⟩:=b
 have k0:=ZAi (a1,a2,a3,a4) (b1,b2,b3,b4) (by unfold Znb at h;exact h.1)
 rw[Zq5,Zq7]
 refine⟨by simp[k0.1,k0.2],?_⟩
 simp only[k0.1,k0.2,ZaC,ZaI,Zjj,Zdz,Bool.and_eq_true,Bool.not_not,decide_eq_true_eq,Prod.mk.injEq,beq_iff_eq]
 try (constructor<;>intro h<;>simp_all)
theorem ZCh(a b:List (Int×Int×Int×Int×Int))(h:Zpa a):ZdC (a,b)∧(ZcK (a,b)=true↔a=b):=by
 rw[ZpF,ZpI]
 obtain⟨h1,h2⟩:=h
 have hY:∀ i:Nat,i<a.length→Zdq (((lGet a i (0,0,0,0,0)).1,(lGet a i (0,0,0,0,0)).2.1,(lGet a i (0,0,0,0,0)).2.2.1,(lGet a i (0,0,0,0,0)).2.2.2.1,(lGet a i (0,0,0,0,0)).2.2.2.2),((lGet b i (0,0,0,0,0)).1,(lGet b i (0,0,0,0,0)).2.1,(lGet b i (0,0,0,0,0)).2.2.1,(lGet b i (0,0,0,0,0)).2.2.2.1,(lGet b i (0,0,0,0,0)).2.2.2.2))∧(ZbP (((lGet a i (0,0,0,0,0)).1,(lGet a i (0,0,0,0,0)).2.1,(lGet a i (0,0,0,0,0)).2.2.1,(lGet a i (0,0,0,0,0)).2.2.2.1,(lGet a i (0,0,0,0,0)).2.2.2.2),((lGet b i (0,0,0,0,0)).1,(lGet b i (0,0,0,0,0)).2.1,(lGet b i (0,0,0,0,0)).2.2.1,(lGet b i (0,0,0,0,0)).2.2.2.1,(lGet b i (0,0,0,0,0)).2.2.2.2))=true↔a.getD i (0,0,0,0,0)=b.getD i (0,0,0,0,0)):=fun i hi=>by
  have:=ZFx (a.getD i (0,0,0,0,0)) (b.getD i (0,0,0,0,0)) (h2 _ (ZgX a i (0,0,0,0,0) hi))
  rw[ZbJ,ZbJ];exact this
 by_cases hl:a.length=b.length
 · refine⟨⟨fun _=>trivial,fun _=>ZBS a b (0,0,0,0,0) (fun i=>bNot (ZbP (((lGet a i (0,0,0,0,0)).1,(lGet a i (0,0,0,0,0)).2.1,(lGet a i (0,0,0,0,0)).2.2.1,(lGet a i (0,0,0,0,0)).2.2.2.1,(lGet a i (0,0,0,0,0)).2.2.2.2),((lGet b i (0,0,0,0,0)).1,(lGet b i (0,0,0,0,0)).2.1,(lGet b i (0,0,0,0,0)).2.2.1,(lGet b i (0,0,0,0,0)).2.2.2.1,(lGet b i (0,0,0,0,0)).2.2.2.2)))) hl (fun i hi=>by simp only[ZaC,Bool.not_eq_false',(hY i hi).2]) (by omega) (fun i hi=>by simp only[ZaI,ZaA,Zan,ZaK,ZaC,Int.toNat_natCast,Int.ofNat_lt]) (fun i hi=>rfl) (fun i hi=>?_)⟩,?_⟩
   · simp only[ZaA,Zan,ZaK,decide_eq_true_eq,Int.toNat_natCast]
     exact⟨fun hh=>⟨by omega,by omega,by omega,by omega,(hY i (by omega)).1⟩,fun _=>trivial⟩
   · have hv:=ZHa (c:=fun i:Int=>bAnd (iLt i (lLen a)) (bNot ((fun i=>bNot (ZbP (((lGet a i (0,0,0,0,0)).1,(lGet a i (0,0,0,0,0)).2.1,(lGet a i (0,0,0,0,0)).2.2.1,(lGet a i (0,0,0,0,0)).2.2.2.1,(lGet a i (0,0,0,0,0)).2.2.2.2),((lGet b i (0,0,0,0,0)).1,(lGet b i (0,0,0,0,0)).2.1,(lGet b i (0,0,0,0,0)).2.2.1,(lGet b i (0,0,0,0,0)).2.2.2.1,(lGet b i (0,0,0,0,0)).2.2.2.2)))) i.toNat))) (f:=fun i=>iAdd .i64 i 1) a b (0,0,0,0,0) (fun i=>bNot (ZbP (((lGet a i (0,0,0,0,0)).1,(lGet a i (0,0,0,0,0)).2.1,(lGet a i (0,0,0,0,0)).2.2.1,(lGet a i (0,0,0,0,0)).2.2.2.1,(lGet a i (0,0,0,0,0)).2.2.2.2),((lGet b i (0,0,0,0,0)).1,(lGet b i (0,0,0,0,0)).2.1,(lGet b i (0,0,0,0,0)).2.2.1,(lGet b i (0,0,0,0,0)).2.2.2.1,(lGet b i (0,0,0,0,0)).2.2.2.2)))) hl (fun i hi=>by simp only[ZaC,Bool.not_eq_false',(hY i hi).2]) (by omega) (fun i hi=>by simp only[ZaI,ZaA,Zan,ZaC,Int.toNat_natCast,Int.ofNat_lt]) (fun i hi=>rfl)
     have e1:bNot (iNe (lLen a) (lLen b))=true:=by rw[ZaC,Zdz,Zan,Zan,hl];simp
     rw[e1,ZaI true,Bool.true_and,ZaC (iLt _ (lLen a)),ZaA _ (lLen a)]
     simp only[← ZaK,Zan] at hv ⊢
     simp only[Bool.not_eq_true',decide_eq_false_iff_not]
     rw[hv];simp
 · have e1:bNot (iNe (lLen a) (lLen b))=false:=by rw[ZaC,Zdz,Zan,Zan];simp;omega
   refine⟨⟨fun _=>trivial,fun h=>?_⟩,?_⟩
   · rw[ZaC] at e1;rw[h] at e1;cases e1
   · rw[e1,ZaI,Bool.false_and];constructor
     · intro h;cases h
     · intro e;subst e;exact absurd rfl hl
theorem Zyy (x):ZcO x:=by rw[Zng];exact Zgm _
theorem ZpQ(x:List (Int×Int×Int×Int×Int)):Zbn x=ZaH x:=by
 rw[ZrI,ZlW]
 have:∀ {c c':Int×Int→Bool} {f:Int×Int→Int×Int} {a:Int×Int} {n:Int},(∀ x,c x=c' x)→bNot (iLt (ZaV c f a).2 n)=bNot (iLt (ZaV c' f a).2 n):=by
  intro c c' f a n h;rw[funext h]
 apply this
 intro st
 rw[Bool.eq_iff_iff]
 simp only[Znt,Zj1,Zu0,Zvr,ZaC,ZaI,ZhG,Zff,ZaA,Zug,Bool.and_eq_true,Bool.or_eq_true,Bool.not_eq_true',Bool.not_eq_false',Bool.and_eq_false_iff,Bool.or_eq_false_iff,decide_eq_true_eq,decide_eq_false_iff_not,Bool.not_eq_true,Bool.not_eq_false,beq_iff_eq,beq_eq_false_iff_ne]
 generalize ZaF _=A
 cases A<;>simp<;>omega
theorem Zkb(x:List (Int×Int×Int×Int×Int))(h:x.length≤1048576):Zdy x:=by
 rw[Zrp]
 refine Zwr (fun st=>st.2) x.length (by omega) (fun st _ _ hc=>?_) (fun st=>rfl) (fun st h0 h1=>?_) (by simp) (by simp)
 · simp only[ZaI,ZaA,Zan,Bool.and_eq_true,decide_eq_true_eq] at hc
   exact hc.1
 · refine⟨fun hlt=>?_,fun _=>trivial⟩
   simp only[ZaA,Zan,decide_eq_true_eq] at hlt
   have h3:st.2.toNat<x.length:=by omega
   simp only[Zu0,ZaK,h3,h0,hlt,ZEL,Zyy,Zgm,true_and,implies_true,and_true,ZaC,ZhG,Bool.and_eq_true,Bool.or_eq_true,Bool.not_eq_true',Bool.not_eq_false',Bool.and_eq_false_iff,Bool.or_eq_false_iff,decide_eq_true_eq,decide_eq_false_iff_not,Bool.not_eq_true,Bool.not_eq_false,beq_iff_eq,beq_eq_false_iff_ne,Bool.not_eq_false',Bool.or_eq_false_iff]
   exact⟨fun hh=>hh.1,fun hh=>hh.1.1⟩
theorem Zko(x:List (Int×Int×Int×Int×Int))(h:x.length≤1048576):Zdw x:=by
 rw[Zra]
 refine Zwr (fun st=>st.2) x.length (by omega) (fun st _ _ hc=>?_) (fun st=>rfl) (fun st h0 h1=>?_) (by simp) (by simp)
 · simp only[ZaI,ZaA,Zan,Bool.and_eq_true,decide_eq_true_eq] at hc
   exact hc.1
 · refine⟨fun hlt=>?_,fun _=>trivial⟩
   simp only[ZaA,Zan,decide_eq_true_eq] at hlt
   have h3:st.2.toNat<x.length:=by omega
   simp only[Zvo,ZaK,h3,h0,hlt,Zi1,true_and,implies_true,and_true,ZaA,Zug,ZaC,ZhG,Bool.and_eq_true,Bool.or_eq_true,Bool.not_eq_true',Bool.not_eq_false',Bool.and_eq_false_iff,Bool.or_eq_false_iff,decide_eq_true_eq,decide_eq_false_iff_not,Bool.not_eq_true,Bool.not_eq_false,beq_iff_eq,beq_eq_false_iff_ne,Bool.not_eq_false',Bool.or_eq_false_iff]
   refine⟨fun h4 h5=>by omega,fun h4 h5=>by omega⟩
def ZDF(h:Int×Int×Int×Int×Int):Prop:=0≤h.1∧h.1≤31∧ZaF h.2=true∧h.2.1≠1∧h.2.1≠6∧h.2.1≠7
theorem ZxV{x:List (Int×Int×Int×Int×Int)}(hl:x.length≤1048576)(h:ZaH x=true):∀ a∈x,ZDF a:=by
 rw[ZlW,ZaC,Bool.not_eq_true',ZaA _ (lLen x),decide_eq_false_iff_not] at h
 have key:=ZnE (c:=fun x0:Int×Int=>(bAnd (iLt x0.2 (lLen x)) (bAnd (bNot (bOr (iLt (lGet x (iNat x0.2) (0,0,0,0,0)).1 0) (bOr (iGt (lGet x (iNat x0.2) (0,0,0,0,0)).1 31) (bOr (iEq (ZdL (x0.1,(lGet x (iNat x0.2) (0,0,0,0,0)).1)) 1) (bNot (ZaF ((lGet x (iNat x0.2) (0,0,0,0,0)).2.1,(lGet x (iNat x0.2) (0,0,0,0,0)).2.2.1,(lGet x (iNat x0.2) (0,0,0,0,0)).2.2.2.1,(lGet x (iNat x0.2) (0,0,0,0,0)).2.2.2.2))))))) (bNot (bOr (iEq (lGet x (iNat x0.2) (0,0,0,0,0)).2.1 1) (bOr (iEq (lGet x (iNat x0.2) (0,0,0,0,0)).2.1 6) (iEq (lGet x (iNat x0.2) (0,0,0,0,0)).2.1 7)))))))
  (f:=fun x0=>((iOr .i64 x0.1 (iShl .i64 1 (lGet x (iNat x0.2) (0,0,0,0,0)).1)),(iAdd .i64 x0.2 1)))
  (fun st=>∃ i:Nat,st.2=i∧i≤x.length∧∀ j,j<i→ZDF (x.getD j (0,0,0,0,0))) (fun st=>x.length-st.2.toNat) (fun st hI hc=>?_) (x0:=(0,0)) ⟨0,rfl,Nat.zero_le _,fun j hj=>by omega⟩
 · obtain⟨⟨i,k1,k2,k3⟩,_⟩:=key
   rw[k1,Zan] at h
   have:i=x.length:=by omega
   subst this
   intro a ha
   obtain⟨j,hj,rfl⟩:=List.getElem_of_mem ha
   have:=k3 j hj
   rw[List.getD_eq_getElem?_getD,List.getElem?_eq_getElem hj] at this
   exact this
 · obtain⟨i,k1,k2,k3⟩:=hI
   obtain⟨s,j⟩:=st
   simp only at k1
   subst k1
   simp only[ZaI,ZaC,ZhG,ZaA,Zug,Zff,Zan,ZbJ,ZaK,Int.toNat_natCast,Bool.and_eq_true,Bool.not_eq_true',Bool.or_eq_false_iff,decide_eq_true_eq,decide_eq_false_iff_not,Bool.not_eq_false'] at hc
   obtain⟨c1,⟨c2,c3,_,c5⟩,c6,c7,c8⟩:=hc
   refine⟨⟨i+1,?_,by omega,fun j hj=>?_⟩,?_⟩
   · simp only;rw[Zby (by unfold Zo0;omega)];omega
   · by_cases hji:j=i
     · subst hji;exact⟨by omega,by omega,c5,c6,c7,c8⟩
     · exact k3 j (by omega)
   · simp only;rw[Zby (by unfold Zo0;omega)];omega
section
set_option maxRecDepth 8000
def ZqB:DCode:=
 (.seq [1,0] (.region [oi 0 4 0])
 (.seq [1] (.region [om 0 5 1,
 on 1 6 0,
 oa 2 7 (.len (.t 6)),
 oa 3 8 (.bin .sub (.t 5) (.t 7)),
 om 4 1 8])
  (.seq [1] (.seq [10,1] (.region [om 0 9 1,
 oa 1 10 (.bin .lss (.t 9) (.c (.int .i64 0)))])
  (.cond (.t 10) (.seq [4] (.region [oi 0 4 (-1)])
  .ret) .skip))
  (.seq [4] (.region [om 0 11 1,
 om 1 4 11])
  .ret))))
def df_laws_szStepS:DFun:=⟨2,12,0,true,[.tmp 4],ZqB⟩
@[irreducible] def Zeh:Zar:=Za5 df_laws_szStepS.er.er
@[irreducible] def Zfq:ZfF:=ZaQ df_laws_szStepS.er
theorem ZpA:Zbd Zeh Zfq:=by unfold Zeh Zfq;exact Zav (f:=df_laws_szStepS.er) trivial
def Zg0:List HT:=[.one .frz (.sl rI3),.one .frz (.int .i64)]
def Zg3:QT:=.one (.one .own (.int .i64))
@[irreducible] def Zbi(x:(List (Int×Int×Int))×Int):Int:=(shut fun x=>fnV df_laws_szStepS Zg0 Zg3 x).1 x
@[irreducible] def ZdQ(x:(List (Int×Int×Int))×Int):Prop:=(shut fun x=>ZhR df_laws_szStepS Zg0 Zg3 x).1 x
def Zl0:ZhA:=ZbC Zg0 Zg3 ZdQ Zbi
theorem Zqv:Zbp Zfq Zl0:=by unfold Zfq;exact Zaz (f:=df_laws_szStepS) (hs:=Zg0) (q:=Zg3) trivial (by kernel_rfl) (fun x=>by kernel_rfl) (fun x h=>by unfold ZdQ at h;exact Eq.mp (congrFun (shut _).2 x) h) (fun x=>by unfold Zbi;exact(congrFun (shut _).2 x).symm)
def Zrf:DCode:=
 (.seq [2,1] (.region [oa 0 1 (.boxB 0 3 (.t 0)),
 oa 1 2 (.allocB 1 [(.int .i64 0),(.int .i64 0),(.int .i64 0)])])
  (.seq [3,2,1] (.region [oa 0 3 (.allocB 2 [(.int .i64 0),(.int .i64 0),(.int .i64 0)])])
  (.seq [3,2,1] (.region [oa 0 4 (.fieldA 0 (.t 1)),
 ob 1 5 (.loadB 0 none (.t 4)),
 oa 2 6 (.fieldA 0 (.t 3)),
 os 3 (.storeB 2 1 (.t 6) (.t 5))])
  (.seq [3,2,1] (.region [oa 0 7 (.fieldA 1 (.t 1)),
 ob 1 8 (.loadB 0 none (.t 7)),
 oa 2 9 (.fieldA 1 (.t 3)),
 os 3 (.storeB 2 1 (.t 9) (.t 8))])
  (.seq [3,2] (.region [oa 0 10 (.fieldA 2 (.t 1)),
 ob 1 11 (.loadB 0 none (.t 10)),
 oa 2 12 (.fieldA 2 (.t 3)),
 os 3 (.storeB 2 1 (.t 12) (.t 11))])
  (.seq [2] (.region [ob 0 13 (.loadB 2 (some 3) (.t 3)),
 os 1 (.storeB 1 3 (.t 2) (.t 13))])
  .ret))))))
def df_laws_toStep:DFun:=⟨1,14,3,true,[.cell 2 (some 3)],Zrf⟩
@[irreducible] def Ze3:Zar:=Za5 df_laws_toStep.er.er
@[irreducible] def Zgp:ZfF:=ZaQ df_laws_toStep.er
theorem ZrG:Zbd Ze3 Zgp:=by unfold Ze3 Zgp;exact Zav (f:=df_laws_toStep.er) trivial
def Zh1:List HT:=[.agg [(.frz,.int .i64),(.frz,.int .i64),(.frz,.int .i64)]]
def Zig:QT:=.one (.agg [(.own,.int .i64),(.own,.int .i64),(.own,.int .i64)])
@[irreducible] def ZbG(x:Int×Int×Int):Int×Int×Int:=(shut fun x=>fnV df_laws_toStep Zh1 Zig x).1 x
@[irreducible] def Zdr(x:Int×Int×Int):Prop:=(shut fun x=>ZhR df_laws_toStep Zh1 Zig x).1 x
def ZmU:ZhA:=ZbC Zh1 Zig Zdr ZbG
theorem ZrS:Zbp Zgp ZmU:=by unfold Zgp;exact Zaz (f:=df_laws_toStep) (hs:=Zh1) (q:=Zig) trivial (by kernel_rfl) (fun x=>by kernel_rfl) (fun x h=>by unfold Zdr at h;exact Eq.mp (congrFun (shut _).2 x) h) (fun x=>by unfold ZbG;exact(congrFun (shut _).2 x).symm)
def Zp1:DCode:=
 (.seq [0] (.region [oa 0 2 (.mv (.c .nils))])
 (.seq [3,0] (.region [on 0 5 0,
 oa 1 6 (.len (.t 5)),
 ⟨2,some 7,.a false (.mkSlice 3 [(.int .i64 0),(.int .i64 0),(.int .i64 0)] (.t 6)) (some rI3),none,[]⟩,
 om 3 3 7])
  (.seq [3] (.seq [4,3,0] (.region [oi 0 4 0])
  (.block 0 (.loop [0,3,4] 1 (.seq [4,3,0] (.seq [11,4,3,0] (.region [om 0 8 4,
 on 1 9 0,
 oa 2 10 (.len (.t 9)),
 oa 3 11 (.bin .lss (.t 8) (.t 10))])
  (.cond (.t 11) .skip (.exit 0)))
  (.seq [4,3,0] (.block 1 (.region [on 0 14 3,
 om 1 15 4,
 on 2 16 0,
 om 3 17 4,
 oa 4 18 (.indexA 3 (.t 16) (.t 17)),
 oa 5 19 (.loadH (some 3) (.t 18)),
 oc 6 20 Ze3 Zgp ZmU [(.t 19)],
 oa 7 21 (.indexA 3 (.t 14) (.t 15)),
 os 8 (.storeH 3 (.t 21) (.t 20))]))
  (.region [om 0 12 4,
 oa 1 13 (.bin .add (.t 12) (.c (.int .i64 1))),
 om 2 4 13]))))))
  (.seq [2] (.region [om 0 22 3,
 om 1 2 22])
  .ret))))
def df_laws_toStepS:DFun:=⟨1,23,0,false,[.tmp 2],Zp1⟩
@[irreducible] def Zbk:Zar:=Za5 df_laws_toStepS.er.er
@[irreducible] def ZcL:ZfF:=ZaQ df_laws_toStepS.er
theorem ZfP:Zbd Zbk ZcL:=by unfold Zbk ZcL;exact Zav (f:=df_laws_toStepS.er) ⟨ZrG,trivial⟩
def ZgZ:List HT:=[.one .frz (.sl rI3)]
def ZgT:QT:=.one (.one .own (.sl rI3))
@[irreducible] def Zac(x:List (Int×Int×Int)):List (Int×Int×Int):=(shut fun x=>fnV df_laws_toStepS ZgZ ZgT x).1 x
@[irreducible] def ZbS(x:List (Int×Int×Int)):Prop:=(shut fun x=>ZhR df_laws_toStepS ZgZ ZgT x).1 x
def Zfh:ZhA:=ZbC ZgZ ZgT ZbS Zac
theorem Zgf:Zbp ZcL Zfh:=by unfold ZcL;exact Zaz (f:=df_laws_toStepS) (hs:=ZgZ) (q:=ZgT) ⟨ZrS,trivial⟩ (by kernel_rfl) (fun x=>by kernel_rfl) (fun x h=>by unfold ZbS at h;exact Eq.mp (congrFun (shut _).2 x) h) (fun x=>by unfold Zac;exact(congrFun (shut _).2 x).symm)
def Zrw:DCode:=
 (.seq [3,2] (.region [oa 0 2 (.boxB 0 3 (.t 0)),
 oa 1 3 (.boxB 1 3 (.t 1)),
 oa 2 4 (.mv (.c (.bool false)))])
  (.seq [3,2] (.seq [9,3,2] (.region [oa 0 5 (.fieldA 0 (.t 2)),
 oa 1 6 (.loadB 0 none (.t 5)),
 oa 2 7 (.fieldA 0 (.t 3)),
 oa 3 8 (.loadB 1 none (.t 7)),
 oa 4 9 (.bin .neq (.t 6) (.t 8))])
  (.cond (.t 9) (.seq [4] (.region [oa 0 4 (.mv (.c (.bool false)))])
  .ret) .skip))
  (.seq [3,2] (.seq [14,3,2] (.region [oa 0 10 (.fieldA 1 (.t 2)),
 oa 1 11 (.loadB 0 none (.t 10)),
 oa 2 12 (.fieldA 1 (.t 3)),
 oa 3 13 (.loadB 1 none (.t 12)),
 oa 4 14 (.bin .neq (.t 11) (.t 13))])
  (.cond (.t 14) (.seq [4] (.region [oa 0 4 (.mv (.c (.bool false)))])
  .ret) .skip))
  (.seq [] (.seq [19] (.region [oa 0 15 (.fieldA 2 (.t 2)),
 oa 1 16 (.loadB 0 none (.t 15)),
 oa 2 17 (.fieldA 2 (.t 3)),
 oa 3 18 (.loadB 1 none (.t 17)),
 oa 4 19 (.bin .neq (.t 16) (.t 18))])
  (.cond (.t 19) (.seq [4] (.region [oa 0 4 (.mv (.c (.bool false)))])
  .ret) .skip))
  (.seq [4] (.region [oa 0 4 (.mv (.c (.bool true)))])
  .ret)))))
def df_laws_eqStep:DFun:=⟨2,20,2,true,[.tmp 4],Zrw⟩
@[irreducible] def Zfa:Zar:=Za5 df_laws_eqStep.er.er
@[irreducible] def ZfQ:ZfF:=ZaQ df_laws_eqStep.er
theorem Zrk:Zbd Zfa ZfQ:=by unfold Zfa ZfQ;exact Zav (f:=df_laws_eqStep.er) trivial
def Zh7:List HT:=[.agg [(.frz,.int .i64),(.frz,.int .i64),(.frz,.int .i64)],.agg [(.frz,.int .i64),(.frz,.int .i64),(.frz,.int .i64)]]
def ZhS:QT:=.one (.one .own (.bool))
@[irreducible] def ZbQ(x:(Int×Int×Int)×(Int×Int×Int)):Bool:=(shut fun x=>fnV df_laws_eqStep Zh7 ZhS x).1 x
@[irreducible] def Zdu(x:(Int×Int×Int)×(Int×Int×Int)):Prop:=(shut fun x=>ZhR df_laws_eqStep Zh7 ZhS x).1 x
def Zmu:ZhA:=ZbC Zh7 ZhS Zdu ZbQ
theorem ZrP:Zbp ZfQ Zmu:=by unfold ZfQ;exact Zaz (f:=df_laws_eqStep) (hs:=Zh7) (q:=ZhS) trivial (by kernel_rfl) (fun x=>by kernel_rfl) (fun x h=>by unfold Zdu at h;exact Eq.mp (congrFun (shut _).2 x) h) (fun x=>by unfold ZbQ;exact(congrFun (shut _).2 x).symm)
def Zp9:DCode:=
 (.seq [1,0] (.region [oa 0 4 (.mv (.c (.bool false)))])
 (.seq [1,0] (.seq [10,1,0] (.region [on 0 6 0,
 oa 1 7 (.len (.t 6)),
 on 2 8 1,
 oa 3 9 (.len (.t 8)),
 oa 4 10 (.bin .neq (.t 7) (.t 9))])
  (.cond (.t 10) (.seq [4] (.region [oa 0 4 (.mv (.c (.bool false)))])
  .ret) .skip))
  (.seq [] (.seq [5,1,0] (.region [oi 0 5 0])
  (.block 0 (.loop [0,1,5] 1 (.seq [5,1,0] (.seq [14,5,1,0] (.region [om 0 11 5,
 on 1 12 0,
 oa 2 13 (.len (.t 12)),
 oa 3 14 (.bin .lss (.t 11) (.t 13))])
  (.cond (.t 14) .skip (.exit 0)))
  (.seq [5,1,0] (.block 1 (.seq [26,5,1,0] (.region [on 0 17 0,
 om 1 18 5,
 xA 2 19 (.indexA 3 (.t 17) (.t 18)) (rg 2),
 xA 3 20 (.loadH (some 3) (.t 19)) (rg 3),
 on 4 21 1,
 om 5 22 5,
 xA 6 23 (.indexA 3 (.t 21) (.t 22)) [4,5],
 xA 7 24 (.loadH (some 3) (.t 23)) [4,5,6],
 xC 8 25 Zfa ZfQ Zmu [(.t 20),(.t 24)] (rg 8),
 xA 9 26 (.un .not (.t 25)) (rg 9)])
  (.cond (.t 26) (.seq [4] (.region [oa 0 4 (.mv (.c (.bool false)))])
  .ret) .skip)))
  (.region [om 0 15 5,
 oa 1 16 (.bin .add (.t 15) (.c (.int .i64 1))),
 om 2 5 16]))))))
  (.seq [4] (.region [oa 0 4 (.mv (.c (.bool true)))])
  .ret))))
def df_laws_eqStepS:DFun:=⟨2,27,0,true,[.tmp 4],Zp9⟩
@[irreducible] def Zeo:Zar:=Za5 df_laws_eqStepS.er.er
@[irreducible] def Zfm:ZfF:=ZaQ df_laws_eqStepS.er
theorem Zqb:Zbd Zeo Zfm:=by unfold Zeo Zfm;exact Zav (f:=df_laws_eqStepS.er) ⟨Zrk,trivial⟩
def ZgQ:List HT:=[.one .frz (.sl rI3),.one .frz (.sl rI3)]
def Zhc:QT:=.one (.one .own (.bool))
@[irreducible] def ZcM(x:(List (Int×Int×Int))×(List (Int×Int×Int))):Bool:=(shut fun x=>fnV df_laws_eqStepS ZgQ Zhc x).1 x
@[irreducible] def ZdN(x:(List (Int×Int×Int))×(List (Int×Int×Int))):Prop:=(shut fun x=>ZhR df_laws_eqStepS ZgQ Zhc x).1 x
def ZlT:ZhA:=ZbC ZgQ Zhc ZdN ZcM
theorem ZpB:Zbp Zfm ZlT:=by unfold Zfm;exact Zaz (f:=df_laws_eqStepS) (hs:=ZgQ) (q:=Zhc) ⟨ZrP,trivial⟩ (by kernel_rfl) (fun x=>by kernel_rfl) (fun x h=>by unfold ZdN at h;exact Eq.mp (congrFun (shut _).2 x) h) (fun x=>by unfold ZcM;exact(congrFun (shut _).2 x).symm)
end
section
set_option maxRecDepth 100000
theorem Zph (x):Zbi x=(bSel (iLt (iSub .i64 x.2 (lLen x.1)) 0) (-1) (iSub .i64 x.2 (lLen x.1))):=by unfold Zbi;exact(congrFun (shut _).2 x).trans (by kernel_rfl)
theorem ZpC (x):ZdQ x=True:=by unfold ZdQ;exact(congrFun (shut _).2 x).trans (by kernel_rfl)
theorem ZrB (x):ZbG x=(x.1,x.2.1,x.2.2):=by unfold ZbG;exact(congrFun (shut _).2 x).trans (by kernel_rfl)
theorem ZrD (x):Zdr x=True:=by unfold Zdr;exact(congrFun (shut _).2 x).trans (by kernel_rfl)
theorem ZpR (x):Zac x=(ZaV (fun(x0:((List (Int×(Int×Int)))×Int))=>(iLt x0.2 (lLen x))) (fun(x0:((List (Int×(Int×Int)))×Int))=>((lSet x0.1 (iNat x0.2) ((ZbG ((lGet x (iNat x0.2) (0,0,0)).1,(lGet x (iNat x0.2) (0,0,0)).2.1,(lGet x (iNat x0.2) (0,0,0)).2.2)).1,(ZbG ((lGet x (iNat x0.2) (0,0,0)).1,(lGet x (iNat x0.2) (0,0,0)).2.1,(lGet x (iNat x0.2) (0,0,0)).2.2)).2.1,(ZbG ((lGet x (iNat x0.2) (0,0,0)).1,(lGet x (iNat x0.2) (0,0,0)).2.1,(lGet x (iNat x0.2) (0,0,0)).2.2)).2.2)),(iAdd .i64 x0.2 1))) ((lRep (lLen x) (0,0,0)),0)).1:=by unfold Zac;exact(congrFun (shut _).2 x).trans (by kernel_rfl)
theorem ZqL (x):ZbS x=((((0:Int)≤(lLen x))∧(Zbu ((Int.toNat (lLen x))*3)))∧(LoopOk (fun(x0:((List (Int×(Int×Int)))×Int))=>(iLt x0.2 (lLen x))) (fun(x0:((List (Int×(Int×Int)))×Int))=>((lSet x0.1 (iNat x0.2) ((ZbG ((lGet x (iNat x0.2) (0,0,0)).1,(lGet x (iNat x0.2) (0,0,0)).2.1,(lGet x (iNat x0.2) (0,0,0)).2.2)).1,(ZbG ((lGet x (iNat x0.2) (0,0,0)).1,(lGet x (iNat x0.2) (0,0,0)).2.1,(lGet x (iNat x0.2) (0,0,0)).2.2)).2.1,(ZbG ((lGet x (iNat x0.2) (0,0,0)).1,(lGet x (iNat x0.2) (0,0,0)).2.1,(lGet x (iNat x0.2) (0,0,0)).2.2)).2.2)),(iAdd .i64 x0.2 1))) (fun(x0:((List (Int×(Int×Int)))×Int))=>(((iLt x0.2 (lLen x))=true→((((0:Int)≤x0.2)∧(x0.2<(((List.length x):Int))))∧(((iNat x0.2)<(List.length x))∧((Zdr ((lGet x (iNat x0.2) (0,0,0)).1,(lGet x (iNat x0.2) (0,0,0)).2.1,(lGet x (iNat x0.2) (0,0,0)).2.2))∧((((0:Int)≤x0.2)∧(x0.2<(((List.length x0.1):Int))))∧((iNat x0.2)<(List.length x0.1)))))))∧((iLt x0.2 (lLen x))=false→True))) ((lRep (lLen x) (0,0,0)),0))):=by unfold ZbS;exact(congrFun (shut _).2 x).trans (by kernel_rfl)
theorem ZrU (x):ZbQ x=(bAnd (bNot (iNe x.1.1 x.2.1)) (bAnd (bNot (iNe x.1.2.1 x.2.2.1)) (bNot (iNe x.1.2.2 x.2.2.2)))):=by unfold ZbQ;exact(congrFun (shut _).2 x).trans (by kernel_rfl)
theorem Zrd (x):Zdu x=True:=by unfold Zdu;exact(congrFun (shut _).2 x).trans (by kernel_rfl)
theorem ZpG (x):ZcM x=(bAnd (bNot (iNe (lLen x.1) (lLen x.2))) (bNot (iLt (ZaV (fun(x0:Int)=>(bAnd (iLt x0 (lLen x.1)) (bNot (bNot (ZbQ (((lGet x.1 (iNat x0) (0,0,0)).1,(lGet x.1 (iNat x0) (0,0,0)).2.1,(lGet x.1 (iNat x0) (0,0,0)).2.2),(lGet x.2 (iNat x0) (0,0,0)).1,(lGet x.2 (iNat x0) (0,0,0)).2.1,(lGet x.2 (iNat x0) (0,0,0)).2.2)))))) (fun(x0:Int)=>(iAdd .i64 x0 1)) 0) (lLen x.1)))):=by unfold ZcM;exact(congrFun (shut _).2 x).trans (by kernel_rfl)
theorem Zqh (x):ZdN x=(((iNe (lLen x.1) (lLen x.2))=true→True)∧((iNe (lLen x.1) (lLen x.2))=false→(LoopOk (fun(x0:Int)=>(bAnd (iLt x0 (lLen x.1)) (bNot (bNot (ZbQ (((lGet x.1 (iNat x0) (0,0,0)).1,(lGet x.1 (iNat x0) (0,0,0)).2.1,(lGet x.1 (iNat x0) (0,0,0)).2.2),(lGet x.2 (iNat x0) (0,0,0)).1,(lGet x.2 (iNat x0) (0,0,0)).2.1,(lGet x.2 (iNat x0) (0,0,0)).2.2)))))) (fun(x0:Int)=>(iAdd .i64 x0 1)) (fun(x0:Int)=>(((iLt x0 (lLen x.1))=true→((((0:Int)≤x0)∧(x0<(((List.length x.1):Int))))∧(((iNat x0)<(List.length x.1))∧((((0:Int)≤x0)∧(x0<(((List.length x.2):Int))))∧(((iNat x0)<(List.length x.2))∧(Zdu (((lGet x.1 (iNat x0) (0,0,0)).1,(lGet x.1 (iNat x0) (0,0,0)).2.1,(lGet x.1 (iNat x0) (0,0,0)).2.2),(lGet x.2 (iNat x0) (0,0,0)).1,(lGet x.2 (iNat x0) (0,0,0)).2.1,(lGet x.2 (iNat x0) (0,0,0)).2.2)))))))∧((iLt x0 (lLen x.1))=false→True))) 0))):=by unfold ZdN;exact(congrFun (shut _).2 x).trans (by kernel_rfl)
end
def Zs0(_:Int×Int×Int):Prop:=True
def Zzt(_:Int×Int×Int):Prop:=True
def ZoT(x:List (Int×Int×Int)):Prop:=x.length≤1048576∧∀ a∈x,Zs0 a
def ZCK(x:List (Int×Int×Int)):Prop:=x.length≤9223372036854775807∧∀ a∈x,Zzt a
theorem ZDb(x:List (Int×Int×Int))(hw:ZCK x)(l:Int)(h0:0≤l)(h1:l≤1048576):ZdQ (x,l)∧(Zbi (x,l)<0∨(0≤Zbi (x,l)∧Zbi (x,l)≤l∧ZoT x)):=by
 rw[ZpC,Zph]
 have hl:x.length≤9223372036854775807:=hw.1
 have hs:iSub .i64 l (lLen x)=l-x.length:=by rw[Zan];exact ZwM (by unfold Zo0;omega)
 refine⟨trivial,?_⟩
 simp only[hs,ZaA,Zep,decide_eq_true_eq]
 split
 · left;omega
 · right;exact⟨by omega,by omega,⟨by omega,fun a _=>by simp[Zs0]⟩⟩
theorem ZE1(x:Int×Int×Int)(h:Zs0 x):Zdr x∧ZbG x=x:=by
 rw[ZrD,ZrB]
 exact⟨trivial,rfl⟩
theorem ZB0(x:List (Int×Int×Int))(h:ZoT x):ZbS x∧Zac x=x:=by
 rw[ZqL,ZpR]
 obtain⟨h1,h2⟩:=h
 have hY:∀ i:Nat,i<x.length→Zdr ((x.getD i (0,0,0)).1,(x.getD i (0,0,0)).2.1,(x.getD i (0,0,0)).2.2)∧ZbG ((x.getD i (0,0,0)).1,(x.getD i (0,0,0)).2.1,(x.getD i (0,0,0)).2.2)=x.getD i (0,0,0):=fun i hi=>ZE1 _ (h2 _ (ZgX x i (0,0,0) hi))
 refine⟨⟨⟨by rw[Zan];omega,Zxo (by rw[Zan];omega) (by rw[Zan];omega) (by omega)⟩,Zxi x (0,0,0) (0,0,0) h1 (fun _=>rfl) (fun l i hi=>by simp only[ZqS,ZbJ,ZaK,Int.toNat_natCast];rw[(hY i hi).2]) (fun l i hl hi=>?_)⟩,Zzq x (0,0,0) (0,0,0) h1 (fun _=>rfl) (fun l i hi=>by simp only[ZqS,ZbJ,ZaK,Int.toNat_natCast];rw[(hY i hi).2])⟩
 simp only[ZaA,Zan,ZaK,ZbJ,decide_eq_true_eq,Int.toNat_natCast]
 exact⟨fun hh=>⟨by omega,by omega,(hY i (by omega)).1,by omega,by omega⟩,fun _=>trivial⟩
theorem ZEY(a b:Int×Int×Int)(h:Zs0 a):Zdu (a,b)∧(ZbQ (a,b)=true↔a=b):=by
 obtain⟨a0,a1,a2⟩:=a
 obtain⟨b0,b1,b2⟩:=b
 rw[Zrd,ZrU]
 refine⟨by simp,?_⟩
 simp only[ZaC,ZaI,Zjj,Zdz,Bool.and_eq_true,Bool.not_not,decide_eq_true_eq,Prod.mk.injEq,beq_iff_eq]
 try (constructor<;>intro h<;>simp_all)
theorem ZC2(a b:List (Int×Int×Int))(h:ZoT a):ZdN (a,b)∧(ZcM (a,b)=true↔a=b):=by
 rw[Zqh,ZpG]
 obtain⟨h1,h2⟩:=h
 have hY:∀ i:Nat,i<a.length→Zdu (((lGet a i (0,0,0)).1,(lGet a i (0,0,0)).2.1,(lGet a i (0,0,0)).2.2),((lGet b i (0,0,0)).1,(lGet b i (0,0,0)).2.1,(lGet b i (0,0,0)).2.2))∧(ZbQ (((lGet a i (0,0,0)).1,(lGet a i (0,0,0)).2.1,(lGet a i (0,0,0)).2.2),((lGet b i (0,0,0)).1,(lGet b i (0,0,0)).2.1,(lGet b i (0,0,0)).2.2))=true↔a.getD i (0,0,0)=b.getD i (0,0,0)):=fun i hi=>by
  have:=ZEY (a.getD i (0,0,0)) (b.getD i (0,0,0)) (h2 _ (ZgX a i (0,0,0) hi))
  rw[ZbJ,ZbJ];exact this
 by_cases hl:a.length=b.length
 · refine⟨⟨fun _=>trivial,fun _=>ZBS a b (0,0,0) (fun i=>bNot (ZbQ (((lGet a i (0,0,0)).1,(lGet a i (0,0,0)).2.1,(lGet a i (0,0,0)).2.2),((lGet b i (0,0,0)).1,(lGet b i (0,0,0)).2.1,(lGet b i (0,0,0)).2.2)))) hl (fun i hi=>by simp only[ZaC,Bool.not_eq_false',(hY i hi).2]) (by omega) (fun i hi=>by simp only[ZaI,ZaA,Zan,ZaK,ZaC,Int.toNat_natCast,Int.ofNat_lt]) (fun i hi=>rfl) (fun i hi=>?_)⟩,?_⟩
   · simp only[ZaA,Zan,ZaK,decide_eq_true_eq,Int.toNat_natCast]
     exact⟨fun hh=>⟨by omega,by omega,by omega,by omega,(hY i (by omega)).1⟩,fun _=>trivial⟩
   · have hv:=ZHa (c:=fun i:Int=>bAnd (iLt i (lLen a)) (bNot ((fun i=>bNot (ZbQ (((lGet a i (0,0,0)).1,(lGet a i (0,0,0)).2.1,(lGet a i (0,0,0)).2.2),((lGet b i (0,0,0)).1,(lGet b i (0,0,0)).2.1,(lGet b i (0,0,0)).2.2)))) i.toNat))) (f:=fun i=>iAdd .i64 i 1) a b (0,0,0) (fun i=>bNot (ZbQ (((lGet a i (0,0,0)).1,(lGet a i (0,0,0)).2.1,(lGet a i (0,0,0)).2.2),((lGet b i (0,0,0)).1,(lGet b i (0,0,0)).2.1,(lGet b i (0,0,0)).2.2)))) hl (fun i hi=>by simp only[ZaC,Bool.not_eq_false',(hY i hi).2]) (by omega) (fun i hi=>by simp only[ZaI,ZaA,Zan,ZaC,Int.toNat_natCast,Int.ofNat_lt]) (fun i hi=>rfl)
     have e1:bNot (iNe (lLen a) (lLen b))=true:=by rw[ZaC,Zdz,Zan,Zan,hl];simp
     rw[e1,ZaI true,Bool.true_and,ZaC (iLt _ (lLen a)),ZaA _ (lLen a)]
     simp only[← ZaK,Zan] at hv ⊢
     simp only[Bool.not_eq_true',decide_eq_false_iff_not]
     rw[hv];simp
 · have e1:bNot (iNe (lLen a) (lLen b))=false:=by rw[ZaC,Zdz,Zan,Zan];simp;omega
   refine⟨⟨fun _=>trivial,fun h=>?_⟩,?_⟩
   · rw[ZaC] at e1;rw[h] at e1;cases e1
   · rw[e1,ZaI,Bool.false_and];constructor
     · intro h;cases h
     · intro e;subst e;exact absurd rfl hl
section
set_option maxRecDepth 8000
def ZrF:DCode:=
 (.seq [3,0] (.region [oa 0 3 (.boxB 0 3 (.t 1)),
 oi 1 4 0])
  (.seq [] (.seq [5,3,0] (.region [oi 0 5 0])
  (.block 0 (.loop [0,3,5] 1 (.seq [5,3,0] (.seq [9,5,3,0] (.region [om 0 6 5,
 on 1 7 0,
 oa 2 8 (.len (.t 7)),
 oa 3 9 (.bin .lss (.t 6) (.t 8))])
  (.cond (.t 9) .skip (.exit 0)))
  (.seq [5,3,0] (.block 1 (.seq [31,5,3,0] (.region [on 0 12 0,
 om 1 13 5,
 xA 2 14 (.indexA 5 (.t 12) (.t 13)) (rg 2),
 xA 3 15 (.fieldA 1 (.t 14)) (rg 3),
 xA 4 16 (.fieldA 1 (.t 15)) (rg 4),
 xA 5 17 (.loadH none (.t 16)) (rg 5),
 oa 6 18 (.fieldA 1 (.t 3)),
 xA 7 19 (.loadB 0 none (.t 18)) [6],
 xA 8 20 (.bin .eql (.t 17) (.t 19)) (rg 8),
 xA 9 21 (.mv (.t 20)) (rg 9),
 ⟨10,some 22,.a true (.mv (.t 0)) none,(some (21,true)),[0,1,2,3,4,5,6,7,8,9]⟩,
 ⟨11,some 23,.a false (.mv (.t 5)) none,(some (21,true)),[0,1,2,3,4,5,6,7,8,9]⟩,
 ⟨12,some 24,.a false (.indexA 5 (.t 22) (.t 23)) none,(some (21,true)),[0,1,2,3,4,5,6,7,8,9,10,11]⟩,
 ⟨13,some 25,.a false (.fieldA 1 (.t 24)) none,(some (21,true)),[0,1,2,3,4,5,6,7,8,9,10,11,12]⟩,
 ⟨14,some 26,.a false (.fieldA 2 (.t 25)) none,(some (21,true)),[0,1,2,3,4,5,6,7,8,9,10,11,12,13]⟩,
 ⟨15,some 27,.a false (.loadH none (.t 26)) none,(some (21,true)),[0,1,2,3,4,5,6,7,8,9,10,11,12,13,14]⟩,
 ⟨16,some 28,.a false (.fieldA 2 (.t 3)) none,(some (21,true)),[0,1,2,3,4,5,6,7,8,9]⟩,
 ⟨17,some 29,.a false (.loadB 0 none (.t 28)) none,(some (21,true)),[0,1,2,3,4,5,6,7,8,9,16]⟩,
 ⟨18,some 30,.a false (.bin .eql (.t 27) (.t 29)) none,(some (21,true)),[0,1,2,3,4,5,6,7,8,9,10,11,12,13,14,15,16,17]⟩,
 xA 19 31 (.pick (.t 21) (.t 30) (.c (.bool false))) (rg 19)])
  (.cond (.t 31) (.seq [4] (.region [om 0 32 5,
 om 1 4 32])
  .ret) .skip)))
  (.region [om 0 10 5,
 oa 1 11 (.bin .add (.t 10) (.c (.int .i64 1))),
 om 2 5 11]))))))
  (.seq [4] (.region [oi 0 4 (-1)])
  .ret)))
def df_spec_l8Find:DFun:=⟨2,33,1,true,[.tmp 4],ZrF⟩
@[irreducible] def Zdc:Zar:=Za5 df_spec_l8Find.er.er
@[irreducible] def ZeZ:ZfF:=ZaQ df_spec_l8Find.er
theorem ZlU:Zbd Zdc ZeZ:=by unfold Zdc ZeZ;exact Zav (f:=df_spec_l8Find.er) trivial
def ZhU:List HT:=[.one .frz (.sl rI5),.agg [(.frz,.int .i64),(.frz,.int .i64),(.frz,.int .i64)]]
def ZhM:QT:=.one (.one .own (.int .i64))
@[irreducible] def Zau(x:(List (Int×Int×Int×Int×Int))×(Int×Int×Int)):Int:=(shut fun x=>fnV df_spec_l8Find ZhU ZhM x).1 x
@[irreducible] def Zcf(x:(List (Int×Int×Int×Int×Int))×(Int×Int×Int)):Prop:=(shut fun x=>ZhR df_spec_l8Find ZhU ZhM x).1 x
def ZjV:ZhA:=ZbC ZhU ZhM Zcf Zau
theorem ZlM:Zbp ZeZ ZjV:=by unfold ZeZ;exact Zaz (f:=df_spec_l8Find) (hs:=ZhU) (q:=ZhM) trivial (by kernel_rfl) (fun x=>by kernel_rfl) (fun x h=>by unfold Zcf at h;exact Eq.mp (congrFun (shut _).2 x) h) (fun x=>by unfold Zau;exact(congrFun (shut _).2 x).symm)
def Zou:DCode:=
 (.seq [2,1] (.region [oa 0 1 (.boxB 0 3 (.t 0)),
 oa 1 2 (.allocB 1 [(.int .i64 0),(.int .i64 0),(.int .i64 0),(.int .i64 0)])])
  (.seq [2] (.region [oa 0 3 (.fieldA 1 (.t 1)),
 ob 1 4 (.loadB 0 none (.t 3)),
 oa 2 5 (.fieldA 2 (.t 1)),
 ob 3 6 (.loadB 0 none (.t 5)),
 oa 4 7 (.build [(.int .i64 0),(.int .i64 0),(.int .i64 0),(.int .i64 0)] [(0,1,(.c (.int .i64 2))),(1,1,(.t 4)),(2,1,(.t 6))]),
 os 5 (.storeB 1 4 (.t 2) (.t 7))])
  .ret))
def df_spec_l8Action:DFun:=⟨1,8,2,true,[.cell 2 (some 4)],Zou⟩
@[irreducible] def ZbF:Zar:=Za5 df_spec_l8Action.er.er
@[irreducible] def ZcV:ZfF:=ZaQ df_spec_l8Action.er
theorem Zhn:Zbd ZbF ZcV:=by unfold ZbF ZcV;exact Zav (f:=df_spec_l8Action.er) trivial
def Zf6:List HT:=[.agg [(.frz,.int .i64),(.frz,.int .i64),(.frz,.int .i64)]]
def Zgg:QT:=.one (.agg [(.own,.int .i64),(.own,.int .i64),(.own,.int .i64),(.own,.int .i64)])
@[irreducible] def Zaa(x:Int×Int×Int):Int×Int×Int×Int:=(shut fun x=>fnV df_spec_l8Action Zf6 Zgg x).1 x
@[irreducible] def Zcx(x:Int×Int×Int):Prop:=(shut fun x=>ZhR df_spec_l8Action Zf6 Zgg x).1 x
def ZfX:ZhA:=ZbC Zf6 Zgg Zcx Zaa
theorem ZhD:Zbp ZcV ZfX:=by unfold ZcV;exact Zaz (f:=df_spec_l8Action) (hs:=Zf6) (q:=Zgg) trivial (by kernel_rfl) (fun x=>by kernel_rfl) (fun x h=>by unfold Zcx at h;exact Eq.mp (congrFun (shut _).2 x) h) (fun x=>by unfold Zaa;exact(congrFun (shut _).2 x).symm)
def ZnD:DCode:=
 (.seq [1,0] (.region [oa 0 4 (.mv (.c .nils))])
 (.seq [4] (.region [on 1 6 0,
 om 2 7 1,
 xA 3 8 (.slice 5 (.t 6) none (some (.t 7))) [1,2],
 on 5 10 0,
 om 6 11 1,
 xA 7 12 (.bin .add (.t 11) (.c (.int .i64 1))) [6],
 xA 8 13 (.slice 5 (.t 10) (some (.t 12)) none) [5,6,7],
 ⟨0,some 5,.a false (.litSlice 5 0 [] []) (some rI5),none,[]⟩,
 xA 4 9 (.app 5 (.t 5) (.t 8)) (rg 4),
 xA 9 14 (.app 5 (.t 9) (.t 13)) (rg 9),
 xA 10 4 (.mv (.t 14)) (rg 10)])
  .ret))
def df_spec_l8Without:DFun:=⟨2,15,0,false,[.tmp 4],ZnD⟩
@[irreducible] def Zb1:Zar:=Za5 df_spec_l8Without.er.er
@[irreducible] def Zc6:ZfF:=ZaQ df_spec_l8Without.er
theorem Zjv:Zbd Zb1 Zc6:=by unfold Zb1 Zc6;exact Zav (f:=df_spec_l8Without.er) trivial
def Zfv:List HT:=[.one .frz (.sl rI5),.one .frz (.int .i64)]
def Zfw:QT:=.one (.one .own (.sl rI5))
@[irreducible] def Zay(x:(List (Int×Int×Int×Int×Int))×Int):List (Int×Int×Int×Int×Int):=(shut fun x=>fnV df_spec_l8Without Zfv Zfw x).1 x
@[irreducible] def ZbK(x:(List (Int×Int×Int×Int×Int))×Int):Prop:=(shut fun x=>ZhR df_spec_l8Without Zfv Zfw x).1 x
def Zhw:ZhA:=ZbC Zfv Zfw ZbK Zay
theorem ZjF:Zbp Zc6 Zhw:=by unfold Zc6;exact Zaz (f:=df_spec_l8Without) (hs:=Zfv) (q:=Zfw) trivial (by kernel_rfl) (fun x=>by kernel_rfl) (fun x h=>by unfold ZbK at h;exact Eq.mp (congrFun (shut _).2 x) h) (fun x=>by unfold Zay;exact(congrFun (shut _).2 x).symm)
def Zqi:DCode:=
 (.seq [0] (.region [oa 0 2 (.mv (.c (.bool false)))])
 (.seq [3,0] (.region [⟨0,some 7,.a false (.litSlice 5 0 [] []) (some rI5),none,[]⟩,
 om 1 3 7])
  (.seq [3,0] (.seq [4,3,0] (.region [oi 0 4 0])
  (.block 0 (.loop [0,3,4] 1 (.seq [4,3,0] (.seq [11,4,3,0] (.region [om 0 8 4,
 on 1 9 0,
 oa 2 10 (.len (.t 9)),
 oa 3 11 (.bin .lss (.t 8) (.t 10))])
  (.cond (.t 11) .skip (.exit 0)))
  (.seq [4,3,0] (.block 1 (.seq [5,4,3,0] (.region [on 0 14 0,
 om 1 15 4,
 oa 2 16 (.indexA 3 (.t 14) (.t 15)),
 ob 3 17 (.loadH (some 3) (.t 16)),
 oa 4 5 (.allocB 0 [(.int .i64 0),(.int .i64 0),(.int .i64 0)]),
 os 5 (.storeB 0 3 (.t 5) (.t 17))])
  (.seq [6,5,4,3,0] (.region [on 0 18 3,
 oa 1 19 (.loadB 0 (some 3) (.t 5)),
 oc 2 20 Zdc ZeZ ZjV [(.t 18),(.t 19)],
 om 3 6 20])
  (.seq [6,5,4,3,0] (.seq [38,6,5,4,3,0] (.region [oa 0 21 (.fieldA 0 (.t 5)),
 oa 1 22 (.loadB 0 none (.t 21)),
 oc 2 23 Zbt Zdt ZfK [(.t 22),(.c (.int .i64 0)),(.c (.int .i64 2))],
 oa 3 24 (.un .not (.t 23)),
 om 4 25 24,
 og 5 26 (.loadB 0 (some 3) (.t 5)) 25 false,
 ⟨6,some 27,.call false ZbF ZcV ZfX [(.t 26)],(some (25,false)),[]⟩,
 ⟨7,some 28,.call false ZbE ZcQ ZfR [(.t 27)],(some (25,false)),[]⟩,
 og 8 29 (.un .not (.t 28)) 25 false,
 oa 9 30 (.pick (.t 25) (.c (.bool true)) (.t 29)),
 om 10 31 30,
 og 11 32 (.fieldA 0 (.t 5)) 31 false,
 og 12 33 (.loadB 0 none (.t 32)) 31 false,
 og 13 34 (.bin .eql (.t 33) (.c (.int .i64 2))) 31 false,
 og 14 35 (.mv (.t 6)) 31 false,
 og 15 36 (.bin .geq (.t 35) (.c (.int .i64 0))) 31 false,
 og 16 37 (.eqB true (.t 34) (.t 36)) 31 false,
 oa 17 38 (.pick (.t 31) (.c (.bool true)) (.t 37))])
  (.cond (.t 38) (.seq [2] (.region [oa 0 2 (.mv (.c (.bool false)))])
  .ret) .skip))
  (.seq [40,6,5,4,3,0] (.region [oa 0 39 (.fieldA 0 (.t 5)),
 oa 1 40 (.loadB 0 none (.t 39))])
  (.block 2 (.seq [41,40,6,5,4,3,0] (.region [oa 0 42 (.bin .eql (.t 40) (.c (.int .i64 1))),
 om 1 41 42])
  (.cond (.t 41) (.region [om 0 43 3,
 oa 1 44 (.loadB 0 (some 3) (.t 5)),
 oc 2 45 ZbF ZcV ZfX [(.t 44)],
 oa 3 46 (.build [(.int .i64 0),(.int .i64 0),(.int .i64 0),(.int .i64 0),(.int .i64 0)] [(1,4,(.t 45))]),
 ⟨4,some 47,.a false (.litSlice 5 1 [(.int .i64 0),(.int .i64 0),(.int .i64 0),(.int .i64 0),(.int .i64 0)] [(0,5,(.t 46))]) (some rI5),none,[]⟩,
 oa 5 48 (.app 5 (.t 43) (.t 47)),
 om 6 3 48]) (.seq [49,6,4,3,0] (.region [oa 0 50 (.bin .eql (.t 40) (.c (.int .i64 2))),
 om 1 49 50])
  (.cond (.t 49) (.region [on 0 51 3,
 om 1 52 6,
 oc 2 53 Zb1 Zc6 Zhw [(.t 51),(.t 52)],
 om 3 3 53]) .skip))))))))))
  (.region [om 0 12 4,
 oa 1 13 (.bin .add (.t 12) (.c (.int .i64 1))),
 om 2 4 13]))))))
  (.seq [2] (.region [on 0 54 0,
 oa 1 55 (.len (.t 54)),
 oa 2 56 (.bin .leq (.t 55) (.c (.int .i64 8))),
 om 3 57 56,
 ⟨4,some 58,.a true (.mv (.t 3)) none,(some (57,true)),[]⟩,
 og 5 59 (.len (.t 58)) 57 true,
 og 6 60 (.bin .eql (.t 59) (.c (.int .i64 0))) 57 true,
 oa 7 61 (.pick (.t 57) (.t 60) (.c (.bool false))),
 om 8 2 61])
  .ret))))
def df_spec_IsMacro:DFun:=⟨1,62,1,true,[.tmp 2],Zqi⟩
@[irreducible] def Zeg:Zar:=Za5 df_spec_IsMacro.er.er
@[irreducible] def Zfl:ZfF:=ZaQ df_spec_IsMacro.er
theorem Zpm:Zbd Zeg Zfl:=by unfold Zeg Zfl;exact Zav (f:=df_spec_IsMacro.er) ⟨ZlU,ZfN,Zhn,Zhy,Zhn,Zjv,trivial⟩
def Zha:List HT:=[.one .frz (.sl rI3)]
def ZgS:QT:=.one (.one .own (.bool))
@[irreducible] def Za6(x:List (Int×Int×Int)):Bool:=(shut fun x=>fnV df_spec_IsMacro Zha ZgS x).1 x
@[irreducible] def ZdS(x:List (Int×Int×Int)):Prop:=(shut fun x=>ZhR df_spec_IsMacro Zha ZgS x).1 x
def ZlR:ZhA:=ZbC Zha ZgS ZdS Za6
theorem Zqs:Zbp Zfl ZlR:=by unfold Zfl;exact Zaz (f:=df_spec_IsMacro) (hs:=Zha) (q:=ZgS) ⟨ZlM,ZfL,ZhD,Zhs,ZhD,ZjF,trivial⟩ (by kernel_rfl) (fun x=>by kernel_rfl) (fun x h=>by unfold ZdS at h;exact Eq.mp (congrFun (shut _).2 x) h) (fun x=>by unfold Za6;exact(congrFun (shut _).2 x).symm)
def ZrJ:DCode:=
 (.seq [3,0] (.region [oa 0 3 (.boxB 0 2 (.t 1)),
 oi 1 4 0])
  (.seq [] (.seq [9,8,7,3] (.region [on 0 7 0,
 oa 1 8 (.len (.t 7)),
 oi 2 9 0])
  (.block 0 (.loop [3,7,8,9] 1 (.seq [10,9,8,7,3] (.region [oa 0 10 (.bin .lss (.t 9) (.t 8))])
  (.seq [9,8,7,3] (.cond (.t 10) .skip (.exit 0))
  (.seq [9,8,7,3] (.block 1 (.seq [9,8,7,6,5,3] (.region [om 0 11 9,
 oa 1 12 (.indexA 2 (.t 7) (.t 9)),
 ob 2 13 (.loadH (some 2) (.t 12)),
 oa 3 6 (.allocB 1 [(.int .i64 0),(.int .i64 0)]),
 om 4 5 11,
 os 5 (.storeB 1 2 (.t 6) (.t 13))])
  (.seq [16,9,8,7,5,3] (.region [oa 0 14 (.loadB 1 (some 2) (.t 6)),
 oa 1 15 (.loadB 0 (some 2) (.t 3)),
 oa 2 16 (.eqA 2 false (.t 14) (.t 15))])
  (.cond (.t 16) (.seq [4] (.region [om 0 17 5,
 om 1 4 17])
  .ret) .skip))))
  (.region [oa 0 18 (.bin .add (.t 9) (.c (.int .i64 1))),
 om 1 9 18])))))))
  (.seq [4] (.region [oi 0 4 (-1)])
  .ret)))
def df_impl_pairAt:DFun:=⟨2,19,2,true,[.tmp 4],ZrJ⟩
@[irreducible] def Zdf:Zar:=Za5 df_impl_pairAt.er.er
@[irreducible] def ZeV:ZfF:=ZaQ df_impl_pairAt.er
theorem ZlY:Zbd Zdf ZeV:=by unfold Zdf ZeV;exact Zav (f:=df_impl_pairAt.er) trivial
def ZhP:List HT:=[.one .frz (.sl (.cons (.int .i64) (.one (.int .i64)))),.agg [(.frz,.int .i64),(.frz,.int .i64)]]
def Zic:QT:=.one (.one .own (.int .i64))
@[irreducible] def Zae(x:(List (Int×Int))×(Int×Int)):Int:=(shut fun x=>fnV df_impl_pairAt ZhP Zic x).1 x
@[irreducible] def ZcJ(x:(List (Int×Int))×(Int×Int)):Prop:=(shut fun x=>ZhR df_impl_pairAt ZhP Zic x).1 x
def ZjO:ZhA:=ZbC ZhP Zic ZcJ Zae
theorem ZlZ:Zbp ZeV ZjO:=by unfold ZeV;exact Zaz (f:=df_impl_pairAt) (hs:=ZhP) (q:=Zic) trivial (by kernel_rfl) (fun x=>by kernel_rfl) (fun x h=>by unfold ZcJ at h;exact Eq.mp (congrFun (shut _).2 x) h) (fun x=>by unfold Zae;exact(congrFun (shut _).2 x).symm)
def ZpT:DCode:=
 (.seq [0] (.region [oa 0 2 (.mv (.c (.bool false)))])
 (.seq [0] (.seq [10,0] (.region [on 0 8 0,
 oa 1 9 (.len (.t 8)),
 oa 2 10 (.bin .gtr (.t 9) (.c (.int .i64 8)))])
  (.cond (.t 10) (.seq [2] (.region [oa 0 2 (.mv (.c (.bool false)))])
  .ret) .skip))
  (.seq [3,0] (.region [⟨0,some 3,.aw [(0,2)] false (.mv (.c .nils)) none,none,[]⟩])
  (.seq [3] (.seq [13,12,11,3] (.region [on 0 11 0,
 oa 1 12 (.len (.t 11)),
 oi 2 13 0])
  (.block 0 (.loop [3,11,12,13] 1 (.seq [14,13,12,11,3] (.region [oa 0 14 (.bin .lss (.t 13) (.t 12))])
  (.seq [13,12,11,3] (.cond (.t 14) .skip (.exit 0))
  (.seq [13,12,11,3] (.block 1 (.seq [13,12,11,5,3] (.region [oa 0 15 (.indexA 3 (.t 11) (.t 13)),
 ob 1 16 (.loadH (some 3) (.t 15)),
 oa 2 5 (.allocB 0 [(.int .i64 0),(.int .i64 0),(.int .i64 0)]),
 os 3 (.storeB 0 3 (.t 5) (.t 16))])
  (.seq [13,12,11,6,5,3] (.region [oa 0 17 (.fieldA 1 (.t 5)),
 ob 1 18 (.loadB 0 none (.t 17)),
 oa 2 19 (.fieldA 2 (.t 5)),
 ob 3 20 (.loadB 0 none (.t 19)),
 oa 4 21 (.build [(.int .i64 0),(.int .i64 0)] [(0,1,(.t 18)),(1,1,(.t 20))]),
 oa 5 6 (.allocB 1 [(.int .i64 0),(.int .i64 0)]),
 os 6 (.storeB 1 2 (.t 6) (.t 21))])
  (.seq [13,12,11,7,6,5,3] (.region [on 0 22 3,
 oa 1 23 (.loadB 1 (some 2) (.t 6)),
 oc 2 24 Zdf ZeV ZjO [(.t 22),(.t 23)],
 om 3 7 24])
  (.seq [13,12,11,7,6,5,3] (.seq [31,13,12,11,7,6,5,3] (.region [oa 0 25 (.fieldA 1 (.t 5)),
 ob 1 26 (.loadB 0 none (.t 25)),
 oa 2 27 (.fieldA 2 (.t 5)),
 ob 3 28 (.loadB 0 none (.t 27)),
 oa 4 29 (.build [(.int .i64 0),(.int .i64 0),(.int .i64 0),(.int .i64 0)] [(0,1,(.c (.int .i64 2))),(1,1,(.t 26)),(2,1,(.t 28))]),
 oc 5 30 Zcj ZdW ZiA [(.t 29)],
 oa 6 31 (.un .not (.t 30))])
  (.cond (.t 31) (.seq [2] (.region [oa 0 2 (.mv (.c (.bool false)))])
  .ret) .skip))
  (.seq [33,13,12,11,7,6,5,3] (.region [oa 0 32 (.fieldA 0 (.t 5)),
 oa 1 33 (.loadB 0 none (.t 32))])
  (.block 2 (.seq [34,33,13,12,11,7,6,5,3] (.seq [34,33,13,12,11,7,6,5,3] (.region [oa 0 35 (.bin .eql (.t 33) (.c (.int .i64 0))),
 om 1 34 35])
  (.cond (.t 34) .skip (.region [oa 0 36 (.bin .eql (.t 33) (.c (.int .i64 1))),
 om 1 34 36])))
  (.cond (.t 34) (.seq [13,12,11,6,5,3] (.seq [38,13,12,11,6,5,3] (.region [om 0 37 7,
 oa 1 38 (.bin .geq (.t 37) (.c (.int .i64 0)))])
  (.cond (.t 38) (.seq [2] (.region [oa 0 2 (.mv (.c (.bool false)))])
  .ret) .skip))
  (.seq [41,13,12,11,6,3] (.region [oa 0 39 (.fieldA 0 (.t 5)),
 oa 1 40 (.loadB 0 none (.t 39)),
 oa 2 41 (.bin .eql (.t 40) (.c (.int .i64 1)))])
  (.cond (.t 41) (.region [om 0 42 3,
 ob 1 43 (.loadB 1 (some 2) (.t 6)),
 ⟨2,some 44,.a false (.litSlice 2 1 [(.int .i64 0),(.int .i64 0)] [(0,2,(.t 43))]) (some (.cons (.int .i64) (.one (.int .i64)))),none,[]⟩,
 ⟨3,some 45,.aw [(0,2)] false (.app 2 (.t 42) (.t 44)) none,none,[]⟩,
 ⟨4,some 3,.aw [(0,2)] false (.mv (.t 45)) none,none,[]⟩]) .skip))) (.seq [46,13,12,11,7,3] (.region [oa 0 47 (.bin .eql (.t 33) (.c (.int .i64 2))),
 om 1 46 47])
  (.cond (.t 46) (.seq [13,12,11,7,3] (.seq [49,13,12,11,7,3] (.region [om 0 48 7,
 oa 1 49 (.bin .lss (.t 48) (.c (.int .i64 0)))])
  (.cond (.t 49) (.seq [2] (.region [oa 0 2 (.mv (.c (.bool false)))])
  .ret) .skip))
  (.region [on 0 50 3,
 om 1 51 7,
 xA 2 52 (.slice 2 (.t 50) none (some (.t 51))) (rg 2),
 on 3 53 3,
 om 4 54 7,
 xA 5 55 (.bin .add (.t 54) (.c (.int .i64 1))) [4],
 xA 6 56 (.slice 2 (.t 53) (some (.t 55)) none) [3,4,5],
 ⟨7,some 57,.aw [(0,2)] false (.app 2 (.t 52) (.t 56)) none,none,[0,1,2,3,4,5,6]⟩,
 ⟨8,some 3,.aw [(0,2)] false (.mv (.t 57)) none,none,[0,1,2,3,4,5,6,7]⟩])) (.seq [2] (.region [oa 0 2 (.mv (.c (.bool false)))])
  .ret))))))))))))
  (.region [oa 0 58 (.bin .add (.t 13) (.c (.int .i64 1))),
 om 1 13 58])))))))
  (.seq [2] (.region [on 0 59 3,
 oa 1 60 (.len (.t 59)),
 oa 2 61 (.bin .eql (.t 60) (.c (.int .i64 0))),
 om 3 2 61])
  .ret)))))
def df_impl_IsMacro:DFun:=⟨1,62,2,true,[.tmp 2],ZpT⟩
@[irreducible] def Zei:Zar:=Za5 df_impl_IsMacro.er.er
@[irreducible] def Zfk:ZfF:=ZaQ df_impl_IsMacro.er
theorem ZqC:Zbd Zei Zfk:=by unfold Zei Zfk;exact Zav (f:=df_impl_IsMacro.er) ⟨ZlY,Zke,trivial⟩
def Zhd:List HT:=[.one .frz (.sl rI3)]
def Zhb:QT:=.one (.one .own (.bool))
@[irreducible] def ZcH(x:List (Int×Int×Int)):Bool:=(shut fun x=>fnV df_impl_IsMacro Zhd Zhb x).1 x
@[irreducible] def ZdF(x:List (Int×Int×Int)):Prop:=(shut fun x=>ZhR df_impl_IsMacro Zhd Zhb x).1 x
def ZlV:ZhA:=ZbC Zhd Zhb ZdF ZcH
theorem Zqe:Zbp Zfk ZlV:=by unfold Zfk;exact Zaz (f:=df_impl_IsMacro) (hs:=Zhd) (q:=Zhb) ⟨ZlZ,Zkj,trivial⟩ (by kernel_rfl) (fun x=>by kernel_rfl) (fun x h=>by unfold ZdF at h;exact Eq.mp (congrFun (shut _).2 x) h) (fun x=>by unfold ZcH;exact(congrFun (shut _).2 x).symm)
end
section
set_option maxRecDepth 100000
theorem Zq2 (x):Zau x=(bSel (iLt (ZaV (fun(x0:Int)=>(bAnd (iLt x0 (lLen x.1)) (bNot (bAnd (iEq (lGet x.1 (iNat x0) (0,0,0,0,0)).2.2.1 x.2.2.1) (iEq (lGet x.1 (iNat x0) (0,0,0,0,0)).2.2.2.1 x.2.2.2))))) (fun(x0:Int)=>(iAdd .i64 x0 1)) 0) (lLen x.1)) (ZaV (fun(x0:Int)=>(bAnd (iLt x0 (lLen x.1)) (bNot (bAnd (iEq (lGet x.1 (iNat x0) (0,0,0,0,0)).2.2.1 x.2.2.1) (iEq (lGet x.1 (iNat x0) (0,0,0,0,0)).2.2.2.1 x.2.2.2))))) (fun(x0:Int)=>(iAdd .i64 x0 1)) 0) (-1)):=by unfold Zau;exact(congrFun (shut _).2 x).trans (by kernel_rfl)
theorem ZrN (x):Zcf x=(LoopOk (fun(x0:Int)=>(bAnd (iLt x0 (lLen x.1)) (bNot (bAnd (iEq (lGet x.1 (iNat x0) (0,0,0,0,0)).2.2.1 x.2.2.1) (iEq (lGet x.1 (iNat x0) (0,0,0,0,0)).2.2.2.1 x.2.2.2))))) (fun(x0:Int)=>(iAdd .i64 x0 1)) (fun(x0:Int)=>(((iLt x0 (lLen x.1))=true→((((0:Int)≤x0)∧(x0<(((List.length x.1):Int))))∧(((iNat x0)<(List.length x.1))∧(((iEq (lGet x.1 (iNat x0) (0,0,0,0,0)).2.2.1 x.2.2.1)=true→((((0:Int)≤x0)∧(x0<(((List.length x.1):Int))))∧((iNat x0)<(List.length x.1))))∧((iEq (lGet x.1 (iNat x0) (0,0,0,0,0)).2.2.1 x.2.2.1)=false→True)))))∧((iLt x0 (lLen x.1))=false→True))) 0):=by unfold Zcf;exact(congrFun (shut _).2 x).trans (by kernel_rfl)
theorem Zec (x):Zaa x=(2,x.2.1,x.2.2,0):=by unfold Zaa;exact(congrFun (shut _).2 x).trans (by kernel_rfl)
theorem Zkl (x):Zcx x=True:=by unfold Zcx;exact(congrFun (shut _).2 x).trans (by kernel_rfl)
theorem Ze9 (x):Zay x=(lApp (lApp [] (lSub x.1 0 (iNat x.2))) (lSub x.1 (iNat (iAdd .i64 x.2 1)) (lN x.1))):=by unfold Zay;exact(congrFun (shut _).2 x).trans (by kernel_rfl)
theorem Zne (x):ZbK x=((((0:Int)≤x.2)∧((0≤(iNat x.2))∧(((iNat x.2)≤(List.length x.1))∧(0<(List.length x.1)))))∧((((0:Int)≤(iAdd .i64 x.2 1))∧(((iNat (iAdd .i64 x.2 1))≤(lN x.1))∧(((lN x.1)≤(List.length x.1))∧(0<(List.length x.1)))))∧((Zbu (((List.length ([]:List (Int×(Int×(Int×(Int×Int))))))+(List.length (lSub x.1 0 (iNat x.2))))*5))∧(Zbu (((List.length (lApp [] (lSub x.1 0 (iNat x.2))))+(List.length (lSub x.1 (iNat (iAdd .i64 x.2 1)) (lN x.1))))*5))))):=by unfold ZbK;exact(congrFun (shut _).2 x).trans (by kernel_rfl)
theorem ZkZ (x):Za6 x=(bAnd (bNot (iLt (ZaV (fun(x0:((List (Int×(Int×(Int×(Int×Int)))))×Int))=>(bAnd (iLt x0.2 (lLen x)) (bNot (bOr (bNot (ZaB ((lGet x (iNat x0.2) (0,0,0)).1,0,2))) (bOr (bNot (ZaJ ((Zaa ((lGet x (iNat x0.2) (0,0,0)).1,(lGet x (iNat x0.2) (0,0,0)).2.1,(lGet x (iNat x0.2) (0,0,0)).2.2)).1,(Zaa ((lGet x (iNat x0.2) (0,0,0)).1,(lGet x (iNat x0.2) (0,0,0)).2.1,(lGet x (iNat x0.2) (0,0,0)).2.2)).2.1,(Zaa ((lGet x (iNat x0.2) (0,0,0)).1,(lGet x (iNat x0.2) (0,0,0)).2.1,(lGet x (iNat x0.2) (0,0,0)).2.2)).2.2.1,(Zaa ((lGet x (iNat x0.2) (0,0,0)).1,(lGet x (iNat x0.2) (0,0,0)).2.1,(lGet x (iNat x0.2) (0,0,0)).2.2)).2.2.2))) (bNot (bIff (iEq (lGet x (iNat x0.2) (0,0,0)).1 2) (iGe (Zau (x0.1,(lGet x (iNat x0.2) (0,0,0)).1,(lGet x (iNat x0.2) (0,0,0)).2.1,(lGet x (iNat x0.2) (0,0,0)).2.2)) 0)))))))) (fun(x0:((List (Int×(Int×(Int×(Int×Int)))))×Int))=>((bSel (iEq (lGet x (iNat x0.2) (0,0,0)).1 1) (lApp x0.1 [(0,(Zaa ((lGet x (iNat x0.2) (0,0,0)).1,(lGet x (iNat x0.2) (0,0,0)).2.1,(lGet x (iNat x0.2) (0,0,0)).2.2)).1,(Zaa ((lGet x (iNat x0.2) (0,0,0)).1,(lGet x (iNat x0.2) (0,0,0)).2.1,(lGet x (iNat x0.2) (0,0,0)).2.2)).2.1,(Zaa ((lGet x (iNat x0.2) (0,0,0)).1,(lGet x (iNat x0.2) (0,0,0)).2.1,(lGet x (iNat x0.2) (0,0,0)).2.2)).2.2.1,(Zaa ((lGet x (iNat x0.2) (0,0,0)).1,(lGet x (iNat x0.2) (0,0,0)).2.1,(lGet x (iNat x0.2) (0,0,0)).2.2)).2.2.2)]) (bSel (iEq (lGet x (iNat x0.2) (0,0,0)).1 2) (Zay (x0.1,(Zau (x0.1,(lGet x (iNat x0.2) (0,0,0)).1,(lGet x (iNat x0.2) (0,0,0)).2.1,(lGet x (iNat x0.2) (0,0,0)).2.2)))) x0.1)),(iAdd .i64 x0.2 1))) ([],0)).2 (lLen x))) (bAnd (iLe (lLen x) 8) (iEq (lLen (ZaV (fun(x0:((List (Int×(Int×(Int×(Int×Int)))))×Int))=>(bAnd (iLt x0.2 (lLen x)) (bNot (bOr (bNot (ZaB ((lGet x (iNat x0.2) (0,0,0)).1,0,2))) (bOr (bNot (ZaJ ((Zaa ((lGet x (iNat x0.2) (0,0,0)).1,(lGet x (iNat x0.2) (0,0,0)).2.1,(lGet x (iNat x0.2) (0,0,0)).2.2)).1,(Zaa ((lGet x (iNat x0.2) (0,0,0)).1,(lGet x (iNat x0.2) (0,0,0)).2.1,(lGet x (iNat x0.2) (0,0,0)).2.2)).2.1,(Zaa ((lGet x (iNat x0.2) (0,0,0)).1,(lGet x (iNat x0.2) (0,0,0)).2.1,(lGet x (iNat x0.2) (0,0,0)).2.2)).2.2.1,(Zaa ((lGet x (iNat x0.2) (0,0,0)).1,(lGet x (iNat x0.2) (0,0,0)).2.1,(lGet x (iNat x0.2) (0,0,0)).2.2)).2.2.2))) (bNot (bIff (iEq (lGet x (iNat x0.2) (0,0,0)).1 2) (iGe (Zau (x0.1,(lGet x (iNat x0.2) (0,0,0)).1,(lGet x (iNat x0.2) (0,0,0)).2.1,(lGet x (iNat x0.2) (0,0,0)).2.2)) 0)))))))) (fun(x0:((List (Int×(Int×(Int×(Int×Int)))))×Int))=>((bSel (iEq (lGet x (iNat x0.2) (0,0,0)).1 1) (lApp x0.1 [(0,(Zaa ((lGet x (iNat x0.2) (0,0,0)).1,(lGet x (iNat x0.2) (0,0,0)).2.1,(lGet x (iNat x0.2) (0,0,0)).2.2)).1,(Zaa ((lGet x (iNat x0.2) (0,0,0)).1,(lGet x (iNat x0.2) (0,0,0)).2.1,(lGet x (iNat x0.2) (0,0,0)).2.2)).2.1,(Zaa ((lGet x (iNat x0.2) (0,0,0)).1,(lGet x (iNat x0.2) (0,0,0)).2.1,(lGet x (iNat x0.2) (0,0,0)).2.2)).2.2.1,(Zaa ((lGet x (iNat x0.2) (0,0,0)).1,(lGet x (iNat x0.2) (0,0,0)).2.1,(lGet x (iNat x0.2) (0,0,0)).2.2)).2.2.2)]) (bSel (iEq (lGet x (iNat x0.2) (0,0,0)).1 2) (Zay (x0.1,(Zau (x0.1,(lGet x (iNat x0.2) (0,0,0)).1,(lGet x (iNat x0.2) (0,0,0)).2.1,(lGet x (iNat x0.2) (0,0,0)).2.2)))) x0.1)),(iAdd .i64 x0.2 1))) ([],0)).1) 0))):=by unfold Za6;exact(congrFun (shut _).2 x).trans (by kernel_rfl)
theorem Zqk (x):ZdS x=(LoopOk (fun(x0:((List (Int×(Int×(Int×(Int×Int)))))×Int))=>(bAnd (iLt x0.2 (lLen x)) (bNot (bOr (bNot (ZaB ((lGet x (iNat x0.2) (0,0,0)).1,0,2))) (bOr (bNot (ZaJ ((Zaa ((lGet x (iNat x0.2) (0,0,0)).1,(lGet x (iNat x0.2) (0,0,0)).2.1,(lGet x (iNat x0.2) (0,0,0)).2.2)).1,(Zaa ((lGet x (iNat x0.2) (0,0,0)).1,(lGet x (iNat x0.2) (0,0,0)).2.1,(lGet x (iNat x0.2) (0,0,0)).2.2)).2.1,(Zaa ((lGet x (iNat x0.2) (0,0,0)).1,(lGet x (iNat x0.2) (0,0,0)).2.1,(lGet x (iNat x0.2) (0,0,0)).2.2)).2.2.1,(Zaa ((lGet x (iNat x0.2) (0,0,0)).1,(lGet x (iNat x0.2) (0,0,0)).2.1,(lGet x (iNat x0.2) (0,0,0)).2.2)).2.2.2))) (bNot (bIff (iEq (lGet x (iNat x0.2) (0,0,0)).1 2) (iGe (Zau (x0.1,(lGet x (iNat x0.2) (0,0,0)).1,(lGet x (iNat x0.2) (0,0,0)).2.1,(lGet x (iNat x0.2) (0,0,0)).2.2)) 0)))))))) (fun(x0:((List (Int×(Int×(Int×(Int×Int)))))×Int))=>((bSel (iEq (lGet x (iNat x0.2) (0,0,0)).1 1) (lApp x0.1 [(0,(Zaa ((lGet x (iNat x0.2) (0,0,0)).1,(lGet x (iNat x0.2) (0,0,0)).2.1,(lGet x (iNat x0.2) (0,0,0)).2.2)).1,(Zaa ((lGet x (iNat x0.2) (0,0,0)).1,(lGet x (iNat x0.2) (0,0,0)).2.1,(lGet x (iNat x0.2) (0,0,0)).2.2)).2.1,(Zaa ((lGet x (iNat x0.2) (0,0,0)).1,(lGet x (iNat x0.2) (0,0,0)).2.1,(lGet x (iNat x0.2) (0,0,0)).2.2)).2.2.1,(Zaa ((lGet x (iNat x0.2) (0,0,0)).1,(lGet x (iNat x0.2) (0,0,0)).2.1,(lGet x (iNat x0.2) (0,0,0)).2.2)).2.2.2)]) (bSel (iEq (lGet x (iNat x0.2) (0,0,0)).1 2) (Zay (x0.1,(Zau (x0.1,(lGet x (iNat x0.2) (0,0,0)).1,(lGet x (iNat x0.2) (0,0,0)).2.1,(lGet x (iNat x0.2) (0,0,0)).2.2)))) x0.1)),(iAdd .i64 x0.2 1))) (fun(x0:((List (Int×(Int×(Int×(Int×Int)))))×Int))=>(((iLt x0.2 (lLen x))=true→((((0:Int)≤x0.2)∧(x0.2<(((List.length x):Int))))∧(((iNat x0.2)<(List.length x))∧((Zcf (x0.1,(lGet x (iNat x0.2) (0,0,0)).1,(lGet x (iNat x0.2) (0,0,0)).2.1,(lGet x (iNat x0.2) (0,0,0)).2.2))∧(((Zb3 ((lGet x (iNat x0.2) (0,0,0)).1,0,2))∧(((bNot (ZaB ((lGet x (iNat x0.2) (0,0,0)).1,0,2)))=true→True)∧((bNot (ZaB ((lGet x (iNat x0.2) (0,0,0)).1,0,2)))=false→((Zcx ((lGet x (iNat x0.2) (0,0,0)).1,(lGet x (iNat x0.2) (0,0,0)).2.1,(lGet x (iNat x0.2) (0,0,0)).2.2))∧(Zb0 ((Zaa ((lGet x (iNat x0.2) (0,0,0)).1,(lGet x (iNat x0.2) (0,0,0)).2.1,(lGet x (iNat x0.2) (0,0,0)).2.2)).1,(Zaa ((lGet x (iNat x0.2) (0,0,0)).1,(lGet x (iNat x0.2) (0,0,0)).2.1,(lGet x (iNat x0.2) (0,0,0)).2.2)).2.1,(Zaa ((lGet x (iNat x0.2) (0,0,0)).1,(lGet x (iNat x0.2) (0,0,0)).2.1,(lGet x (iNat x0.2) (0,0,0)).2.2)).2.2.1,(Zaa ((lGet x (iNat x0.2) (0,0,0)).1,(lGet x (iNat x0.2) (0,0,0)).2.1,(lGet x (iNat x0.2) (0,0,0)).2.2)).2.2.2))))))∧(((bOr (bNot (ZaB ((lGet x (iNat x0.2) (0,0,0)).1,0,2))) (bOr (bNot (ZaJ ((Zaa ((lGet x (iNat x0.2) (0,0,0)).1,(lGet x (iNat x0.2) (0,0,0)).2.1,(lGet x (iNat x0.2) (0,0,0)).2.2)).1,(Zaa ((lGet x (iNat x0.2) (0,0,0)).1,(lGet x (iNat x0.2) (0,0,0)).2.1,(lGet x (iNat x0.2) (0,0,0)).2.2)).2.1,(Zaa ((lGet x (iNat x0.2) (0,0,0)).1,(lGet x (iNat x0.2) (0,0,0)).2.1,(lGet x (iNat x0.2) (0,0,0)).2.2)).2.2.1,(Zaa ((lGet x (iNat x0.2) (0,0,0)).1,(lGet x (iNat x0.2) (0,0,0)).2.1,(lGet x (iNat x0.2) (0,0,0)).2.2)).2.2.2))) (bNot (bIff (iEq (lGet x (iNat x0.2) (0,0,0)).1 2) (iGe (Zau (x0.1,(lGet x (iNat x0.2) (0,0,0)).1,(lGet x (iNat x0.2) (0,0,0)).2.1,(lGet x (iNat x0.2) (0,0,0)).2.2)) 0)))))=true→True)∧((bOr (bNot (ZaB ((lGet x (iNat x0.2) (0,0,0)).1,0,2))) (bOr (bNot (ZaJ ((Zaa ((lGet x (iNat x0.2) (0,0,0)).1,(lGet x (iNat x0.2) (0,0,0)).2.1,(lGet x (iNat x0.2) (0,0,0)).2.2)).1,(Zaa ((lGet x (iNat x0.2) (0,0,0)).1,(lGet x (iNat x0.2) (0,0,0)).2.1,(lGet x (iNat x0.2) (0,0,0)).2.2)).2.1,(Zaa ((lGet x (iNat x0.2) (0,0,0)).1,(lGet x (iNat x0.2) (0,0,0)).2.1,(lGet x (iNat x0.2) (0,0,0)).2.2)).2.2.1,(Zaa ((lGet x (iNat x0.2) (0,0,0)).1,(lGet x (iNat x0.2) (0,0,0)).2.1,(lGet x (iNat x0.2) (0,0,0)).2.2)).2.2.2))) (bNot (bIff (iEq (lGet x (iNat x0.2) (0,0,0)).1 2) (iGe (Zau (x0.1,(lGet x (iNat x0.2) (0,0,0)).1,(lGet x (iNat x0.2) (0,0,0)).2.1,(lGet x (iNat x0.2) (0,0,0)).2.2)) 0)))))=false→(((iEq (lGet x (iNat x0.2) (0,0,0)).1 1)=true→((Zcx ((lGet x (iNat x0.2) (0,0,0)).1,(lGet x (iNat x0.2) (0,0,0)).2.1,(lGet x (iNat x0.2) (0,0,0)).2.2))∧(Zbu (((List.length x0.1)+(List.length [(0,(Zaa ((lGet x (iNat x0.2) (0,0,0)).1,(lGet x (iNat x0.2) (0,0,0)).2.1,(lGet x (iNat x0.2) (0,0,0)).2.2)).1,(Zaa ((lGet x (iNat x0.2) (0,0,0)).1,(lGet x (iNat x0.2) (0,0,0)).2.1,(lGet x (iNat x0.2) (0,0,0)).2.2)).2.1,(Zaa ((lGet x (iNat x0.2) (0,0,0)).1,(lGet x (iNat x0.2) (0,0,0)).2.1,(lGet x (iNat x0.2) (0,0,0)).2.2)).2.2.1,(Zaa ((lGet x (iNat x0.2) (0,0,0)).1,(lGet x (iNat x0.2) (0,0,0)).2.1,(lGet x (iNat x0.2) (0,0,0)).2.2)).2.2.2)]))*5))))∧((iEq (lGet x (iNat x0.2) (0,0,0)).1 1)=false→(((iEq (lGet x (iNat x0.2) (0,0,0)).1 2)=true→(ZbK (x0.1,(Zau (x0.1,(lGet x (iNat x0.2) (0,0,0)).1,(lGet x (iNat x0.2) (0,0,0)).2.1,(lGet x (iNat x0.2) (0,0,0)).2.2)))))∧((iEq (lGet x (iNat x0.2) (0,0,0)).1 2)=false→True)))))))))))∧((iLt x0.2 (lLen x))=false→True))) ([],0)):=by unfold ZdS;exact(congrFun (shut _).2 x).trans (by kernel_rfl)
theorem Zje (x):Zae x=(bSel (iLt (ZaV (fun(x0:Int)=>(bAnd (iLt x0 (lLen x.1)) (bNot (bAnd (iEq (lGet x.1 (iNat x0) (0,0)).1 x.2.1) (iEq (lGet x.1 (iNat x0) (0,0)).2 x.2.2))))) (fun(x0:Int)=>(iAdd .i64 x0 1)) 0) (lLen x.1)) (ZaV (fun(x0:Int)=>(bAnd (iLt x0 (lLen x.1)) (bNot (bAnd (iEq (lGet x.1 (iNat x0) (0,0)).1 x.2.1) (iEq (lGet x.1 (iNat x0) (0,0)).2 x.2.2))))) (fun(x0:Int)=>(iAdd .i64 x0 1)) 0) (-1)):=by unfold Zae;exact(congrFun (shut _).2 x).trans (by kernel_rfl)
theorem Zrq (x):ZcJ x=(LoopOk (fun(x0:Int)=>(bAnd (iLt x0 (lLen x.1)) (bNot (bAnd (iEq (lGet x.1 (iNat x0) (0,0)).1 x.2.1) (iEq (lGet x.1 (iNat x0) (0,0)).2 x.2.2))))) (fun(x0:Int)=>(iAdd .i64 x0 1)) (fun(x0:Int)=>(((iLt x0 (lLen x.1))=true→((((0:Int)≤x0)∧(x0<(((List.length x.1):Int))))∧((iNat x0)<(List.length x.1))))∧((iLt x0 (lLen x.1))=false→True))) 0):=by unfold ZcJ;exact(congrFun (shut _).2 x).trans (by kernel_rfl)
theorem ZpV (x):ZcH x=(bAnd (bNot (iGt (lLen x) 8)) (bAnd (bNot (iLt (ZaV (fun(x0:((List (Int×Int))×Int))=>(bAnd (iLt x0.2 (lLen x)) (bAnd (bNot (bNot (ZaF (2,(lGet x (iNat x0.2) (0,0,0)).2.1,(lGet x (iNat x0.2) (0,0,0)).2.2,0)))) (bSel (bOr (iEq (lGet x (iNat x0.2) (0,0,0)).1 0) (iEq (lGet x (iNat x0.2) (0,0,0)).1 1)) (bNot (iGe (Zae (x0.1,(lGet x (iNat x0.2) (0,0,0)).2.1,(lGet x (iNat x0.2) (0,0,0)).2.2)) 0)) (bAnd (iEq (lGet x (iNat x0.2) (0,0,0)).1 2) (bNot (iLt (Zae (x0.1,(lGet x (iNat x0.2) (0,0,0)).2.1,(lGet x (iNat x0.2) (0,0,0)).2.2)) 0))))))) (fun(x0:((List (Int×Int))×Int))=>((bSel (bOr (iEq (lGet x (iNat x0.2) (0,0,0)).1 0) (iEq (lGet x (iNat x0.2) (0,0,0)).1 1)) (bSel (iEq (lGet x (iNat x0.2) (0,0,0)).1 1) (lApp x0.1 [((lGet x (iNat x0.2) (0,0,0)).2.1,(lGet x (iNat x0.2) (0,0,0)).2.2)]) x0.1) (lApp (lTake x0.1 (lN (lSub x0.1 0 (iNat (Zae (x0.1,(lGet x (iNat x0.2) (0,0,0)).2.1,(lGet x (iNat x0.2) (0,0,0)).2.2)))))) (lSub x0.1 (iNat (iAdd .i64 (Zae (x0.1,(lGet x (iNat x0.2) (0,0,0)).2.1,(lGet x (iNat x0.2) (0,0,0)).2.2)) 1)) (lN x0.1)))),(iAdd .i64 x0.2 1))) ([],0)).2 (lLen x))) (iEq (lLen (ZaV (fun(x0:((List (Int×Int))×Int))=>(bAnd (iLt x0.2 (lLen x)) (bAnd (bNot (bNot (ZaF (2,(lGet x (iNat x0.2) (0,0,0)).2.1,(lGet x (iNat x0.2) (0,0,0)).2.2,0)))) (bSel (bOr (iEq (lGet x (iNat x0.2) (0,0,0)).1 0) (iEq (lGet x (iNat x0.2) (0,0,0)).1 1)) (bNot (iGe (Zae (x0.1,(lGet x (iNat x0.2) (0,0,0)).2.1,(lGet x (iNat x0.2) (0,0,0)).2.2)) 0)) (bAnd (iEq (lGet x (iNat x0.2) (0,0,0)).1 2) (bNot (iLt (Zae (x0.1,(lGet x (iNat x0.2) (0,0,0)).2.1,(lGet x (iNat x0.2) (0,0,0)).2.2)) 0))))))) (fun(x0:((List (Int×Int))×Int))=>((bSel (bOr (iEq (lGet x (iNat x0.2) (0,0,0)).1 0) (iEq (lGet x (iNat x0.2) (0,0,0)).1 1)) (bSel (iEq (lGet x (iNat x0.2) (0,0,0)).1 1) (lApp x0.1 [((lGet x (iNat x0.2) (0,0,0)).2.1,(lGet x (iNat x0.2) (0,0,0)).2.2)]) x0.1) (lApp (lTake x0.1 (lN (lSub x0.1 0 (iNat (Zae (x0.1,(lGet x (iNat x0.2) (0,0,0)).2.1,(lGet x (iNat x0.2) (0,0,0)).2.2)))))) (lSub x0.1 (iNat (iAdd .i64 (Zae (x0.1,(lGet x (iNat x0.2) (0,0,0)).2.1,(lGet x (iNat x0.2) (0,0,0)).2.2)) 1)) (lN x0.1)))),(iAdd .i64 x0.2 1))) ([],0)).1) 0))):=by unfold ZcH;exact(congrFun (shut _).2 x).trans (by kernel_rfl)
theorem Zqy (x):ZdF x=(((iGt (lLen x) 8)=true→True)∧((iGt (lLen x) 8)=false→(LoopOk (fun(x0:((List (Int×Int))×Int))=>(bAnd (iLt x0.2 (lLen x)) (bAnd (bNot (bNot (ZaF (2,(lGet x (iNat x0.2) (0,0,0)).2.1,(lGet x (iNat x0.2) (0,0,0)).2.2,0)))) (bSel (bOr (iEq (lGet x (iNat x0.2) (0,0,0)).1 0) (iEq (lGet x (iNat x0.2) (0,0,0)).1 1)) (bNot (iGe (Zae (x0.1,(lGet x (iNat x0.2) (0,0,0)).2.1,(lGet x (iNat x0.2) (0,0,0)).2.2)) 0)) (bAnd (iEq (lGet x (iNat x0.2) (0,0,0)).1 2) (bNot (iLt (Zae (x0.1,(lGet x (iNat x0.2) (0,0,0)).2.1,(lGet x (iNat x0.2) (0,0,0)).2.2)) 0))))))) (fun(x0:((List (Int×Int))×Int))=>((bSel (bOr (iEq (lGet x (iNat x0.2) (0,0,0)).1 0) (iEq (lGet x (iNat x0.2) (0,0,0)).1 1)) (bSel (iEq (lGet x (iNat x0.2) (0,0,0)).1 1) (lApp x0.1 [((lGet x (iNat x0.2) (0,0,0)).2.1,(lGet x (iNat x0.2) (0,0,0)).2.2)]) x0.1) (lApp (lTake x0.1 (lN (lSub x0.1 0 (iNat (Zae (x0.1,(lGet x (iNat x0.2) (0,0,0)).2.1,(lGet x (iNat x0.2) (0,0,0)).2.2)))))) (lSub x0.1 (iNat (iAdd .i64 (Zae (x0.1,(lGet x (iNat x0.2) (0,0,0)).2.1,(lGet x (iNat x0.2) (0,0,0)).2.2)) 1)) (lN x0.1)))),(iAdd .i64 x0.2 1))) (fun(x0:((List (Int×Int))×Int))=>(((iLt x0.2 (lLen x))=true→((((0:Int)≤x0.2)∧(x0.2<(((List.length x):Int))))∧(((iNat x0.2)<(List.length x))∧((ZcJ (x0.1,(lGet x (iNat x0.2) (0,0,0)).2.1,(lGet x (iNat x0.2) (0,0,0)).2.2))∧((Zct (2,(lGet x (iNat x0.2) (0,0,0)).2.1,(lGet x (iNat x0.2) (0,0,0)).2.2,0))∧(((bNot (ZaF (2,(lGet x (iNat x0.2) (0,0,0)).2.1,(lGet x (iNat x0.2) (0,0,0)).2.2,0)))=true→True)∧((bNot (ZaF (2,(lGet x (iNat x0.2) (0,0,0)).2.1,(lGet x (iNat x0.2) (0,0,0)).2.2,0)))=false→(((bOr (iEq (lGet x (iNat x0.2) (0,0,0)).1 0) (iEq (lGet x (iNat x0.2) (0,0,0)).1 1))=true→(((iGe (Zae (x0.1,(lGet x (iNat x0.2) (0,0,0)).2.1,(lGet x (iNat x0.2) (0,0,0)).2.2)) 0)=true→True)∧((iGe (Zae (x0.1,(lGet x (iNat x0.2) (0,0,0)).2.1,(lGet x (iNat x0.2) (0,0,0)).2.2)) 0)=false→(((iEq (lGet x (iNat x0.2) (0,0,0)).1 1)=true→(Zbu (((List.length x0.1)+(List.length [((lGet x (iNat x0.2) (0,0,0)).2.1,(lGet x (iNat x0.2) (0,0,0)).2.2)]))*2)))∧((iEq (lGet x (iNat x0.2) (0,0,0)).1 1)=false→True)))))∧((bOr (iEq (lGet x (iNat x0.2) (0,0,0)).1 0) (iEq (lGet x (iNat x0.2) (0,0,0)).1 1))=false→(((iEq (lGet x (iNat x0.2) (0,0,0)).1 2)=true→(((iLt (Zae (x0.1,(lGet x (iNat x0.2) (0,0,0)).2.1,(lGet x (iNat x0.2) (0,0,0)).2.2)) 0)=true→True)∧((iLt (Zae (x0.1,(lGet x (iNat x0.2) (0,0,0)).2.1,(lGet x (iNat x0.2) (0,0,0)).2.2)) 0)=false→((((0:Int)≤(Zae (x0.1,(lGet x (iNat x0.2) (0,0,0)).2.1,(lGet x (iNat x0.2) (0,0,0)).2.2)))∧((0≤(iNat (Zae (x0.1,(lGet x (iNat x0.2) (0,0,0)).2.1,(lGet x (iNat x0.2) (0,0,0)).2.2))))∧(((iNat (Zae (x0.1,(lGet x (iNat x0.2) (0,0,0)).2.1,(lGet x (iNat x0.2) (0,0,0)).2.2)))≤(List.length x0.1))∧(0<(List.length x0.1)))))∧((((0:Int)≤(iAdd .i64 (Zae (x0.1,(lGet x (iNat x0.2) (0,0,0)).2.1,(lGet x (iNat x0.2) (0,0,0)).2.2)) 1))∧(((iNat (iAdd .i64 (Zae (x0.1,(lGet x (iNat x0.2) (0,0,0)).2.1,(lGet x (iNat x0.2) (0,0,0)).2.2)) 1))≤(lN x0.1))∧(((lN x0.1)≤(List.length x0.1))∧(0<(List.length x0.1)))))∧((0<(List.length x0.1))∧(((List.length (lSub x0.1 0 (iNat (Zae (x0.1,(lGet x (iNat x0.2) (0,0,0)).2.1,(lGet x (iNat x0.2) (0,0,0)).2.2)))))≤(List.length x0.1))∧(Zbu (((List.length (lSub x0.1 0 (iNat (Zae (x0.1,(lGet x (iNat x0.2) (0,0,0)).2.1,(lGet x (iNat x0.2) (0,0,0)).2.2)))))+(List.length (lSub x0.1 (iNat (iAdd .i64 (Zae (x0.1,(lGet x (iNat x0.2) (0,0,0)).2.1,(lGet x (iNat x0.2) (0,0,0)).2.2)) 1)) (lN x0.1))))*2)))))))))∧((iEq (lGet x (iNat x0.2) (0,0,0)).1 2)=false→True)))))))))))∧((iLt x0.2 (lLen x))=false→True))) ([],0)))):=by unfold ZdF;exact(congrFun (shut _).2 x).trans (by kernel_rfl)
end
def pi5(h:Int×Int×Int×Int×Int):Int×Int:=(h.2.2.1,h.2.2.2.1)
theorem Zuf(dn:List (Int×Int×Int×Int×Int))(i:Nat):(dn.map pi5).getD i (0,0)=pi5 (dn.getD i (0,0,0,0,0)):=by
 rw[List.getD_eq_getElem?_getD,List.getD_eq_getElem?_getD,List.getElem?_map];cases dn[i]?<;>rfl
theorem ZGg{c:Int→Bool}{f:Int→Int}(n:Int)(h0:0≤n)(hn:n≤9223372036854775806)(hc:∀ st:Int,c st=true→st<n)(hf:∀ st,f st=iAdd .i64 st 1):0≤ZaV c f 0:=
 (ZnE (fun st=>0≤st∧st≤n) (fun st=>(n-st).toNat) (fun st hI h=>by
  have:=hc st h
  rw[hf,Zby (by constructor<;>omega)]
  exact⟨by omega,by omega⟩) ⟨by omega,h0⟩).1.1
theorem ZnF(dn:List (Int×Int×Int×Int×Int))(k c m:Int):Zau (dn,k,c,m)=Zae (dn.map pi5,c,m):=by
 rw[Zq2,Zje]
 simp only[ZbJ,Zuf,Zan,List.length_map,pi5]
theorem Zo6(dm:List (Int×Int))(q:Int×Int)(h:dm.length≤1048576):Zae (dm,q)=-1∨(0≤Zae (dm,q)∧Zae (dm,q)<dm.length):=by
 rw[Zje,Zep,ZaA,Zan]
 split
 · rename_i hlt
   rw[decide_eq_true_eq] at hlt
   refine .inr ⟨ZGg dm.length (by omega) (by omega) (fun st hc=>?_) (fun _=>rfl),hlt⟩
   rw[ZaI,ZaA,Bool.and_eq_true,decide_eq_true_eq] at hc
   exact hc.1
 · exact .inl rfl
theorem Zvw(dn:List (Int×Int×Int×Int×Int))(q:Int×Int×Int)(h:dn.length≤1048576):Zcf (dn,q):=by
 rw[ZrN]
 refine Zwr (fun st=>st) dn.length (by omega) (fun st _ _ h=>?_) (fun _=>rfl) (fun st h0 h1=>⟨fun hlt=>?_,fun _=>trivial⟩) (by simp) (by simp)
 · rw[ZaI,ZaA,Zan,Bool.and_eq_true,decide_eq_true_eq] at h;exact h.1
 · rw[ZaA,Zan,decide_eq_true_eq] at hlt
   have a:(0:Int)≤st∧st<(dn.length:Int):=⟨h0,hlt⟩
   have b:iNat st<dn.length:=by rw[ZaK];omega
   exact⟨a,b,fun _=>⟨a,b⟩,fun _=>trivial⟩
theorem Zy2(dm:List (Int×Int))(q:Int×Int)(h:dm.length≤1048576):ZcJ (dm,q):=by
 rw[Zrq]
 refine Zwr (fun st=>st) dm.length (by omega) (fun st _ _ h=>?_) (fun _=>rfl) (fun st h0 h1=>⟨fun hlt=>?_,fun _=>trivial⟩) (by simp) (by simp)
 · rw[ZaI,ZaA,Zan,Bool.and_eq_true,decide_eq_true_eq] at h;exact h.1
 · rw[ZaA,Zan,decide_eq_true_eq] at hlt
   exact⟨⟨h0,hlt⟩,by rw[ZaK];omega⟩
theorem Zp2(dn:List (Int×Int×Int×Int×Int))(p:Int)(h0:0≤p)(h1:p<dn.length) :
 (Zay (dn,p)).map pi5=lApp (lTake (dn.map pi5) (lN (lSub (dn.map pi5) 0 (iNat p)))) (lSub (dn.map pi5) (iNat (iAdd .i64 p 1)) (lN (dn.map pi5))):=by
 have hm:min p.toNat dn.length=p.toNat:=by omega
 rw[Ze9]
 simp only[ZcT,Zxm,Zuz,Zk1,ZaK,List.drop_zero,Nat.sub_zero,List.length_take,List.map_append,List.map_take,List.map_drop,List.length_map,List.nil_append,hm]
theorem ZpM(dn:List (Int×Int×Int×Int×Int))(p:Int)(h0:0≤p)(h1:p<dn.length)(h:dn.length≤1048576):(Zay (dn,p)).length≤dn.length:=by
 rw[Ze9]
 simp only[ZcT,Zuz,Zk1,ZaK,List.drop_zero,Nat.sub_zero,List.length_take,List.length_drop,List.length_append,List.nil_append]
 rw[Zby (by constructor<;>omega)]
 omega
theorem Ztn(K p:Int)(A:Bool):bNot (bOr (bNot (ZaB (K,0,2))) (bOr (bNot A) (bNot (bIff (iEq K 2) (iGe p 0)))))=
 bAnd (bNot (bNot A)) (bSel (bOr (iEq K 0) (iEq K 1)) (bNot (iGe p 0)) (bAnd (iEq K 2) (bNot (iLt p 0)))):=by
 have hp:decide (p<0)=!decide (0≤p):=by simp only[← decide_not,Int.not_le]
 rw[ZkK]
 simp only[ZaI,ZaC,ZhG,Zjj,Zep,Zff,ZqH,Zl2,ZaA,hp]
 generalize decide (0≤p)=P
 have h:K=0∨K=1∨K=2∨(¬ (0≤K∧K≤2)):=by omega
 rcases h with h|h|h|h
 · subst h;cases A<;>cases P<;>decide
 · subst h;cases A<;>cases P<;>decide
 · subst h;cases A<;>cases P<;>decide
 · have e0:K≠0:=by omega
   have e1:K≠1:=by omega
   have e2:K≠2:=by omega
   have e3:(decide (0≤K)&&decide (K≤2))=false:=by rw[← Bool.decide_and];exact decide_eq_false h
   simp only[e3,e0,e1,e2,decide_false]
   cases A<;>rfl
theorem ZBQ {l:List (Int×Int×Int)} {cs:List (Int×Int×Int×Int×Int)×Int→Bool} {fs} {ci:List (Int×Int)×Int→Bool} {fi}
 (h:∀ (dn:List (Int×Int×Int×Int×Int)) (i:Int),0≤i→i≤l.length→dn.length≤i→cs (dn,i)=ci (dn.map pi5,i)∧(cs (dn,i)=true→i<l.length∧∃ dn':List (Int×Int×Int×Int×Int),fs (dn,i)=(dn',i+1)∧fi (dn.map pi5,i)=(dn'.map pi5,i+1)∧dn'.length≤i+1)) :
 bAnd (bNot (iLt (ZaV cs fs ([],0)).2 (lLen l))) (bAnd (iLe (lLen l) 8) (iEq (lLen (ZaV cs fs ([],0)).1) 0))=
 bAnd (bNot (iGt (lLen l) 8)) (bAnd (bNot (iLt (ZaV ci fi ([],0)).2 (lLen l))) (iEq (lLen (ZaV ci fi ([],0)).1) 0)):=by
 have go:∀ (n:Nat) (dn:List (Int×Int×Int×Int×Int)) (i:Int),0≤i→i≤l.length→dn.length≤i→(l.length-i).toNat<n →
  ∃ (en:List (Int×Int×Int×Int×Int)) (j:Int),LoopTo cs fs (fun _=>True) (dn,i) (en,j)∧LoopTo ci fi (fun _=>True) (dn.map pi5,i) (en.map pi5,j):=by
  intro n
  induction n with
  |zero=>intro _ _ _ _ _ hm;exact absurd hm (Nat.not_lt_zero _)
  | succ n ih=>
    intro dn i h0 h1 h2 hm
    obtain⟨a,b⟩:=h dn i h0 h1 h2
    cases hc:cs (dn,i) with
    |false=>exact⟨dn,i,.stop trivial hc,.stop trivial (by rw[← a,hc])⟩
    | true=>
      obtain⟨c1,dn',c2,c3,c4⟩:=b hc
      obtain⟨en,j,d1,d2⟩:=ih dn' (i+1) (by omega) (by omega) c4 (by omega)
      exact⟨en,j,.go trivial hc (by rw[c2];exact d1),.go trivial (by rw[← a,hc]) (by rw[c3];exact d2)⟩
 obtain⟨en,j,d1,d2⟩:=go _ [] 0 (by omega) (by omega) (by simp) (Nat.lt_succ_self _)
 have d2:LoopTo ci fi (fun _=>True) ([],0) (en.map pi5,j):=d2
 rw[d1.val,d2.val]
 simp only[ZaI,ZaC,Zl2,Zug,Zan,List.length_map,← decide_not,Int.not_lt]
 exact Bool.and_left_comm ..
theorem ZqJ (dn:List (Int×Int×Int×Int×Int)) (K c m p i:Int) (t:Bool) (n:Int) (hp:p=-1∨(0≤p∧p<dn.length)) (hd:dn.length≤i) (hi:i<n) (hn:n≤1048576)
 (hc:bSel (bOr (iEq K 0) (iEq K 1)) (bNot (iGe p 0)) (bAnd (iEq K 2) (bNot (iLt p 0)))=true) :
 bSel (bOr (iEq K 0) (iEq K 1)) (bSel (iEq K 1) (lApp (dn.map pi5) [(c,m)]) (dn.map pi5)) (lApp (lTake (dn.map pi5) (lN (lSub (dn.map pi5) 0 (iNat p)))) (lSub (dn.map pi5) (iNat (iAdd .i64 p 1)) (lN (dn.map pi5))))=
  (bSel (iEq K 1) (lApp dn [(0,2,c,m,0)]) (bSel (iEq K 2) (Zay (dn,p)) dn)).map pi5 ∧
 ((bSel (iEq K 1) (lApp dn [(0,2,c,m,0)]) (bSel (iEq K 2) (Zay (dn,p)) dn)).length:Int)≤i+1:=by
 simp only[Zep,ZhG,ZaI,ZaC,Zff,ZqH,ZaA,Bool.or_eq_true,decide_eq_true_eq] at hc ⊢
 by_cases k1:K=1
 · subst k1
   simp[ZcT,pi5];omega
 · by_cases k0:K=0
   · subst k0
     simp;omega
   · simp only[k0,k1,or_self,if_false,Bool.and_eq_true,decide_eq_true_eq,Bool.not_eq_true',decide_eq_false_iff_not] at hc ⊢
     have h0:0≤p:=by omega
     have h1:p<dn.length:=by omega
     rw[if_pos hc.1]
     refine⟨(Zp2 dn p h0 h1).symm,?_⟩
     have:=ZpM dn p h0 h1 (by omega)
     omega
theorem ZxD(x:List (Int×Int×Int))(h:x.length≤1048576):Za6 x=ZcH x:=by
 rw[ZkZ,ZpV]
 refine ZBQ (fun dn i h0 h1 h2=>?_)
 have hr:=Zo6 (dn.map pi5) ((lGet x (iNat i) (0,0,0)).2.1,(lGet x (iNat i) (0,0,0)).2.2) (by rw[List.length_map];omega)
 rw[List.length_map] at hr
 simp only[ZnF,Zj1,Zec,Ztn]
 generalize Zae (dn.map pi5,(lGet x (iNat i) (0,0,0)).2.1,(lGet x (iNat i) (0,0,0)).2.2)=p at hr ⊢
 refine⟨trivial,fun hc=>?_⟩
 rw[ZaI,ZaI,ZaA,Zan,Bool.and_eq_true,Bool.and_eq_true,decide_eq_true_eq] at hc
 obtain⟨hc1,hc2,hc3⟩:=hc
 obtain⟨s1,s2⟩:=ZqJ dn (lGet x (iNat i) (0,0,0)).1 (lGet x (iNat i) (0,0,0)).2.1 (lGet x (iNat i) (0,0,0)).2.2 p i true x.length hr h2 hc1 (by omega) hc3
 rw[Zby (a:=i) (b:=1) (by constructor<;>omega)]
 exact⟨hc1,_,rfl,by rw[s1],s2⟩
theorem ZiR{k w:Nat}(h:k≤1048577)(hw:w≤1000):Zbu (k*w):=by
 unfold Zbu;exact Nat.le_trans (Nat.mul_le_mul h hw) (by decide)
theorem Zm3(dn:List (Int×Int×Int×Int×Int))(p:Int)(h0:0≤p)(h1:p<dn.length)(h:dn.length≤1048576):ZbK (dn,p):=by
 rw[Zne,Zby (a:=p) (b:=1) (by constructor<;>omega)]
 simp only[ZaK,Zuz,ZcT,Zk1,List.drop_zero,Nat.sub_zero,List.length_take,List.length_drop,List.length_append,List.length_nil,List.nil_append]
 refine⟨⟨h0,by omega,by omega,by omega⟩,⟨by omega,by omega,by omega,by omega⟩,ZiR (by omega) (by omega),ZiR (by omega) (by omega)⟩
theorem Zrh(x:List (Int×Int×Int))(h:x.length≤1048576):ZdS x:=by
 rw[Zqk]
 refine(Zlm (fun st:List (Int×Int×Int×Int×Int)×Int=>0≤st.2∧st.2≤(x.length:Int)∧(st.1.length:Int)≤st.2) (fun st=>((x.length:Int)-st.2).toNat) (fun st hI=>?_) ⟨by simp,by simp,by simp⟩).1
 obtain⟨dn,i⟩:=st
 obtain⟨i0,i1,i2⟩:=hI
 simp only at i0 i1 i2
 have hr:=Zo6 (dn.map pi5) ((lGet x (iNat i) (0,0,0)).2.1,(lGet x (iNat i) (0,0,0)).2.2) (by rw[List.length_map];omega)
 rw[List.length_map] at hr
 have hf:=Zvw dn ((lGet x (iNat i) (0,0,0)).1,(lGet x (iNat i) (0,0,0)).2.1,(lGet x (iNat i) (0,0,0)).2.2) (by omega)
 simp only[ZnF,Zj1,Zec,Ztn,Zgm,Zkl,Zk4]
 generalize Zae (dn.map pi5,(lGet x (iNat i) (0,0,0)).2.1,(lGet x (iNat i) (0,0,0)).2.2)=p at hr ⊢
 refine⟨⟨fun hlt=>?_,fun _=>trivial⟩,fun hc=>?_⟩
 · rw[ZaA,Zan,decide_eq_true_eq] at hlt
   refine⟨⟨i0,hlt⟩,by rw[ZaK];omega,hf,⟨trivial,fun _=>trivial,fun _=>⟨trivial,trivial⟩⟩,fun _=>trivial,fun hc=>⟨fun _=>⟨trivial,ZiR (by simp only[List.length_cons,List.length_nil];omega) (by omega)⟩,fun k1=>⟨fun k2=>?_,fun _=>trivial⟩⟩⟩
   have hc:=congrArg bNot hc
   rw[Ztn] at hc
   simp only[Zep,ZhG,ZaI,ZaC,Zff,ZqH,ZaA,decide_eq_true_eq] at hc k1 k2
   simp[k2] at hc
   exact Zm3 dn p (by omega) (by omega) (by omega)
 · rw[ZaI,ZaI,ZaA,Zan,Bool.and_eq_true,Bool.and_eq_true,decide_eq_true_eq] at hc
   obtain⟨hc1,hc2,hc3⟩:=hc
   obtain⟨s1,s2⟩:=ZqJ dn (lGet x (iNat i) (0,0,0)).1 (lGet x (iNat i) (0,0,0)).2.1 (lGet x (iNat i) (0,0,0)).2.2 p i true x.length hr i2 hc1 (by omega) hc3
   rw[Zby (a:=i) (b:=1) (by constructor<;>omega)]
   exact⟨⟨by show 0≤i+1;omega,by show i+1≤_;omega,s2⟩,by show (_-(i+1)).toNat<_;omega⟩
theorem ZrE(x:List (Int×Int×Int))(h:x.length≤1048576):ZdF x:=by
 rw[Zqy]
 refine⟨fun _=>trivial,fun _=>?_⟩
 refine(Zlm (fun st:List (Int×Int)×Int=>0≤st.2∧st.2≤(x.length:Int)∧∃ dn:List (Int×Int×Int×Int×Int),st.1=dn.map pi5∧(dn.length:Int)≤st.2) (fun st=>((x.length:Int)-st.2).toNat) (fun st hI=>?_) ⟨by simp,by simp,[],rfl,by simp⟩).1
 obtain⟨dm,i⟩:=st
 obtain⟨i0,i1,dn,rfl,i2⟩:=hI
 simp only at i0 i1 i2
 have hr:=Zo6 (dn.map pi5) ((lGet x (iNat i) (0,0,0)).2.1,(lGet x (iNat i) (0,0,0)).2.2) (by rw[List.length_map];omega)
 have hf:=Zy2 (dn.map pi5) ((lGet x (iNat i) (0,0,0)).2.1,(lGet x (iNat i) (0,0,0)).2.2) (by rw[List.length_map];omega)
 rw[List.length_map] at hr
 simp only[Zi1]
 generalize Zae (dn.map pi5,(lGet x (iNat i) (0,0,0)).2.1,(lGet x (iNat i) (0,0,0)).2.2)=p at hr ⊢
 refine⟨⟨fun hlt=>?_,fun _=>trivial⟩,fun hc=>?_⟩
 · rw[ZaA,Zan,decide_eq_true_eq] at hlt
   refine⟨⟨i0,hlt⟩,by rw[ZaK];omega,hf,trivial,fun _=>trivial,fun _=>⟨fun _=>⟨fun _=>trivial,fun _=>⟨fun _=>ZiR (by simp only[List.length_map,List.length_cons,List.length_nil];omega) (by omega),fun _=>trivial⟩⟩,fun _=>⟨fun _=>⟨fun _=>trivial,fun hp=>?_⟩,fun _=>trivial⟩⟩⟩
   rw[ZaA,decide_eq_false_iff_not] at hp
   have h0:0≤p:=by omega
   have h1:p<dn.length:=by omega
   rw[Zby (a:=p) (b:=1) (by constructor<;>omega)]
   simp only[ZaK,Zuz,Zk1,List.drop_zero,Nat.sub_zero,List.length_take,List.length_drop,List.length_map]
   exact⟨⟨h0,by omega,by omega,by omega⟩,⟨by omega,by omega,by omega,by omega⟩,by omega,by omega,ZiR (by omega) (by omega)⟩
 · rw[ZaI,ZaI,ZaA,Zan,Bool.and_eq_true,Bool.and_eq_true,decide_eq_true_eq] at hc
   obtain⟨hc1,hc2,hc3⟩:=hc
   obtain⟨s1,s2⟩:=ZqJ dn (lGet x (iNat i) (0,0,0)).1 (lGet x (iNat i) (0,0,0)).2.1 (lGet x (iNat i) (0,0,0)).2.2 p i true x.length hr i2 hc1 (by omega) hc3
   rw[Zby (a:=i) (b:=1) (by constructor<;>omega)]
   exact⟨⟨by show 0≤i+1;omega,by show i+1≤_;omega,_,s1,s2⟩,by show (_-(i+1)).toNat<_;omega⟩
section
set_option maxRecDepth 8000
def ZrT:DCode:=
 (.seq [1,0] (.region [oa 0 4 (.mv (.c (.bool false)))])
 (.seq [1,0] (.seq [10,1,0] (.region [on 0 6 0,
 oa 1 7 (.len (.t 6)),
 on 2 8 1,
 oa 3 9 (.len (.t 8)),
 oa 4 10 (.bin .neq (.t 7) (.t 9))])
  (.cond (.t 10) (.seq [4] (.region [oa 0 4 (.mv (.c (.bool false)))])
  .ret) .skip))
  (.seq [] (.seq [5,1,0] (.region [oi 0 5 0])
  (.block 0 (.loop [0,1,5] 1 (.seq [5,1,0] (.seq [14,5,1,0] (.region [om 0 11 5,
 on 1 12 0,
 oa 2 13 (.len (.t 12)),
 oa 3 14 (.bin .lss (.t 11) (.t 13))])
  (.cond (.t 14) .skip (.exit 0)))
  (.seq [5,1,0] (.block 1 (.seq [25,5,1,0] (.region [on 0 17 0,
 om 1 18 5,
 xA 2 19 (.indexA 1 (.t 17) (.t 18)) (rg 2),
 xA 3 20 (.loadH none (.t 19)) (rg 3),
 on 4 21 1,
 om 5 22 5,
 xA 6 23 (.indexA 1 (.t 21) (.t 22)) [4,5],
 xA 7 24 (.loadH none (.t 23)) [4,5,6],
 xA 8 25 (.bin .neq (.t 20) (.t 24)) (rg 8)])
  (.cond (.t 25) (.seq [4] (.region [oa 0 4 (.mv (.c (.bool false)))])
  .ret) .skip)))
  (.region [om 0 15 5,
 oa 1 16 (.bin .add (.t 15) (.c (.int .i64 1))),
 om 2 5 16]))))))
  (.seq [4] (.region [oa 0 4 (.mv (.c (.bool true)))])
  .ret))))
def df_laws_eqIntS:DFun:=⟨2,26,0,true,[.tmp 4],ZrT⟩
@[irreducible] def Ze4:Zar:=Za5 df_laws_eqIntS.er.er
@[irreducible] def Zgb:ZfF:=ZaQ df_laws_eqIntS.er
theorem Zro:Zbd Ze4 Zgb:=by unfold Ze4 Zgb;exact Zav (f:=df_laws_eqIntS.er) trivial
def ZhV:List HT:=[.one .frz (.sl (.one (.int .i64))),.one .frz (.sl (.one (.int .i64)))]
def ZhO:QT:=.one (.one .own (.bool))
@[irreducible] def Ze7(x:List (Int)×List (Int)):Bool:=(shut fun x=>fnV df_laws_eqIntS ZhV ZhO x).1 x
@[irreducible] def Zee(x:List (Int)×List (Int)):Prop:=(shut fun x=>ZhR df_laws_eqIntS ZhV ZhO x).1 x
def Zmm:ZhA:=ZbC ZhV ZhO Zee Ze7
theorem ZrM:Zbp Zgb Zmm:=by unfold Zgb;exact Zaz (f:=df_laws_eqIntS) (hs:=ZhV) (q:=ZhO) trivial (by kernel_rfl) (fun x=>by kernel_rfl) (fun x h=>by unfold Zee at h;exact Eq.mp (congrFun (shut _).2 x) h) (fun x=>by unfold Ze7;exact(congrFun (shut _).2 x).symm)
def Zob:DCode:=
 (.seq [3,2] (.region [oa 0 2 (.boxB 0 2 (.t 0)),
 oa 1 3 (.boxB 1 2 (.t 1)),
 oa 2 4 (.mv (.c (.bool false)))])
  (.seq [3,2] (.seq [9,3,2] (.region [oa 0 5 (.fieldA 0 (.t 2)),
 oa 1 6 (.loadB 0 none (.t 5)),
 oa 2 7 (.fieldA 0 (.t 3)),
 oa 3 8 (.loadB 1 none (.t 7)),
 oa 4 9 (.bin .neq (.t 6) (.t 8))])
  (.cond (.t 9) (.seq [4] (.region [oa 0 4 (.mv (.c (.bool false)))])
  .ret) .skip))
  (.seq [] (.seq [15] (.region [oa 0 10 (.fieldA 1 (.t 2)),
 oa 1 11 (.loadB 0 none (.t 10)),
 oa 2 12 (.fieldA 1 (.t 3)),
 oa 3 13 (.loadB 1 none (.t 12)),
 oc 4 14 Ze4 Zgb Zmm [(.t 11),(.t 13)],
 oa 5 15 (.un .not (.t 14))])
  (.cond (.t 15) (.seq [4] (.region [oa 0 4 (.mv (.c (.bool false)))])
  .ret) .skip))
  (.seq [4] (.region [oa 0 4 (.mv (.c (.bool true)))])
  .ret))))
def df_laws_eqReport:DFun:=⟨2,16,2,true,[.tmp 4],Zob⟩
@[irreducible] def ZdD:Zar:=Za5 df_laws_eqReport.er.er
@[irreducible] def ZeQ:ZfF:=ZaQ df_laws_eqReport.er
theorem ZoO:Zbd ZdD ZeQ:=by unfold ZdD ZeQ;exact Zav (f:=df_laws_eqReport.er) ⟨Zro,trivial⟩
def ZfY:List HT:=[.agg [(.frz,.int .i64),(.frz,.sl (.one (.int .i64)))],.agg [(.frz,.int .i64),(.frz,.sl (.one (.int .i64)))]]
def Zf2:QT:=.one (.one .own (.bool))
@[irreducible] def Zbf(x:(Int×List (Int))×(Int×List (Int))):Bool:=(shut fun x=>fnV df_laws_eqReport ZfY Zf2 x).1 x
@[irreducible] def Zcy(x:(Int×List (Int))×(Int×List (Int))):Prop:=(shut fun x=>ZhR df_laws_eqReport ZfY Zf2 x).1 x
def Zkz:ZhA:=ZbC ZfY Zf2 Zcy Zbf
theorem ZoL:Zbp ZeQ Zkz:=by unfold ZeQ;exact Zaz (f:=df_laws_eqReport) (hs:=ZfY) (q:=Zf2) ⟨ZrM,trivial⟩ (by kernel_rfl) (fun x=>by kernel_rfl) (fun x h=>by unfold Zcy at h;exact Eq.mp (congrFun (shut _).2 x) h) (fun x=>by unfold Zbf;exact(congrFun (shut _).2 x).symm)
end
section
set_option maxRecDepth 100000
theorem Zrs (x):Ze7 x=(bAnd (bNot (iNe (lLen x.1) (lLen x.2))) (bNot (iLt (ZaV (fun(x0:Int)=>(bAnd (iLt x0 (lLen x.1)) (bNot (iNe (lGet x.1 (iNat x0) 0) (lGet x.2 (iNat x0) 0))))) (fun(x0:Int)=>(iAdd .i64 x0 1)) 0) (lLen x.1)))):=by unfold Ze7;exact(congrFun (shut _).2 x).trans (by kernel_rfl)
theorem Zrm (x):Zee x=(((iNe (lLen x.1) (lLen x.2))=true→True)∧((iNe (lLen x.1) (lLen x.2))=false→(LoopOk (fun(x0:Int)=>(bAnd (iLt x0 (lLen x.1)) (bNot (iNe (lGet x.1 (iNat x0) 0) (lGet x.2 (iNat x0) 0))))) (fun(x0:Int)=>(iAdd .i64 x0 1)) (fun(x0:Int)=>(((iLt x0 (lLen x.1))=true→((((0:Int)≤x0)∧(x0<(((List.length x.1):Int))))∧(((iNat x0)<(List.length x.1))∧((((0:Int)≤x0)∧(x0<(((List.length x.2):Int))))∧((iNat x0)<(List.length x.2))))))∧((iLt x0 (lLen x.1))=false→True))) 0))):=by unfold Zee;exact(congrFun (shut _).2 x).trans (by kernel_rfl)
theorem Zok (x):Zbf x=(bAnd (bNot (iNe x.1.1 x.2.1)) (bNot (bNot (Ze7 (x.1.2,x.2.2))))):=by unfold Zbf;exact(congrFun (shut _).2 x).trans (by kernel_rfl)
theorem Zoi (x):Zcy x=(((iNe x.1.1 x.2.1)=true→True)∧((iNe x.1.1 x.2.1)=false→(Zee (x.1.2,x.2.2)))):=by unfold Zcy;exact(congrFun (shut _).2 x).trans (by kernel_rfl)
end
def Zvj(x:List (Int)):Prop:=x.length≤1048576
def Zqg(x:Int×List (Int)):Prop:=Zvj x.2∧True
theorem ZEG(a b:List (Int))(h:Zvj a):Zee (a,b)∧(Ze7 (a,b)=true↔a=b):=by
 rw[Zrm,Zrs]
 have h1:a.length≤1048576:=h
 by_cases hl:a.length=b.length
 · refine⟨⟨fun _=>trivial,fun _=>ZBS a b 0 (fun i=>iNe (lGet a i 0) (lGet b i 0)) hl (fun i hi=>by simp[Zdz,ZbJ]) (by omega) (fun i hi=>by simp only[ZaI,ZaA,Zan,ZaK,ZaC,Int.toNat_natCast,Int.ofNat_lt]) (fun i hi=>rfl) (fun i hi=>?_)⟩,?_⟩
   · simp only[ZaA,Zan,ZaK,decide_eq_true_eq,Int.toNat_natCast]
     exact⟨fun hh=>(by omega),fun _=>trivial⟩
   · have hv:=ZHa (c:=fun i:Int=>bAnd (iLt i (lLen a)) (bNot ((fun i=>iNe (lGet a i 0) (lGet b i 0)) i.toNat))) (f:=fun i=>iAdd .i64 i 1) a b 0 (fun i=>iNe (lGet a i 0) (lGet b i 0)) hl (fun i hi=>by simp[Zdz,ZbJ]) (by omega) (fun i hi=>by simp only[ZaI,ZaA,Zan,ZaC,Int.toNat_natCast,Int.ofNat_lt]) (fun i hi=>rfl)
     have e1:bNot (iNe (lLen a) (lLen b))=true:=by rw[ZaC,Zdz,Zan,Zan,hl];simp
     rw[e1,ZaI true,Bool.true_and,ZaC (iLt _ (lLen a)),ZaA _ (lLen a)]
     simp only[← ZaK,Zan] at hv ⊢
     simp only[Bool.not_eq_true',decide_eq_false_iff_not]
     rw[hv];simp
 · have e1:bNot (iNe (lLen a) (lLen b))=false:=by rw[ZaC,Zdz,Zan,Zan];simp;omega
   refine⟨⟨fun _=>trivial,fun h=>?_⟩,?_⟩
   · rw[ZaC] at e1;rw[h] at e1;cases e1
   · rw[e1,ZaI,Bool.false_and];constructor
     · intro h;cases h
     · intro e;subst e;exact absurd rfl hl
theorem ZAY(a b:Int×List (Int))(h:Zqg a):Zcy (a,b)∧(Zbf (a,b)=true↔a=b):=by
 obtain⟨a0,a1⟩:=a
 obtain⟨b0,b1⟩:=b
 have k0:=ZEG a1 b1 (by unfold Zqg at h;exact h.1)
 rw[Zoi,Zok]
 refine⟨by simp[k0.1,k0.2],?_⟩
 simp only[k0.1,k0.2,ZaC,ZaI,Zjj,Zdz,Bool.and_eq_true,Bool.not_not,decide_eq_true_eq,Prod.mk.injEq,beq_iff_eq]
 try (constructor<;>intro h<;>simp_all)
section
set_option maxRecDepth 8000
def Zk6:ZhZ:=
 (.seq (.region [⟨0,some 4,.mv (.c (.int .i64 0)),none,[]⟩])
 (.seq (.seq (.region [⟨0,some 5,.mv (.c (.int .i64 0)),none,[]⟩])
 (.block 0 (.loop [0,1,5] (.seq (.seq (.region [⟨0,some 6,.mv (.t 5),none,[]⟩,
 ⟨1,some 7,.mv (.t 0),none,[]⟩,
 ⟨2,some 8,.len (.t 7),none,[]⟩,
 ⟨3,some 9,.bin .lss (.t 6) (.t 8),none,[]⟩])
  (.cond (.t 9) .skip (.exit 0)))
  (.seq (.block 1 (.seq (.region [⟨0,some 12,.mv (.t 0),none,[]⟩,
 ⟨1,some 13,.mv (.t 5),none,[]⟩,
 ⟨2,some 14,.mv (.t 1),none,[]⟩,
 ⟨3,some 15,.indexA 1 (.t 12) (.t 13),none,[]⟩,
 ⟨4,none,.storeH 1 (.t 15) (.t 14),none,[]⟩])
  (.region [⟨0,some 16,.mv (.t 1),none,[]⟩,
 ⟨1,some 17,.bin .add (.t 16) (.c (.int .i64 1)),none,[]⟩,
 ⟨2,some 1,.mv (.t 17),none,[]⟩])))
  (.region [⟨0,some 10,.mv (.t 5),none,[]⟩,
 ⟨1,some 11,.bin .add (.t 10) (.c (.int .i64 1)),none,[]⟩,
 ⟨2,some 5,.mv (.t 11),none,[]⟩]))))))
  (.seq (.region [⟨0,some 18,.mv (.t 1),none,[]⟩,
 ⟨1,some 4,.mv (.t 18),none,[]⟩])
  .ret)))
def Zix:ZAy:=⟨2,19,0,false,[.tmp 4],Zk6⟩
@[irreducible] def ZdO:Zar:=Za5 Zix
@[irreducible] def ZaX(x:List (Int))(m:Int):(List (Int))×Int:=(shut fun(x:List (Int)) (m:Int)=>mkL (RT.mkI (.one (.int .i64))) x m).1 x m
@[irreducible] def Ze5(x:List (Int)):Prop:=(shut fun(x:List (Int))=>CT.wl (.sl (.one (.int .i64))) x).1 x
theorem Zjw:ZaX=fun x m=>mkL (RT.mkI (.one (.int .i64))) x m:=by unfold ZaX;exact(shut _).2
theorem Zm4:Ze5=fun x=>CT.wl (.sl (.one (.int .i64))) x:=by unfold Ze5;exact(shut _).2
theorem Zon:SlC ZdO (.one (.int .i64)):=by
 rintro h ω hd p l u m Q hok hinj hM hQ
 have hn:=hM.len
 have hlb:l.length≤9223372036854775807:=hok.1
 unfold ZdO
 refine ZmM rfl ?_
 unfold Zk6
 repeat' (first|(simp only[go_sem,reduceIte,reduceCtorEq,Nat.reduceAdd,Nat.reduceBEq,Int.reduceLT,Int.reduceLE,Int.reduceGT,Int.reduceGE,Int.reduceBEq,Int.reduceBNe,Nat.reduceEqDiff,Nat.reduceLeDiff,Nat.reduceLT,hn])|(refine ZdP rfl (fun hb=>?_) (fun hb=>?_)<;>simp only[hb,go_sem,reduceIte,reduceCtorEq,Nat.reduceAdd,Nat.reduceBEq,Int.reduceLT,Int.reduceLE,Int.reduceGT,Int.reduceGE,Int.reduceBEq,Int.reduceBNe,Nat.reduceEqDiff,Nat.reduceLeDiff,Nat.reduceLT,hn])|(refine Zfc rfl (fun hb=>?_) (fun hb=>?_)<;>simp only[hb,go_sem,reduceIte,reduceCtorEq,Nat.reduceAdd,Nat.reduceBEq,Int.reduceLT,Int.reduceLE,Int.reduceGT,Int.reduceGE,Int.reduceBEq,Int.reduceBNe,Nat.reduceEqDiff,Nat.reduceLeDiff,Nat.reduceLT,hn])|(refine Zbo rfl (fun hb=>?_) (fun hb=>?_)<;>simp only[hb,go_sem,reduceIte,reduceCtorEq,Nat.reduceAdd,Nat.reduceBEq,Int.reduceLT,Int.reduceLE,Int.reduceGT,Int.reduceGE,Int.reduceBEq,Int.reduceBNe,Nat.reduceEqDiff,Nat.reduceLeDiff,Nat.reduceLT,hn]))
 refine Ztw l.length (fun i st=>∃ h',st=⟨[u,.int .i64 (Zds (RT.mkI (.one (.int .i64))) l m i).2,.undef,.undef,.undef,.int .i64 (i:Int)]++ZvZ 13,[],h'⟩∧Only (Zp7 ω hd p) h h'∧MS h' ω hd p (.one (.int .i64)) (Zds (RT.mkI (.one (.int .i64))) l m i).1 u) ?_ ?_
 · refine⟨h,?_,Only.refl _ _,hM⟩
   simp only[ZjE,keep,Int.natCast_zero]
   rfl
 · rintro i st next hi ⟨h1,rfl,hO,hR⟩ hnx
   by_cases hlt:i<l.length
   · have hc:decide ((i:Int)<(l.length:Int))=true:=decide_eq_true (by omega)
     have hw:IntKind.i64.wrap ((i:Int)+1)=((i+1:Nat):Int):=by rw[ZA8 (by omega)];omega
     obtain⟨b,hub⟩:=hR.slice (by rw[Zfr];omega)
     rw[Zfr] at hub
     subst hub
     cases hL:Zds (RT.mkI (.one (.int .i64))) l m i with
     |mk L k0=>
     rw[hL] at hR
     obtain⟨hLl,hs,hx0⟩:=Zll hlt hL
     have hiL:i<L.length:=by omega
     have hwx:=ZwZ hok hlt
     rw[← hx0] at hwx
     have R0:=MS.frame hR hiL
     clear hx0
     generalize hx0:List.getD L i (RT.dflt (.one (.int .i64)))=x0 at R0 hs hwx
     clear hx0
     have hx:=ZtB (b:=b) (w:=1) hlt (k:=.i64)
     simp only
     obtain⟨h2,s0,o0,R1⟩:=MS.st R0 hiL (off:=0) (by decide) (v:=(.int .i64 k0)) rfl rfl (y:=(k0:RT.D (.one (.int .i64)))) rfl hinj []
     replace s0:Zeb [] h1 1 (.ptr b (i*1)) (.int .i64 k0)=some (.undef,[],h2):=s0
     repeat' (first|(simp only[go_sem,reduceIte,reduceCtorEq,Nat.reduceAdd,Nat.reduceBEq,Int.reduceLT,Int.reduceLE,Int.reduceGT,Int.reduceGE,Int.reduceBEq,Int.reduceBNe,Nat.reduceEqDiff,Nat.reduceLeDiff,Nat.reduceLT,hn,hc,hw,hx,s0])|(refine ZdP rfl (fun hb=>?_) (fun hb=>?_)<;>simp only[hb,go_sem,reduceIte,reduceCtorEq,Nat.reduceAdd,Nat.reduceBEq,Int.reduceLT,Int.reduceLE,Int.reduceGT,Int.reduceGE,Int.reduceBEq,Int.reduceBNe,Nat.reduceEqDiff,Nat.reduceLeDiff,Nat.reduceLT,hn,hc,hw,hx,s0])|(refine Zfc rfl (fun hb=>?_) (fun hb=>?_)<;>simp only[hb,go_sem,reduceIte,reduceCtorEq,Nat.reduceAdd,Nat.reduceBEq,Int.reduceLT,Int.reduceLE,Int.reduceGT,Int.reduceGE,Int.reduceBEq,Int.reduceBNe,Nat.reduceEqDiff,Nat.reduceLeDiff,Nat.reduceLT,hn,hc,hw,hx,s0])|(refine Zbo rfl (fun hb=>?_) (fun hb=>?_)<;>simp only[hb,go_sem,reduceIte,reduceCtorEq,Nat.reduceAdd,Nat.reduceBEq,Int.reduceLT,Int.reduceLE,Int.reduceGT,Int.reduceGE,Int.reduceBEq,Int.reduceBNe,Nat.reduceEqDiff,Nat.reduceLeDiff,Nat.reduceLT,hn,hc,hw,hx,s0]))
     exact hnx _ hlt ⟨h2,by rw[hs];rfl,(Only.trans hO o0),by rw[hs];exact R1⟩
   · have hc:decide ((i:Int)<(l.length:Int))=false:=decide_eq_false (by omega)
     have hi':i=l.length:=by omega
     subst hi'
     repeat' (first|(simp only[go_sem,reduceIte,reduceCtorEq,Nat.reduceAdd,Nat.reduceBEq,Int.reduceLT,Int.reduceLE,Int.reduceGT,Int.reduceGE,Int.reduceBEq,Int.reduceBNe,Nat.reduceEqDiff,Nat.reduceLeDiff,Nat.reduceLT,hn,hc])|(refine ZdP rfl (fun hb=>?_) (fun hb=>?_)<;>simp only[hb,go_sem,reduceIte,reduceCtorEq,Nat.reduceAdd,Nat.reduceBEq,Int.reduceLT,Int.reduceLE,Int.reduceGT,Int.reduceGE,Int.reduceBEq,Int.reduceBNe,Nat.reduceEqDiff,Nat.reduceLeDiff,Nat.reduceLT,hn,hc])|(refine Zfc rfl (fun hb=>?_) (fun hb=>?_)<;>simp only[hb,go_sem,reduceIte,reduceCtorEq,Nat.reduceAdd,Nat.reduceBEq,Int.reduceLT,Int.reduceLE,Int.reduceGT,Int.reduceGE,Int.reduceBEq,Int.reduceBNe,Nat.reduceEqDiff,Nat.reduceLeDiff,Nat.reduceLT,hn,hc])|(refine Zbo rfl (fun hb=>?_) (fun hb=>?_)<;>simp only[hb,go_sem,reduceIte,reduceCtorEq,Nat.reduceAdd,Nat.reduceBEq,Int.reduceLT,Int.reduceLE,Int.reduceGT,Int.reduceGE,Int.reduceBEq,Int.reduceBNe,Nat.reduceEqDiff,Nat.reduceLeDiff,Nat.reduceLT,hn,hc]))
     have e:=Zhk (RT.mkI (.one (.int .i64))) l m
     rw[e] at hR ⊢
     exact hQ h1 hO hR
def ZoB:DCode:=
 (.seq [1,0] (.region [oi 0 4 0])
 (.seq [1] (.seq [5,1,0] (.region [oi 0 5 0])
 (.block 0 (.loop [0,1,5] 1 (.seq [5,1,0] (.seq [9,5,1,0] (.region [om 0 6 5,
 on 1 7 0,
 oa 2 8 (.len (.t 7)),
 oa 3 9 (.bin .lss (.t 6) (.t 8))])
  (.cond (.t 9) .skip (.exit 0)))
  (.seq [5,1,0] (.block 1 (.seq [5,1,0] (.seq [17,5,1,0] (.region [on 0 12 0,
 om 1 13 5,
 oa 2 14 (.indexA 1 (.t 12) (.t 13)),
 oa 3 15 (.loadH none (.t 14)),
 om 4 16 1,
 oa 5 17 (.bin .neq (.t 15) (.t 16))])
  (.cond (.t 17) (.seq [4] (.region [oi 0 4 (-1)])
  .ret) .skip))
  (.region [om 0 18 1,
 oa 1 19 (.bin .add (.t 18) (.c (.int .i64 1))),
 om 2 1 19])))
  (.region [om 0 10 5,
 oa 1 11 (.bin .add (.t 10) (.c (.int .i64 1))),
 om 2 5 11]))))))
  (.seq [4] (.region [om 0 20 1,
 om 1 4 20])
  .ret)))
def df_laws_heldIntS:DFun:=⟨2,21,0,true,[.tmp 4],ZoB⟩
@[irreducible] def ZdT:Zar:=Za5 df_laws_heldIntS.er.er
@[irreducible] def ZeR:ZfF:=ZaQ df_laws_heldIntS.er
theorem Zoy:Zbd ZdT ZeR:=by unfold ZdT ZeR;exact Zav (f:=df_laws_heldIntS.er) trivial
def ZfU:List HT:=[.one .frz (.sl (.one (.int .i64))),.one .frz (.int .i64)]
def Zgo:QT:=.one (.one .own (.int .i64))
@[irreducible] def ZaE(x:List (Int)×Int):Int:=(shut fun x=>fnV df_laws_heldIntS ZfU Zgo x).1 x
@[irreducible] def Zcv(x:List (Int)×Int):Prop:=(shut fun x=>ZhR df_laws_heldIntS ZfU Zgo x).1 x
def Zkx:ZhA:=ZbC ZfU Zgo Zcv ZaE
theorem Zoh:Zbp ZeR Zkx:=by unfold ZeR;exact Zaz (f:=df_laws_heldIntS) (hs:=ZfU) (q:=Zgo) trivial (by kernel_rfl) (fun x=>by kernel_rfl) (fun x h=>by unfold Zcv at h;exact Eq.mp (congrFun (shut _).2 x) h) (fun x=>by unfold ZaE;exact(congrFun (shut _).2 x).symm)
end
section
set_option maxRecDepth 100000
theorem Zoj (x):ZaE x=(bSel (iLt (ZaV (fun(x0:(Int×Int))=>(bAnd (iLt x0.2 (lLen x.1)) (bNot (iNe (lGet x.1 (iNat x0.2) 0) x0.1)))) (fun(x0:(Int×Int))=>((iAdd .i64 x0.1 1),(iAdd .i64 x0.2 1))) (x.2,0)).2 (lLen x.1)) (-1) (ZaV (fun(x0:(Int×Int))=>(bAnd (iLt x0.2 (lLen x.1)) (bNot (iNe (lGet x.1 (iNat x0.2) 0) x0.1)))) (fun(x0:(Int×Int))=>((iAdd .i64 x0.1 1),(iAdd .i64 x0.2 1))) (x.2,0)).1):=by unfold ZaE;exact(congrFun (shut _).2 x).trans (by kernel_rfl)
theorem Zn9 (x):Zcv x=(LoopOk (fun(x0:(Int×Int))=>(bAnd (iLt x0.2 (lLen x.1)) (bNot (iNe (lGet x.1 (iNat x0.2) 0) x0.1)))) (fun(x0:(Int×Int))=>((iAdd .i64 x0.1 1),(iAdd .i64 x0.2 1))) (fun(x0:(Int×Int))=>(((iLt x0.2 (lLen x.1))=true→((((0:Int)≤x0.2)∧(x0.2<(((List.length x.1):Int))))∧((iNat x0.2)<(List.length x.1))))∧((iLt x0.2 (lLen x.1))=false→True))) (x.2,0)):=by unfold Zcv;exact(congrFun (shut _).2 x).trans (by kernel_rfl)
end
theorem ZwQ(a:Int):iAdd .i64 a 1=IntKind.i64.wrap (a+1):=by simp only[ZAz]
theorem Zt4(k:IntKind)(a:Int):iConv k a=k.wrap a:=by simp only[ZBA]
theorem Zxd(a b:Int):iRem a b=a.tmod b:=by simp only[ZDu]
section
variable {α:Type} {f:α→Int→α×Int} {l:List α} {c:Nat} {m:Int}
def UpF(f:α→Int→α×Int)(l:List α)(c:Nat):Prop:=∀ a∈l,∀ m:Int,0≤m→m+c≤2305843009213693952→m≤(f a m).2∧(f a m).2≤m+c
theorem Ztu(hf:UpF f l c)(h0:0≤m)(h1:m+(l.length*c:Nat)≤2305843009213693952)(d:α):∀ i,i≤l.length→m≤(Zds f l m i).2∧(Zds f l m i).2≤m+(i*c:Nat):=by
 intro i
 induction i with
 |zero=>intro _;rw[ZjE];simp
 | succ i ih=>
   intro hi
   obtain⟨h2,h3⟩:=ih (by omega)
   rw[Zjt f l m (by omega) d]
   have hm:l.getD i d∈l:=ZgX l i d (by omega)
   have hmul:(i+1)*c≤l.length*c:=Nat.mul_le_mul_right _ (by omega)
   rw[Nat.add_mul,Nat.one_mul] at hmul ⊢
   obtain⟨h4,h5⟩:=hf _ hm (Zds f l m i).2 (by omega) (by omega)
   exact⟨by omega,by simp only;omega⟩
theorem ZwA(hf:UpF f l c)(h0:0≤m)(h1:m+(l.length*c:Nat)≤2305843009213693952):m≤(mkL f l m).2∧(mkL f l m).2≤m+(l.length*c:Nat):=by
 cases l with
 |nil=>simp[mkL]
 | cons a r=>
   have:=Ztu hf h0 h1 a (a::r).length (Nat.le_refl _)
   rw[Zhk] at this
   exact this
theorem ZwH(f:α→Int→α×Int)(l:List α)(m:Int){i:Nat}(hi:i<l.length)(d:α):(mkL f l m).1.getD i d=(f (l.getD i d) (Zds f l m i).2).1:=by
 have h1:=Zjt f l m hi d
 have h2:(Zds f l m (i+1)).1.getD i d=(f (l.getD i d) (Zds f l m i).2).1:=by
  rw[h1]
  simp only
  rw[List.getD_eq_getElem?_getD,List.getElem?_set_self (by rw[Zfr];exact hi)];rfl
 rw[← h2,← Zhk f l m]
 have:∀ k,i<k→k≤l.length→(Zds f l m k).1.getD i d=(Zds f l m (i+1)).1.getD i d:=by
  intro k
  induction k with
  |zero=>intro h;omega
  | succ k ih=>
    intro h h'
    by_cases hk:k=i
    · rw[hk]
    · rw[← ih (by omega) (by omega),Zjt f l m (by omega) d]
      simp only[List.getD_eq_getElem?_getD]
      rw[List.getElem?_set_ne hk]
 exact this _ hi (Nat.le_refl _)
theorem Zt7 {C:Int×Int→Bool} {F:Int×Int→Int×Int} {p:Int×Int→Prop} (hl:l.length≤1048576) (d:α)
 (hs:∀ i,i<l.length→p ((Zds f l m i).2,(i:Int))∧C ((Zds f l m i).2,(i:Int))=true∧F ((Zds f l m i).2,(i:Int))=((f (l.getD i d) (Zds f l m i).2).2,iAdd .i64 (i:Int) 1))
 (he:p ((mkL f l m).2,(l.length:Int))∧C ((mkL f l m).2,(l.length:Int))=false):LoopOk C F p (m,0)∧ZaV C F (m,0)=((mkL f l m).2,(l.length:Int)):=by
 have:=Zlr (p:=p) (c:=C) (f:=F) l.length (fun i=>((Zds f l m i).2,(i:Int))) (x0:=(m,0)) rfl (fun k hk=>by
  obtain⟨h1,h2,h3⟩:=hs k hk
  refine⟨h1,h2,?_⟩
  rw[h3,Zjt f l m hk d,Zby (by unfold Zo0;omega)]
  simp) (by rw[Zhk];exact he)
 simp only[Zhk] at this
 exact this
end
theorem ZwI{i n c:Nat}(h:i<n):i*c+c≤n*c:=by
 have:=Nat.mul_le_mul_right c (show i+1≤n from h)
 rw[Nat.add_mul,Nat.one_mul] at this
 exact this
theorem ZsM{n m c B:Nat}(h:n≤m)(e:m*c=B):n*c≤B:=e▸Nat.mul_le_mul_right c h
theorem ZoH{m:Int}(h0:0≤m)(h1:m≤2305843009213693960):IntKind.i64.wrap (m+1)=m+1:=ZA8 (by omega)
section
set_option maxRecDepth 20000
def ZgG(a:Int)(k:Int):(Int)×Int:=(k,(IntKind.i64.wrap (k+1)))
theorem ZAJ(x:List (Int))(h:Zvj x)(m:Int)(h0:0≤m)(h1:m+1048576≤2305843009213693952):Ze5 x∧(m≤(ZaX x m).2∧(ZaX x m).2≤m+1048576)∧Zcv ((ZaX x m).1,m)∧ZaE ((ZaX x m).1,m)=(ZaX x m).2:=by
 have hl:x.length≤1048576:=h
 have hU:UpF ZgG x 1:=by
  intro a ha k k0 k1
  have e0:IntKind.i64.wrap (k+1)=k+1:=ZoH (by omega) (by omega)
  have ee:(ZgG a k).2=(k+1):=by simp only[ZgG,e0]
  rw[ee]
  omega
 have hB:x.length*1≤1048576:=ZsM hl (by decide)
 have up:=ZwA (m:=m) hU h0 (by omega)
 have hmg:ZaX x m=mkL ZgG x m:=by unfold ZgG;rw[Zjw];rfl
 rw[hmg]
 have hL:=Zkw ZgG x m
 have hg:∀ i,i<x.length→(mkL ZgG x m).1.getD i 0=(ZgG (x.getD i 0) (Zds ZgG x m i).2).1:=fun i hi=>ZwH _ _ _ hi _
 have hok:Ze5 x:=by rw[Zm4];exact⟨Nat.le_trans h (by decide),fun a ha=>trivial⟩
 rw[Zn9,Zoj]
 dsimp only
 generalize (mkL ZgG x m).1=L at hL hg ⊢
 have key:LoopOk (fun(x0:(Int×Int))=>(bAnd (iLt x0.2 (lLen L)) (bNot (iNe (lGet L (iNat x0.2) 0) x0.1)))) (fun(x0:(Int×Int))=>((iAdd .i64 x0.1 1),(iAdd .i64 x0.2 1))) (fun(x0:(Int×Int))=>(((iLt x0.2 (lLen L))=true→((((0:Int)≤x0.2)∧(x0.2<(((List.length L):Int))))∧((iNat x0.2)<(List.length L))))∧((iLt x0.2 (lLen L))=false→True))) (m,0)∧ZaV (fun(x0:(Int×Int))=>(bAnd (iLt x0.2 (lLen L)) (bNot (iNe (lGet L (iNat x0.2) 0) x0.1)))) (fun(x0:(Int×Int))=>((iAdd .i64 x0.1 1),(iAdd .i64 x0.2 1))) (m,0)=((mkL ZgG x m).2,(x.length:Int)):=by
  refine Zt7 hl 0 (fun i hi=>?_) ?_
  · obtain⟨b1,b2⟩:=Ztu (m:=m) hU h0 (by omega) 0 i (by omega)
    have bm:i*1+1≤x.length*1:=ZwI hi
    have g:=hg i hi
    have hlt:(i:Int)<(L.length:Int):=by omega
    have hlN:i<L.length:=by omega
    have ha:=ZgX x i 0 hi
    generalize (Zds ZgG x m i).2=k at b1 b2 g ⊢
    generalize x.getD i 0=a at g ha ⊢
    have e0:IntKind.i64.wrap (k+1)=k+1:=ZoH (by omega) (by omega)
    simp only[ZbJ,ZaK,Zan,Int.toNat_natCast,ZwQ,Zt4,Zdz,ZaA,Zff,Zxd,ZaI,ZaC,Zjj,g,ZgG,e0]
    simp[hlt,hlN]
  · simp[ZaA,Zan,hL,ZaI]
 refine⟨hok,⟨up.1,by omega⟩,key.1,?_⟩
 simp only[key.2]
 simp[Zep,ZaA,Zan,hL]
end
theorem Zxl {X Y:Type} {c:X→Bool} {f:X→X} {p:X→Prop} {d:Y→Bool} {g:Y→Y} {q:Y→Prop} (R:X→Y→Prop) (m:X→Nat)
 (h:∀ x y,R x y→p x∧q y∧c x=d y∧(c x=true→R (f x) (g y)∧m (f x)<m x)) {x0:X} {y0:Y} (h0:R x0 y0) :
 LoopOk c f p x0∧LoopOk d g q y0∧R (ZaV c f x0) (ZaV d g y0)∧c (ZaV c f x0)=false:=by
 have go:∀ (n:Nat) (x:X) (y:Y),m x<n→R x y→∃ u v,LoopTo c f p x u∧LoopTo d g q y v∧R u v∧c u=false:=by
  intro n
  induction n with
  |zero=>intro x y hm;exact absurd hm (Nat.not_lt_zero _)
  | succ n ih=>
    intro x y hm hR
    obtain⟨h1,h2,h3,h4⟩:=h x y hR
    cases hc:c x with
    |false=>exact⟨x,y,.stop h1 hc,.stop h2 (by rw[← h3];exact hc),hR,hc⟩
    | true=>
      obtain⟨h5,h6⟩:=h4 hc
      obtain⟨u,v,a1,a2,a3,a4⟩:=ih _ _ (by omega) h5
      exact⟨u,v,.go h1 hc a1,.go h2 (by rw[← h3];exact hc) a2,a3,a4⟩
 obtain⟨u,v,a1,a2,a3,a4⟩:=go _ x0 y0 (Nat.lt_succ_self _) h0
 exact⟨⟨_,a1⟩,⟨_,a2⟩,by rw[a1.val,a2.val];exact a3,by rw[a1.val];exact a4⟩
theorem Ztb{X:Type}{c:X→Bool}{f:X→X}{p:X→Prop}(I:X→Prop)(m:X→Nat)(h:∀ x,I x→p x∧(c x=true→I (f x)∧m (f x)<m x)){x0:X}(h0:I x0) :
 LoopOk c f p x0∧I (ZaV c f x0)∧c (ZaV c f x0)=false:=Zlm I m h h0
theorem ZEg{X:Type}{c:X→Bool}{f:X→X}{p:X→Prop}(n:Nat)(st:Nat→X)(t:Nat→Bool){x0:X}(h0:st 0=x0)(hc:∀ i,i≤n→(∀ j,j<i→t j=true)→c (st i)=(decide (i<n)&&t i))(hf:∀ i,i<n→(∀ j,j≤i→t j=true)→f (st i)=st (i+1))(hp:∀ i,i≤n→(∀ j,j<i→t j=true)→p (st i)) :
 LoopOk c f p x0∧∃ k,k≤n∧ZaV c f x0=st k∧(k=n↔∀ i,i<n→t i=true):=by
 have hle:=ZgO (fun i=>!t i) n 0
 have hno:∀ j,j<Zcu (fun i=>!t i) n 0→t j=true:=fun j hj=>by
  have:=Zju (fun i=>!t i) n 0 j (by omega) hj
  simpa using this
 have:=Zlr (c:=c) (f:=f) (p:=p) (Zcu (fun i=>!t i) n 0) st h0 (fun k hk=>by
  refine⟨hp k (by omega) (fun j hj=>hno j (by omega)),?_,hf k (by omega) (fun j hj=>hno j (by omega))⟩
  rw[hc k (by omega) (fun j hj=>hno j (by omega)),hno k hk]
  have:k<n:=by omega
  simp[this]) ⟨hp _ (by omega) hno,by
  rw[hc _ (by omega) hno]
  by_cases h:Zcu (fun i=>!t i) n 0<n
  · have:=Zik (fun i=>!t i) n 0 (by omega)
    simp only[Bool.not_eq_true'] at this
    rw[this];simp
  · simp[h]⟩
 refine⟨this.1,_,by omega,this.2,?_⟩
 rw[firstAt_all]
 simp
theorem Ziy{α:Type}(x:List α)(d:α){i:Nat}(h:i<x.length):x.take i++[x.getD i d]=x.take (i+1):=by
 rw[List.take_add_one,List.getD_eq_getElem?_getD,List.getElem?_eq_getElem h];rfl
def Bytes(x:List Int):Prop:=∀ a∈x,0≤a∧a<256
theorem Bytes.get{x:List Int}(h:Bytes x)(i:Nat):∃ n:Nat,n<256∧x.getD i 0=(n:Int):=by
 by_cases hi:i<x.length
 · obtain⟨h0,h1⟩:=h _ (ZgX x i 0 hi)
   exact⟨(x.getD i 0).toNat,by omega,by omega⟩
 · exact⟨0,by omega,by rw[List.getD_eq_getElem?_getD,List.getElem?_eq_none (by omega)];rfl⟩
theorem Bytes.of{x:List Int}(h:CT.wf (.sl (.one (.int .u8))) x):Bytes x:=by
 intro a ha
 have:=h.2 a ha
 simp only[RT.wf,CT.wf] at this
 have h:IntKind.u8.min≤a∧a≤IntKind.u8.max:=by simpa [Lit.wf] using this
 have e1:IntKind.u8.min=0:=by decide
 have e2:IntKind.u8.max=255:=by decide
 rw[e1,e2] at h
 omega
theorem ZsB{α:Type}(x:List α)(d:α){i:Nat}(h:i<x.length):x.getD i d=x[i]:=by
 rw[List.getD_eq_getElem?_getD,List.getElem?_eq_getElem h];rfl
abbrev HdX:=List (Int×Int×Int×Int×Int)
section
set_option maxRecDepth 8000
def ZoK:DCode:=
 (.seq [2,0] (.region [oa 0 2 (.allocB 0 [(.int .i64 0),.nils])])
 (.seq [3,2,0] (.region [⟨0,some 7,.a false (.litSlice 1 0 [] []) (some (.one (.int .i64))),none,[]⟩,
 oa 1 8 (.build [(.int .i64 0),.nils] [(1,1,(.t 7))]),
 oa 2 3 (.allocB 1 [(.int .i64 0),.nils]),
 os 3 (.storeB 1 2 (.t 3) (.t 8))])
  (.seq [3,2,0] (.seq [11,3,2,0] (.region [on 0 9 0,
 oc 1 10 Zdj Ze0 Zj2 [(.t 9)],
 oa 2 11 (.un .not (.t 10))])
  (.cond (.t 11) (.seq [2] (.region [ob 0 12 (.loadB 1 (some 2) (.t 3)),
 os 1 (.storeB 0 2 (.t 2) (.t 12))])
  .ret) .skip))
  (.seq [3,2,0] (.seq [4,3,2,0] (.region [oi 0 4 0])
  (.block 0 (.loop [0,2,3,4] 1 (.seq [4,3,2,0] (.seq [16,4,3,2,0] (.region [om 0 13 4,
 on 1 14 0,
 oa 2 15 (.len (.t 14)),
 oa 3 16 (.bin .lss (.t 13) (.t 15))])
  (.cond (.t 16) .skip (.exit 0)))
  (.seq [4,3,2,0] (.block 1 (.seq [34,4,3,2,0] (.region [on 0 19 0,
 om 1 20 4,
 oa 2 21 (.indexA 5 (.t 19) (.t 20)),
 oa 3 22 (.fieldA 1 (.t 21)),
 oa 4 23 (.fieldA 0 (.t 22)),
 oa 5 24 (.loadH none (.t 23)),
 oa 6 25 (.bin .eql (.t 24) (.c (.int .i64 2))),
 om 7 26 25,
 ⟨8,some 27,.a true (.mv (.t 0)) none,(some (26,false)),[]⟩,
 og 9 28 (.mv (.t 4)) 26 false,
 og 10 29 (.indexA 5 (.t 27) (.t 28)) 26 false,
 og 11 30 (.fieldA 1 (.t 29)) 26 false,
 og 12 31 (.fieldA 0 (.t 30)) 26 false,
 og 13 32 (.loadH none (.t 31)) 26 false,
 og 14 33 (.bin .eql (.t 32) (.c (.int .i64 8))) 26 false,
 oa 15 34 (.pick (.t 26) (.c (.bool true)) (.t 33))])
  (.cond (.t 34) (.region [oa 0 35 (.fieldA 0 (.t 3)),
 xA 1 36 (.loadB 1 none (.t 35)) (rg 1),
 on 2 37 0,
 om 3 38 4,
 xA 4 39 (.indexA 5 (.t 37) (.t 38)) [2,3],
 xA 5 40 (.fieldA 1 (.t 39)) [2,3,4],
 xA 6 41 (.fieldA 2 (.t 40)) [2,3,4,5],
 xA 7 42 (.loadH none (.t 41)) [2,3,4,5,6],
 xA 8 43 (.bin .or (.t 36) (.t 42)) (rg 8),
 xA 9 44 (.fieldA 0 (.t 3)) (rg 9),
 xS 10 (.storeB 1 1 (.t 44) (.t 43)) (rg 10)]) .skip)))
  (.region [om 0 17 4,
 oa 1 18 (.bin .add (.t 17) (.c (.int .i64 1))),
 om 2 4 18]))))))
  (.seq [3,2] (.seq [5,3,2,0] (.region [oi 0 5 1])
  (.block 2 (.loop [0,2,3,5] 1 (.seq [5,3,2,0] (.seq [46,5,3,2,0] (.region [om 0 45 5,
 oa 1 46 (.bin .leq (.t 45) (.c (.int .i64 56)))])
  (.cond (.t 46) .skip (.exit 2)))
  (.seq [5,3,2,0] (.block 3 (.seq [6,5,3,2,0] (.region [oi 0 6 0])
  (.block 4 (.loop [0,2,3,5,6] 1 (.seq [6,5,3,2,0] (.seq [52,6,5,3,2,0] (.region [om 0 49 6,
 on 1 50 0,
 oa 2 51 (.len (.t 50)),
 oa 3 52 (.bin .lss (.t 49) (.t 51))])
  (.cond (.t 52) .skip (.exit 4)))
  (.seq [6,5,3,2,0] (.block 5 (.seq [62,6,5,3,2,0] (.region [on 0 55 0,
 om 1 56 6,
 oa 2 57 (.indexA 5 (.t 55) (.t 56)),
 oa 3 58 (.fieldA 1 (.t 57)),
 oa 4 59 (.fieldA 1 (.t 58)),
 oa 5 60 (.loadH none (.t 59)),
 om 6 61 5,
 oa 7 62 (.bin .eql (.t 60) (.t 61))])
  (.cond (.t 62) (.seq [5,3,2,0] (.region [oa 0 63 (.fieldA 1 (.t 3)),
 ob 1 64 (.loadB 1 none (.t 63)),
 om 2 65 5,
 ⟨3,some 66,.a false (.litSlice 1 1 [(.int .i64 0)] [(0,1,(.t 65))]) (some (.one (.int .i64))),none,[]⟩,
 oa 4 67 (.app 1 (.t 64) (.t 66)),
 oa 5 68 (.fieldA 1 (.t 3)),
 os 6 (.storeB 1 1 (.t 68) (.t 67))])
  (.exit 4)) .skip)))
  (.region [om 0 53 6,
 oa 1 54 (.bin .add (.t 53) (.c (.int .i64 1))),
 om 2 6 54])))))))
  (.region [om 0 47 5,
 oa 1 48 (.bin .add (.t 47) (.c (.int .i64 1))),
 om 2 5 48]))))))
  (.seq [2] (.region [ob 0 69 (.loadB 1 (some 2) (.t 3)),
 os 1 (.storeB 0 2 (.t 2) (.t 69))])
  .ret))))))
def df_spec_ReportOf:DFun:=⟨1,70,2,false,[.cell 2 (some 2)],ZoK⟩
@[irreducible] def ZdK:Zar:=Za5 df_spec_ReportOf.er.er
@[irreducible] def ZeN:ZfF:=ZaQ df_spec_ReportOf.er
theorem ZoP:Zbd ZdK ZeN:=by unfold ZdK ZeN;exact Zav (f:=df_spec_ReportOf.er) ⟨Zl3,trivial⟩
def Zgt:List HT:=[.one .frz (.sl rI5)]
def Zgs:QT:=.one (.agg [(.own,.int .i64),(.own,.sl (.one (.int .i64)))])
@[irreducible] def ZaU(x:List (Int×Int×Int×Int×Int)):Int×List (Int):=(shut fun x=>fnV df_spec_ReportOf Zgt Zgs x).1 x
@[irreducible] def Zc5(x:List (Int×Int×Int×Int×Int)):Prop:=(shut fun x=>ZhR df_spec_ReportOf Zgt Zgs x).1 x
def ZkG:ZhA:=ZbC Zgt Zgs Zc5 ZaU
theorem Zoz:Zbp ZeN ZkG:=by unfold ZeN;exact Zaz (f:=df_spec_ReportOf) (hs:=Zgt) (q:=Zgs) ⟨ZlJ,trivial⟩ (by kernel_rfl) (fun x=>by kernel_rfl) (fun x h=>by unfold Zc5 at h;exact Eq.mp (congrFun (shut _).2 x) h) (fun x=>by unfold ZaU;exact(congrFun (shut _).2 x).symm)
def Zof:DCode:=
 (.seq [0] (.region [oa 0 2 (.mv (.c .nils))])
 (.seq [2] (.region [on 0 3 0,
 oa 1 4 (.app 1 (.c .nils) (.t 3)),
 om 2 2 4])
  .ret))
def df_impl_copyInts:DFun:=⟨1,5,0,false,[.tmp 2],Zof⟩
@[irreducible] def Zci:Zar:=Za5 df_impl_copyInts.er.er
@[irreducible] def ZdH:ZfF:=ZaQ df_impl_copyInts.er
theorem Zkg:Zbd Zci ZdH:=by unfold Zci ZdH;exact Zav (f:=df_impl_copyInts.er) trivial
def Zgz:List HT:=[.one .frz (.sl (.one (.int .i64)))]
def Zgc:QT:=.one (.one .own (.sl (.one (.int .i64))))
@[irreducible] def Zas(x:List (Int)):List (Int):=(shut fun x=>fnV df_impl_copyInts Zgz Zgc x).1 x
@[irreducible] def Zcw(x:List (Int)):Prop:=(shut fun x=>ZhR df_impl_copyInts Zgz Zgc x).1 x
def Ziz:ZhA:=ZbC Zgz Zgc Zcw Zas
theorem Zkd:Zbp ZdH Ziz:=by unfold ZdH;exact Zaz (f:=df_impl_copyInts) (hs:=Zgz) (q:=Zgc) trivial (by kernel_rfl) (fun x=>by kernel_rfl) (fun x h=>by unfold Zcw at h;exact Eq.mp (congrFun (shut _).2 x) h) (fun x=>by unfold Zas;exact(congrFun (shut _).2 x).symm)
def ZrA:DCode:=
 (.seq [1,0] (.region [oa 0 4 (.mv (.c (.bool false)))])
 (.seq [] (.seq [9,8,7,1] (.region [on 0 7 0,
 oa 1 8 (.len (.t 7)),
 oi 2 9 0])
  (.block 0 (.loop [1,7,8,9] 1 (.seq [10,9,8,7,1] (.region [oa 0 10 (.bin .lss (.t 9) (.t 8))])
  (.seq [9,8,7,1] (.cond (.t 10) .skip (.exit 0))
  (.seq [9,8,7,1] (.block 1 (.seq [9,8,7,6,1] (.region [oa 0 11 (.indexA 1 (.t 7) (.t 9)),
 oa 1 12 (.loadH none (.t 11)),
 om 2 6 12])
  (.seq [15,9,8,7,1] (.region [om 0 13 6,
 om 1 14 1,
 oa 2 15 (.bin .eql (.t 13) (.t 14))])
  (.cond (.t 15) (.seq [4] (.region [oa 0 4 (.mv (.c (.bool true)))])
  .ret) .skip))))
  (.region [oa 0 16 (.bin .add (.t 9) (.c (.int .i64 1))),
 om 1 9 16])))))))
  (.seq [4] (.region [oa 0 4 (.mv (.c (.bool false)))])
  .ret)))
def df_impl_hasInt:DFun:=⟨2,17,0,true,[.tmp 4],ZrA⟩
@[irreducible] def ZeS:Zar:=Za5 df_impl_hasInt.er.er
@[irreducible] def Zf3:ZfF:=ZaQ df_impl_hasInt.er
theorem Zq6:Zbd ZeS Zf3:=by unfold ZeS Zf3;exact Zav (f:=df_impl_hasInt.er) trivial
def Zh9:List HT:=[.one .frz (.sl (.one (.int .i64))),.one .frz (.int .i64)]
def ZhX:QT:=.one (.one .own (.bool))
@[irreducible] def Zde(x:List (Int)×Int):Bool:=(shut fun x=>fnV df_impl_hasInt Zh9 ZhX x).1 x
@[irreducible] def Zel(x:List (Int)×Int):Prop:=(shut fun x=>ZhR df_impl_hasInt Zh9 ZhX x).1 x
def Zmz:ZhA:=ZbC Zh9 ZhX Zel Zde
theorem ZrK:Zbp Zf3 Zmz:=by unfold Zf3;exact Zaz (f:=df_impl_hasInt) (hs:=Zh9) (q:=ZhX) trivial (by kernel_rfl) (fun x=>by kernel_rfl) (fun x h=>by unfold Zel at h;exact Eq.mp (congrFun (shut _).2 x) h) (fun x=>by unfold Zde;exact(congrFun (shut _).2 x).symm)
def Zpy:DCode:=
 (.seq [0] (.region [oa 0 2 (.mv (.c .nils))])
 (.seq [3] (.region [on 0 7 0,
 oc 1 8 Zci ZdH Ziz [(.t 7)],
 om 2 3 8])
  (.seq [3] (.region [on 0 9 3,
 ⟨1,some 10,.mark ZfG Zmg (.t 9) (.c (.int .i64 0)),none,[]⟩])
  (.seq [4,3] (.region [oa 0 4 (.mv (.c .nils))])
  (.seq [4] (.seq [13,12,11,4] (.region [on 0 11 3,
 oa 1 12 (.len (.t 11)),
 oi 2 13 0])
  (.block 0 (.loop [4,11,12,13] 1 (.seq [14,13,12,11,4] (.region [oa 0 14 (.bin .lss (.t 13) (.t 12))])
  (.seq [13,12,11,4] (.cond (.t 14) .skip (.exit 0))
  (.seq [13,12,11,4] (.block 1 (.seq [13,12,11,6,4] (.region [oa 0 15 (.indexA 1 (.t 11) (.t 13)),
 ob 1 16 (.loadH none (.t 15)),
 om 2 6 16])
  (.seq [24,13,12,11,6,4] (.region [om 0 17 6,
 oa 1 18 (.bin .neq (.t 17) (.c (.int .i64 0))),
 om 2 19 18,
 ⟨3,some 20,.a true (.mv (.t 4)) none,(some (19,true)),[]⟩,
 og 4 21 (.mv (.t 6)) 19 true,
 ⟨5,some 22,.call false ZeS Zf3 Zmz [(.t 20),(.t 21)],(some (19,true)),[]⟩,
 og 6 23 (.un .not (.t 22)) 19 true,
 oa 7 24 (.pick (.t 19) (.t 23) (.c (.bool false)))])
  (.cond (.t 24) (.region [om 0 25 4,
 om 1 26 6,
 ⟨2,some 27,.a false (.litSlice 1 1 [(.int .i64 0)] [(0,1,(.t 26))]) (some (.one (.int .i64))),none,[]⟩,
 oa 3 28 (.app 1 (.t 25) (.t 27)),
 om 4 4 28]) .skip))))
  (.region [oa 0 29 (.bin .add (.t 13) (.c (.int .i64 1))),
 om 1 13 29])))))))
  (.seq [2] (.region [om 0 30 4,
 om 1 2 30])
  .ret))))))
def df_impl_codesOf:DFun:=⟨1,31,0,false,[.tmp 2],Zpy⟩
@[irreducible] def ZcN:Zar:=Za5 df_impl_codesOf.er.er
@[irreducible] def Zej:ZfF:=ZaQ df_impl_codesOf.er
theorem ZkW:Zbd ZcN Zej:=by unfold ZcN Zej;exact Zav (f:=df_impl_codesOf.er) ⟨Zkg,Zsx,Zq6,trivial⟩
def ZgW:List HT:=[.one .frz (.sl (.one (.int .i64)))]
def Zg8:QT:=.one (.one .own (.sl (.one (.int .i64))))
@[irreducible] def ZbO(x:List (Int)):List (Int):=(shut fun x=>fnV df_impl_codesOf ZgW Zg8 x).1 x
@[irreducible] def ZcS(x:List (Int)):Prop:=(shut fun x=>ZhR df_impl_codesOf ZgW Zg8 x).1 x
def Zjp:ZhA:=ZbC ZgW Zg8 ZcS ZbO
theorem ZkD:Zbp Zej Zjp:=by unfold Zej;exact Zaz (f:=df_impl_codesOf) (hs:=ZgW) (q:=Zg8) ⟨Zkd,ZrK,trivial⟩ (by kernel_rfl) (fun x=>by kernel_rfl) (fun x h=>by unfold ZcS at h;exact Eq.mp (congrFun (shut _).2 x) h) (fun x=>by unfold ZbO;exact(congrFun (shut _).2 x).symm)
def ZoM:DCode:=
 (.seq [2,0] (.region [oa 0 2 (.allocB 0 [(.int .i64 0),.nils])])
 (.seq [2,0] (.seq [9,2,0] (.region [on 0 7 0,
 oc 1 8 Zdh ZeX ZjZ [(.t 7)],
 oa 2 9 (.un .not (.t 8))])
  (.cond (.t 9) (.seq [2] (.region [oa 0 10 (.build [(.int .i64 0),.nils] []),
 os 1 (.storeB 0 2 (.t 2) (.t 10))])
  .ret) .skip))
  (.seq [3,2,0] (.region [oa 0 3 (.allocB 1 [(.int .i64 0),.nils])])
  (.seq [4,3,2,0] (.region [oa 0 4 (.mv (.c .nils))])
  (.seq [4,3,2] (.seq [13,12,11,4,3,2] (.region [on 0 11 0,
 oa 1 12 (.len (.t 11)),
 oi 2 13 0])
  (.block 0 (.loop [2,3,4,11,12,13] 1 (.seq [14,13,12,11,4,3,2] (.region [oa 0 14 (.bin .lss (.t 13) (.t 12))])
  (.seq [13,12,11,4,3,2] (.cond (.t 14) .skip (.exit 0))
  (.seq [13,12,11,4,3,2] (.block 1 (.seq [13,12,11,6,4,3,2] (.region [oa 0 15 (.indexA 5 (.t 11) (.t 13)),
 ob 1 16 (.loadH (some 5) (.t 15)),
 oa 2 6 (.allocB 2 [(.int .i64 0),(.int .i64 0),(.int .i64 0),(.int .i64 0),(.int .i64 0)]),
 os 3 (.storeB 2 5 (.t 6) (.t 16))])
  (.seq [13,12,11,6,4,3,2] (.seq [26,13,12,11,6,4,3,2] (.region [oa 0 17 (.fieldA 1 (.t 6)),
 oa 1 18 (.fieldA 0 (.t 17)),
 oa 2 19 (.loadB 2 none (.t 18)),
 oa 3 20 (.bin .eql (.t 19) (.c (.int .i64 2))),
 om 4 21 20,
 og 5 22 (.fieldA 1 (.t 6)) 21 false,
 og 6 23 (.fieldA 0 (.t 22)) 21 false,
 og 7 24 (.loadB 2 none (.t 23)) 21 false,
 og 8 25 (.bin .eql (.t 24) (.c (.int .i64 8))) 21 false,
 oa 9 26 (.pick (.t 21) (.c (.bool true)) (.t 25))])
  (.cond (.t 26) (.region [oa 0 27 (.fieldA 0 (.t 3)),
 oa 1 28 (.loadB 1 none (.t 27)),
 oa 2 29 (.fieldA 1 (.t 6)),
 oa 3 30 (.fieldA 2 (.t 29)),
 oa 4 31 (.loadB 2 none (.t 30)),
 oa 5 32 (.bin .or (.t 28) (.t 31)),
 oa 6 33 (.fieldA 0 (.t 3)),
 os 7 (.storeB 1 1 (.t 33) (.t 32))]) .skip))
  (.region [om 0 34 4,
 oa 1 35 (.fieldA 1 (.t 6)),
 oa 2 36 (.fieldA 1 (.t 35)),
 ob 3 37 (.loadB 2 none (.t 36)),
 ⟨4,some 38,.a false (.litSlice 1 1 [(.int .i64 0)] [(0,1,(.t 37))]) (some (.one (.int .i64))),none,[]⟩,
 oa 5 39 (.app 1 (.t 34) (.t 38)),
 om 6 4 39]))))
  (.region [oa 0 40 (.bin .add (.t 13) (.c (.int .i64 1))),
 om 1 13 40])))))))
  (.seq [3,2] (.region [on 0 41 4,
 oc 1 42 ZcN Zej Zjp [(.t 41)],
 oa 2 43 (.fieldA 1 (.t 3)),
 os 3 (.storeB 1 1 (.t 43) (.t 42))])
  (.seq [2] (.region [ob 0 44 (.loadB 1 (some 2) (.t 3)),
 os 1 (.storeB 0 2 (.t 2) (.t 44))])
  .ret)))))))
def df_impl_ReportOf:DFun:=⟨1,45,3,false,[.cell 2 (some 2)],ZoM⟩
@[irreducible] def ZdM:Zar:=Za5 df_impl_ReportOf.er.er
@[irreducible] def ZeH:ZfF:=ZaQ df_impl_ReportOf.er
theorem Zol:Zbd ZdM ZeH:=by unfold ZdM ZeH;exact Zav (f:=df_impl_ReportOf.er) ⟨ZlN,ZkW,trivial⟩
def ZfZ:List HT:=[.one .frz (.sl rI5)]
def Zgl:QT:=.one (.agg [(.own,.int .i64),(.own,.sl (.one (.int .i64)))])
@[irreducible] def Zai(x:List (Int×Int×Int×Int×Int)):Int×List (Int):=(shut fun x=>fnV df_impl_ReportOf ZfZ Zgl x).1 x
@[irreducible] def Zc8(x:List (Int×Int×Int×Int×Int)):Prop:=(shut fun x=>ZhR df_impl_ReportOf ZfZ Zgl x).1 x
def ZkF:ZhA:=ZbC ZfZ Zgl Zc8 Zai
theorem ZoG:Zbp ZeH ZkF:=by unfold ZeH;exact Zaz (f:=df_impl_ReportOf) (hs:=ZfZ) (q:=Zgl) ⟨ZlX,ZkD,trivial⟩ (by kernel_rfl) (fun x=>by kernel_rfl) (fun x h=>by unfold Zc8 at h;exact Eq.mp (congrFun (shut _).2 x) h) (fun x=>by unfold Zai;exact(congrFun (shut _).2 x).symm)
end
section
set_option maxRecDepth 100000
def ZbV(x:List (Int×Int×Int×Int×Int))(x0:(Int×Int)):Bool:=(iLt x0.1 (lLen x))
def Zcm(x:List (Int×Int×Int×Int×Int))(x0:(Int×Int)):(Int×Int):=((iAdd .i64 x0.1 1),(bSel (bOr (iEq (lGet x (iNat x0.1) (0,0,0,0,0)).2.1 2) (iEq (lGet x (iNat x0.1) (0,0,0,0,0)).2.1 8)) (iOr .i64 x0.2 (lGet x (iNat x0.1) (0,0,0,0,0)).2.2.2.1) x0.2))
def Zbb(x0:(Int×(List Int))):Bool:=(iLe x0.1 56)
def Zco(x:List (Int×Int×Int×Int×Int))(x0:(Int×(List Int)))(x1:Int):Bool:=(bAnd (iLt x1 (lLen x)) (bNot (iEq (lGet x (iNat x1) (0,0,0,0,0)).2.2.1 x0.1)))
def Zdd(x1:Int):Int:=(iAdd .i64 x1 1)
def ZbA(x:List (Int×Int×Int×Int×Int))(x0:(Int×(List Int))):(Int×(List Int)):=((iAdd .i64 x0.1 1),(bSel (iLt (ZaV (Zco x x0) Zdd 0) (lLen x)) (lApp x0.2 [x0.1]) x0.2))
def ZeC(x:List (Int×Int×Int×Int×Int))(x0:(Int×Int)):Prop:=(((iLt x0.1 (lLen x))=true→(((((0:Int)≤x0.1)∧(x0.1<(((List.length x):Int))))∧(((iNat x0.1)<(List.length x))∧(((iEq (lGet x (iNat x0.1) (0,0,0,0,0)).2.1 2)=true→True)∧((iEq (lGet x (iNat x0.1) (0,0,0,0,0)).2.1 2)=false→((((0:Int)≤x0.1)∧(x0.1<(((List.length x):Int))))∧((iNat x0.1)<(List.length x)))))))∧(((bOr (iEq (lGet x (iNat x0.1) (0,0,0,0,0)).2.1 2) (iEq (lGet x (iNat x0.1) (0,0,0,0,0)).2.1 8))=true→((((0:Int)≤x0.1)∧(x0.1<(((List.length x):Int))))∧((iNat x0.1)<(List.length x))))∧((bOr (iEq (lGet x (iNat x0.1) (0,0,0,0,0)).2.1 2) (iEq (lGet x (iNat x0.1) (0,0,0,0,0)).2.1 8))=false→True))))∧((iLt x0.1 (lLen x))=false→True))
def ZeA(x:List (Int×Int×Int×Int×Int))(x0:(Int×(List Int)))(x1:Int):Prop:=(((iLt x1 (lLen x))=true→((((0:Int)≤x1)∧(x1<(((List.length x):Int))))∧(((iNat x1)<(List.length x))∧(((iEq (lGet x (iNat x1) (0,0,0,0,0)).2.2.1 x0.1)=true→(Zbu (((List.length x0.2)+(List.length [x0.1]))*1)))∧((iEq (lGet x (iNat x1) (0,0,0,0,0)).2.2.1 x0.1)=false→True)))))∧((iLt x1 (lLen x))=false→True))
def Zgu(x:List (Int×Int×Int×Int×Int))(x0:(Int×(List Int))):Prop:=(((iLe x0.1 56)=true→(LoopOk (Zco x x0) Zdd (ZeA x x0) 0))∧((iLe x0.1 56)=false→True))
theorem Zkh (x):ZaU x=(bSel (bNot (Zbn x)) (0,[]) ((ZaV (ZbV x) (Zcm x) (0,0)).2,(ZaV Zbb (ZbA x) (1,[])).2)):=by unfold ZaU;exact(congrFun (shut _).2 x).trans (by kernel_rfl)
theorem Zor (x):Zc5 x=((Zdy x)∧(((bNot (Zbn x))=true→True)∧((bNot (Zbn x))=false→((LoopOk (ZbV x) (Zcm x) (ZeC x) (0,0))∧(LoopOk Zbb (ZbA x) (Zgu x) (1,[])))))):=by unfold Zc5;exact(congrFun (shut _).2 x).trans (by kernel_rfl)
theorem ZfA (x):Zas x=x:=by unfold Zas;exact(congrFun (shut _).2 x).trans (by kernel_rfl)
theorem Zkf (x):Zcw x=(Zbu ((List.length x)*1)):=by unfold Zcw;exact(congrFun (shut _).2 x).trans (by kernel_rfl)
def ZfD(x:List (Int)×Int)(x0:Int):Bool:=(bAnd (iLt x0 (lLen x.1)) (bNot (iEq (lGet x.1 (iNat x0) 0) x.2)))
def Zhz(x0:Int):Int:=(iAdd .i64 x0 1)
def Zhv(x:List (Int)×Int)(x0:Int):Prop:=(((iLt x0 (lLen x.1))=true→((((0:Int)≤x0)∧(x0<(((List.length x.1):Int))))∧((iNat x0)<(List.length x.1))))∧((iLt x0 (lLen x.1))=false→True))
theorem ZrQ (x):Zde x=(iLt (ZaV (ZfD x) Zhz 0) (lLen x.1)):=by unfold Zde;exact(congrFun (shut _).2 x).trans (by kernel_rfl)
theorem Zrr (x):Zel x=(LoopOk (ZfD x) Zhz (Zhv x) 0):=by unfold Zel;exact(congrFun (shut _).2 x).trans (by kernel_rfl)
def ZdI(x:List (Int))(x0:((List Int)×Int)):Bool:=(iLt x0.2 (lLen (ZaP (Zas x) 0).1))
def ZeT(x:List (Int))(x0:((List Int)×Int)):((List Int)×Int):=((bSel (bAnd (iNe (lGet (ZaP (Zas x) 0).1 (iNat x0.2) 0) 0) (bNot (Zde (x0.1,(lGet (ZaP (Zas x) 0).1 (iNat x0.2) 0))))) (lApp x0.1 [(lGet (ZaP (Zas x) 0).1 (iNat x0.2) 0)]) x0.1),(iAdd .i64 x0.2 1))
def ZgN(x:List (Int))(x0:((List Int)×Int)):Prop:=(((iLt x0.2 (lLen (ZaP (Zas x) 0).1))=true→((((0:Int)≤x0.2)∧(x0.2<(((List.length (ZaP (Zas x) 0).1):Int))))∧(((iNat x0.2)<(List.length (ZaP (Zas x) 0).1))∧((((iNe (lGet (ZaP (Zas x) 0).1 (iNat x0.2) 0) 0)=true→(Zel (x0.1,(lGet (ZaP (Zas x) 0).1 (iNat x0.2) 0))))∧((iNe (lGet (ZaP (Zas x) 0).1 (iNat x0.2) 0) 0)=false→True))∧(((bAnd (iNe (lGet (ZaP (Zas x) 0).1 (iNat x0.2) 0) 0) (bNot (Zde (x0.1,(lGet (ZaP (Zas x) 0).1 (iNat x0.2) 0)))))=true→(Zbu (((List.length x0.1)+(List.length [(lGet (ZaP (Zas x) 0).1 (iNat x0.2) 0)]))*1)))∧((bAnd (iNe (lGet (ZaP (Zas x) 0).1 (iNat x0.2) 0) 0) (bNot (Zde (x0.1,(lGet (ZaP (Zas x) 0).1 (iNat x0.2) 0)))))=false→True))))))∧((iLt x0.2 (lLen (ZaP (Zas x) 0).1))=false→True))
theorem Zpw (x):ZbO x=(ZaV (ZdI x) (ZeT x) ([],0)).1:=by unfold ZbO;exact(congrFun (shut _).2 x).trans (by kernel_rfl)
theorem Zpr (x):ZcS x=((Zcw x)∧((((List.length (Zas x))=(List.length (Zas x)))∧(DMk.ok (DMk.mk (RT.one (CT.sl (RT.one (CT.int IntKind.i64)))) false ZhW ZaP true) (Zas x)))∧(LoopOk (ZdI x) (ZeT x) (ZgN x) ([],0)))):=by unfold ZcS;exact(congrFun (shut _).2 x).trans (by kernel_rfl)
def Za9(x:List (Int×Int×Int×Int×Int))(x0:((List Int)×(Int×Int))):Bool:=(iLt x0.2.1 (lLen x))
def Zba(x:List (Int×Int×Int×Int×Int))(x0:((List Int)×(Int×Int))):((List Int)×(Int×Int)):=((lApp x0.1 [(lGet x (iNat x0.2.1) (0,0,0,0,0)).2.2.1]),(iAdd .i64 x0.2.1 1),(bSel (bOr (iEq (lGet x (iNat x0.2.1) (0,0,0,0,0)).2.1 2) (iEq (lGet x (iNat x0.2.1) (0,0,0,0,0)).2.1 8)) (iOr .i64 x0.2.2 (lGet x (iNat x0.2.1) (0,0,0,0,0)).2.2.2.1) x0.2.2))
def Zew(x:List (Int×Int×Int×Int×Int))(x0:((List Int)×(Int×Int))):Prop:=(((iLt x0.2.1 (lLen x))=true→((((0:Int)≤x0.2.1)∧(x0.2.1<(((List.length x):Int))))∧(((iNat x0.2.1)<(List.length x))∧(Zbu (((List.length x0.1)+(List.length [(lGet x (iNat x0.2.1) (0,0,0,0,0)).2.2.1]))*1)))))∧((iLt x0.2.1 (lLen x))=false→True))
theorem Zog (x):Zai x=(bSel (bNot (ZaH x)) (0,[]) ((ZaV (Za9 x) (Zba x) ([],0,0)).2.2,(ZbO (ZaV (Za9 x) (Zba x) ([],0,0)).1))):=by unfold Zai;exact(congrFun (shut _).2 x).trans (by kernel_rfl)
theorem Zom (x):Zc8 x=((Zdw x)∧(((bNot (ZaH x))=true→True)∧((bNot (ZaH x))=false→((LoopOk (Za9 x) (Zba x) (Zew x) ([],0,0))∧(ZcS (ZaV (Za9 x) (Zba x) ([],0,0)).1))))):=by unfold Zc8;exact(congrFun (shut _).2 x).trans (by kernel_rfl)
end
theorem ZzI{a b:List Int}(ha:a.Pairwise (· < ·))(hb:b.Pairwise (· < ·))(h:∀ x,x∈a↔x∈b):a=b:=by
 induction a generalizing b with
 | nil=>
   cases b with
   |nil=>rfl
   |cons y b=>exact absurd ((h y).2 List.mem_cons_self) List.not_mem_nil
 | cons x a ih=>
   cases b with
   |nil=>exact absurd ((h x).1 List.mem_cons_self) List.not_mem_nil
   | cons y b=>
     obtain⟨a1,a2⟩:=List.pairwise_cons.1 ha
     obtain⟨b1,b2⟩:=List.pairwise_cons.1 hb
     have e:x=y:=by
      rcases List.mem_cons.1 ((h x).1 List.mem_cons_self) with e|e
      · exact e
      · rcases List.mem_cons.1 ((h y).2 List.mem_cons_self) with g|g
        · exact g.symm
        · have:=a1 _ g;have:=b1 _ e;omega
     subst e
     congr 1
     refine ih a2 b2 fun z=>⟨fun hz=>?_,fun hz=>?_⟩
     · rcases List.mem_cons.1 ((h z).1 (List.mem_cons_of_mem _ hz)) with e|e
       · subst e;have:=a1 _ hz;omega
       · exact e
     · rcases List.mem_cons.1 ((h z).2 (List.mem_cons_of_mem _ hz)) with e|e
       · subst e;have:=b1 _ hz;omega
       · exact e
theorem Zy1 {α:Type} {c:Int→Bool} {f:Int→Int} {p:Int→Prop} (x:List α) (d:α) (q:α→Bool) (hl:x.length≤1048576)
 (hc:∀ i:Nat,i≤x.length→c (i:Int)=(decide (i<x.length)&&!q (x.getD i d))) (hf:∀ i:Nat,i<x.length→f (i:Int)=iAdd .i64 (i:Int) 1) (hp:∀ i:Nat,i≤x.length→p (i:Int)) :
 LoopOk c f p 0∧iLt (ZaV c f 0) (lLen x)=x.any q:=by
 obtain⟨h1,k,hk,h2,h3⟩:=ZEg (c:=c) (f:=f) (p:=p) (x0:=0) x.length (fun i=>(i:Int)) (fun i=>!q (x.getD i d)) rfl (fun i hi _=>hc i hi) (fun i hi _=>by rw[hf i hi,Zby (by unfold Zo0;omega)];simp) (fun i hi _=>hp i hi)
 refine⟨h1,?_⟩
 rw[h2,ZaA,Zan,Bool.eq_iff_iff,decide_eq_true_eq,List.any_eq_true]
 constructor
 · intro h
   have h4:¬ ∀ i,i<x.length→(!q (x.getD i d))=true:=fun hh=>by have:=h3.2 hh;omega
   simp only[Classical.not_forall,Bool.not_eq_true',Bool.not_eq_false] at h4
   obtain⟨i,hi,g⟩:=h4
   exact⟨_,ZgX x i d hi,g⟩
 · rintro⟨a,ha,g⟩
   obtain⟨i,hi,rfl⟩:=List.getElem_of_mem ha
   have h5:k≠x.length:=fun e=>by
    have:=h3.1 e i hi
    rw[ZsB x d hi,g] at this
    exact absurd this (by decide)
   omega
theorem ZAx(l:List Int)(v:Int)(hl:l.length≤1048576):Zel (l,v)∧Zde (l,v)=decide (v∈l):=by
 rw[Zrr,ZrQ]
 obtain⟨h1,h2⟩:=Zy1 (c:=ZfD (l,v)) (f:=Zhz) (p:=Zhv (l,v)) l 0 (fun a=>decide (a=v)) hl
  (fun i hi=>by simp only[ZfD,ZaI,ZaA,Zan,ZaC,Zff,ZbJ,ZaK,Int.toNat_natCast,Int.ofNat_lt])
  (fun i hi=>rfl) (fun i hi=>by
   simp only[Zhv,ZaA,Zan,ZaK,Int.toNat_natCast,decide_eq_true_eq]
   exact⟨fun h=>⟨⟨by omega,by omega⟩,by omega⟩,fun _=>trivial⟩)
 refine⟨h1,?_⟩
 rw[h2,Bool.eq_iff_iff,List.any_eq_true,decide_eq_true_eq]
 constructor
 · rintro⟨a,ha,g⟩;rw[decide_eq_true_eq] at g;exact g▸ha
 · intro h;exact⟨v,h,by simp⟩
def ZFi(C l:List Int):Prop:=l.Pairwise (· < ·)∧∀ z,z∈l↔(z∈C∧z≠0)
theorem ZDa{α:Type}(x:List α)(d:α){i:Nat}(h:i<x.length)(z:α):z∈x.take (i+1)↔z∈x.take i∨z=x.getD i d:=by
 rw[← Ziy x d h,List.mem_append,List.mem_singleton]
theorem ZE9{α:Type}(x:List α){i:Nat}{z:α}(h:z∈x.take i):∃ j,∃ (hj:j<x.length),j<i∧z=x[j]:=by
 obtain⟨j,hj,rfl⟩:=List.getElem_of_mem h
 rw[List.length_take] at hj
 exact⟨j,by omega,by omega,List.getElem_take ..⟩
theorem Zr4(C:List Int)(hl:C.length≤1048576):ZcS C∧ZFi C (ZbO C)∧(ZbO C).length≤C.length:=by
 rw[Zpr,Zpw]
 simp only[Zkf,ZfA,DMk.ok]
 have hs:(ZaP C 0).1=Zh6 C:=by rw[ZmN]
 have hsl:=ZqT C
 have hso:(Zh6 C).Pairwise (fun a b=>a≤b):=by
  have:=List.pairwise_mergeSort (le:=fun x y:Int=>decide (x≤y)) (by simp;intros;omega) (by simp;intros;omega) C
  exact this.imp (by simp)
 have hmem:∀ z,z∈Zh6 C↔z∈C:=fun z=>(List.mergeSort_perm C _).mem_iff
 generalize Zh6 C=S at hs hsl hso hmem
 have key := Ztb (c:=ZdI C) (f:=ZeT C) (p:=ZgN C) (x0:=([],0))
  (fun st=>∃ i:Nat,st.2=(i:Int)∧i≤S.length∧st.1.length≤i∧st.1.Pairwise (· < ·)∧∀ z,z∈st.1↔(z∈S.take i∧z≠0)) (fun st=>S.length-st.2.toNat) (by
  rintro⟨l,n⟩ ⟨i,h1,hi,hli,hp,hm⟩
  simp only at h1 hli hp hm
  subst h1
  simp only[ZdI,ZeT,ZgN,ZfA,hs,ZaA,Zan,ZbJ,ZaK,Int.toNat_natCast,decide_eq_true_eq]
  generalize hv:S.getD i 0=v
  obtain⟨g1,g2⟩:=ZAx l v (by omega)
  have r1:Zbu ((l.length+[v].length)*1):=by unfold Zbu;simp only[List.length_cons,List.length_nil];omega
  refine⟨⟨fun h=>⟨⟨by omega,by omega⟩,by omega,⟨fun _=>g1,fun _=>trivial⟩,⟨fun _=>r1,fun _=>trivial⟩⟩,fun _=>trivial⟩,fun h=>?_⟩
  have hi':i<S.length:=by omega
  refine⟨⟨i+1,by rw[Zby (by unfold Zo0;omega)];simp,by omega,?_,?_,?_⟩,by rw[Zby (by unfold Zo0;omega)];omega⟩
  · rw[Zep,ZcT];split
    · simp only[List.length_append,List.length_cons,List.length_nil];omega
    · omega
  · rw[Zep,ZcT];split
    · next hb=>
      rw[ZaI,ZaC,g2,Bool.and_eq_true,Zdz] at hb
      obtain⟨b1,b2⟩:=hb
      simp only[Bool.not_eq_true',decide_eq_false_iff_not] at b2
      refine List.pairwise_append.2 ⟨hp,List.pairwise_singleton _ _,fun a ha b hb=>?_⟩
      rw[List.mem_singleton] at hb
      subst hb
      obtain⟨j,hj,hji,e⟩:=ZE9 S ((hm a).1 ha).1
      have hle:=List.pairwise_iff_getElem.1 hso j i hj hi' hji
      rw[← ZsB S 0 hi',hv] at hle
      have:a≠b:=fun e=>b2 (e▸ha)
      omega
    · exact hp
  · intro z
    rw[ZDa S 0 hi',hv,Zep,ZcT]
    split
    · next hb=>
      rw[ZaI,ZaC,g2,Bool.and_eq_true,Zdz] at hb
      obtain⟨b1,b2⟩:=hb
      have b1:v≠0:=by simpa using b1
      rw[List.mem_append,List.mem_singleton,hm]
      constructor
      · rintro(⟨h3,h4⟩|e)
        · exact⟨.inl h3,h4⟩
        · exact⟨.inr e,e▸b1⟩
      · rintro⟨h3|e,h4⟩
        · exact .inl ⟨h3,h4⟩
        · exact .inr e
    · next hb=>
      rw[ZaI,ZaC,g2,Bool.and_eq_true,Zdz] at hb
      rw[hm]
      constructor
      · rintro⟨h3,h4⟩;exact⟨.inl h3,h4⟩
      · rintro⟨h3|e,h4⟩
        · exact⟨h3,h4⟩
        · subst e
          have hz:z∈l:=by
           refine Classical.byContradiction fun hn=>hb ⟨by simpa using h4,by simpa using hn⟩
          exact(hm z).1 hz) ⟨0,rfl,Nat.zero_le _,Nat.le_refl _,List.Pairwise.nil,by simp⟩
 obtain⟨k1,⟨i,k2,k3,k4,k5,k6⟩,k7⟩:=key
 simp only[ZdI,ZfA,hs,k2,ZaA,Zan,decide_eq_false_iff_not] at k7
 have:i=S.length:=by omega
 subst this
 rw[List.take_length] at k6
 refine⟨⟨by unfold Zbu;omega,⟨trivial,by rw[ZmD];show C.length<4611686018427387904;omega⟩,k1⟩,⟨k5,fun z=>by rw[k6,hmem]⟩,by omega⟩
theorem ZjM{a:Int×Int×Int×Int}(h:ZaF a=true):0≤a.2.1∧a.2.1≤56:=by
 rw[Zkc] at h
 simp only[Zep,ZhG,ZaI,Zff,Zdz,Zl4,ZqH,Zl2] at h
 repeat' split at h
 all_goals simp only[Bool.and_eq_true,Bool.or_eq_true,Bool.not_eq_true',Bool.not_eq_false',Bool.and_eq_false_iff,Bool.or_eq_false_iff,decide_eq_true_eq,decide_eq_false_iff_not,Bool.not_eq_true,Bool.not_eq_false,beq_iff_eq,beq_eq_false_iff_ne] at *
 all_goals omega
def ZcC(x:HdX):List Int:=x.map fun a=>a.2.2.1
theorem Zsv(x:HdX){i:Nat}(h:i<x.length):(ZcC x).getD i 0=(x.getD i (0,0,0,0,0)).2.2.1:=by
 rw[ZsB x _ h,ZsB (ZcC x) 0 (by simpa [ZcC] using h)];simp[ZcC]
theorem ZwK(x:HdX)(hl:x.length≤1048576) :
 LoopOk Zbb (ZbA x) (Zgu x) (1,[])∧(ZaV Zbb (ZbA x) (1,[])).2.Pairwise (· < ·)∧∀ z,z∈(ZaV Zbb (ZbA x) (1,[])).2↔(z∈ZcC x∧1≤z∧z≤56):=by
 have inner:∀ (c:Int) (l:List Int),l.length≤60→LoopOk (Zco x (c,l)) Zdd (ZeA x (c,l)) 0∧iLt (ZaV (Zco x (c,l)) Zdd 0) (lLen x)=decide (c∈ZcC x):=by
  intro c l hll
  obtain⟨h1,h2⟩:=Zy1 (c:=Zco x (c,l)) (f:=Zdd) (p:=ZeA x (c,l)) x (0,0,0,0,0) (fun a=>decide (a.2.2.1=c)) hl
   (fun i hi=>by simp only[Zco,ZaI,ZaA,Zan,ZaC,Zff,ZbJ,ZaK,Int.toNat_natCast,Int.ofNat_lt])
   (fun i hi=>rfl) (fun i hi=>by
    have r1:Zbu ((l.length+[c].length)*1):=by unfold Zbu;simp only[List.length_cons,List.length_nil];omega
    simp only[ZeA,ZaA,Zan,ZaK,Int.toNat_natCast,decide_eq_true_eq]
    exact⟨fun h=>⟨⟨by omega,by omega⟩,by omega,fun _=>r1,fun _=>trivial⟩,fun _=>trivial⟩)
  refine⟨h1,?_⟩
  rw[h2,Bool.eq_iff_iff,List.any_eq_true,decide_eq_true_eq,ZcC,List.mem_map]
  simp only[decide_eq_true_eq]
 have key:=Ztb (c:=Zbb) (f:=ZbA x) (p:=Zgu x) (x0:=(1,[]))
  (fun st=>1≤st.1∧st.1≤57∧(st.2.length:Int)<st.1∧st.2.Pairwise (· < ·)∧∀ z,z∈st.2↔(z∈ZcC x∧1≤z∧z<st.1)) (fun st=>57-st.1.toNat) (by
  rintro⟨c,l⟩ ⟨h1,h2,h3,h4,h5⟩
  simp only at h1 h2 h3 h4 h5
  obtain⟨i1,i2⟩:=inner c l (by omega)
  refine⟨⟨fun _=>i1,fun _=>trivial⟩,fun h=>?_⟩
  simp only[Zbb,Zl2,decide_eq_true_eq] at h
  have s1:iAdd .i64 c 1=c+1:=Zby (by unfold Zo0;omega)
  simp only[ZbA,s1,i2,Zep,ZcT,decide_eq_true_eq]
  refine⟨⟨by omega,by omega,?_,?_,fun z=>?_⟩,by omega⟩
  · split
    · simp only[List.length_append,List.length_cons,List.length_nil];omega
    · omega
  · split
    · refine List.pairwise_append.2 ⟨h4,List.pairwise_singleton _ _,fun a ha b hb=>?_⟩
      rw[List.mem_singleton] at hb
      have:=((h5 a).1 ha).2.2
      omega
    · exact h4
  · split
    · next hb=>
      rw[List.mem_append,List.mem_singleton,h5]
      constructor
      · rintro(⟨a1,a2,a3⟩|e)
        · exact⟨a1,a2,by omega⟩
        · subst e;exact⟨hb,by omega,by omega⟩
      · rintro⟨a1,a2,a3⟩
        by_cases e:z=c
        · exact .inr e
        · exact .inl ⟨a1,a2,by omega⟩
    · next hb=>
      rw[h5]
      constructor
      · rintro⟨a1,a2,a3⟩;exact⟨a1,a2,by omega⟩
      · rintro⟨a1,a2,a3⟩
        have:z≠c:=fun e=>hb (e▸a1)
        exact⟨a1,a2,by omega⟩) ⟨by simp,by simp,by simp,List.Pairwise.nil,by simp⟩
 obtain⟨k1,⟨k2,k3,k4,k5,k6⟩,k7⟩:=key
 simp only[Zbb,Zl2,decide_eq_false_iff_not] at k7
 refine⟨k1,k5,fun z=>?_⟩
 rw[k6]
 constructor
 · rintro⟨a,b,c⟩;exact⟨a,b,by omega⟩
 · rintro⟨a,b,c⟩;exact⟨a,b,by omega⟩
theorem ZER(x:HdX)(hl:x.length≤1048576) :
 LoopOk (ZbV x) (Zcm x) (ZeC x) (0,0)∧LoopOk (Za9 x) (Zba x) (Zew x) ([],0,0) ∧
 (ZaV (Za9 x) (Zba x) ([],0,0)).2.2=(ZaV (ZbV x) (Zcm x) (0,0)).2∧(ZaV (Za9 x) (Zba x) ([],0,0)).1=ZcC x:=by
 obtain⟨a1,a2,⟨i,h1,h2,h3⟩,a4⟩:=Zxl (c:=ZbV x) (f:=Zcm x) (p:=ZeC x) (d:=Za9 x) (g:=Zba x) (q:=Zew x) (x0:=(0,0)) (y0:=([],0,0))
  (fun s t=>∃ i:Nat,i≤x.length∧s.1=(i:Int)∧t=((ZcC x).take i,s.1,s.2)) (fun s=>x.length-s.1.toNat) (by
   rintro⟨n,m⟩ t ⟨i,hi,h1,rfl⟩
   simp only at h1
   subst h1
   have hcl:(ZcC x).length=x.length:=by simp[ZcC]
   have hlen:((ZcC x).take i).length=i:=by rw[List.length_take];omega
   have s1:iAdd .i64 (i:Int) 1=(i:Int)+1:=Zby (by unfold Zo0;omega)
   simp only[ZbV,Zcm,ZeC,Za9,Zba,Zew,ZaA,Zan,ZaK,Int.toNat_natCast,decide_eq_true_eq,s1,hlen,List.length_cons,List.length_nil,ZcT,ZbJ]
   refine⟨⟨fun h=>⟨⟨⟨by omega,by omega⟩,by omega,fun _=>trivial,fun _=>⟨⟨by omega,by omega⟩,by omega⟩⟩,fun _=>⟨⟨by omega,by omega⟩,by omega⟩,fun _=>trivial⟩,fun _=>trivial⟩,⟨fun h=>⟨⟨by omega,by omega⟩,by omega,by unfold Zbu;omega⟩,fun _=>trivial⟩,trivial,fun h=>⟨⟨i+1,by omega,by omega,?_⟩,by omega⟩⟩
   have hi':i<x.length:=by omega
   rw[← Ziy (ZcC x) 0 (by omega),Zsv x hi']) ⟨0,by omega,rfl,rfl⟩
 refine⟨a1,a2,by rw[h3],?_⟩
 rw[h3]
 simp only[ZbV,h2,ZaA,Zan,decide_eq_false_iff_not] at a4
 rw[List.take_of_length_le]
 simp only[ZcC,List.length_map];omega
theorem ZkX(x:HdX)(hl:x.length≤1048576):Zc5 x∧Zc8 x∧Zai x=ZaU x∧(Zai x).2.length≤1048576:=by
 rw[Zor,Zom,Zkh,Zog,ZpQ]
 have o1:=Zkb x hl
 have o2:=Zko x hl
 by_cases h:ZaH x=true
 · obtain⟨m1,m2,m3,m4⟩:=ZER x hl
   obtain⟨s1,s2,s3⟩:=ZwK x hl
   have hcl:(ZcC x).length=x.length:=by simp[ZcC]
   obtain⟨c1,⟨c2,c3⟩,c4⟩:=Zr4 (ZcC x) (by omega)
   have hh:=ZxV hl h
   have e:ZbO (ZcC x)=(ZaV Zbb (ZbA x) (1,[])).2:=ZzI c2 s2 fun z=>by
    rw[c3,s3]
    constructor
    · rintro⟨a,b⟩
      refine⟨a,?_⟩
      obtain⟨k,hk,rfl⟩:=List.mem_map.1 a
      have:=ZjM (hh k hk).2.2.1
      omega
    · rintro⟨a,b,c⟩;exact⟨a,by omega⟩
   rw[m3,m4,← e]
   refine⟨⟨o1,fun _=>trivial,fun _=>⟨m1,s1⟩⟩,⟨o2,fun _=>trivial,fun _=>⟨m2,c1⟩⟩,rfl,?_⟩
   rw[Zep];split
   · simp
   · simp only;omega
 · have hb:bNot (ZaH x)=true:=by rw[ZaC];simpa using h
   rw[hb]
   simp[Zjx,o1,o2]
theorem Zuy {α S:Type} {c:S×Int→Bool} {f:S×Int→S×Int} {p:S×Int→Prop} (x:List α) (d:α) (g:S→α→S) (s0:S) (hl:x.length≤1048576)
 (hc:∀ (s:S) (i:Nat),i≤x.length→c (s,(i:Int))=decide (i<x.length)) (hf:∀ (s:S) (i:Nat),i<x.length→f (s,(i:Int))=(g s (x.getD i d),iAdd .i64 (i:Int) 1)) (hp:∀ (s:S) (i:Nat),i≤x.length→p (s,(i:Int))) :
 LoopOk c f p (s0,0)∧ZaV c f (s0,0)=(x.foldl g s0,(x.length:Int)):=by
 have:=Zlr (c:=c) (f:=f) (p:=p) x.length (fun i=>((x.take i).foldl g s0,(i:Int))) (x0:=(s0,0)) rfl (fun k hk=>by
  refine⟨hp _ k (by omega),by rw[hc _ k (by omega)];simpa using hk,?_⟩
  rw[hf _ k hk,Zby (by unfold Zo0;omega),← Ziy x d hk,List.foldl_append]
  simp) ⟨hp _ _ (by omega),by rw[hc _ _ (by omega)];simp⟩
 refine⟨this.1,?_⟩
 rw[this.2,List.take_length]
theorem ZxA {α S:Type} {c:Int×S→Bool} {f:Int×S→Int×S} {p:Int×S→Prop} (x:List α) (d:α) (g:S→α→S) (s0:S) (hl:x.length≤1048576)
 (hc:∀ (s:S) (i:Nat),i≤x.length→c ((i:Int),s)=decide (i<x.length)) (hf:∀ (s:S) (i:Nat),i<x.length→f ((i:Int),s)=(iAdd .i64 (i:Int) 1,g s (x.getD i d))) (hp:∀ (s:S) (i:Nat),i≤x.length→p ((i:Int),s)) :
 LoopOk c f p (0,s0)∧ZaV c f (0,s0)=((x.length:Int),x.foldl g s0):=by
 have:=Zlr (c:=c) (f:=f) (p:=p) x.length (fun i=>((i:Int),(x.take i).foldl g s0)) (x0:=(0,s0)) rfl (fun k hk=>by
  refine⟨hp _ k (by omega),by rw[hc _ k (by omega)];simpa using hk,?_⟩
  rw[hf _ k hk,Zby (by unfold Zo0;omega),← Ziy x d hk,List.foldl_append]
  simp) ⟨hp _ _ (by omega),by rw[hc _ _ (by omega)];simp⟩
 refine⟨this.1,?_⟩
 rw[this.2,List.take_length]
theorem Zxa(c:Int)(x:List Int)(s:Bool):x.foldl (fun s a=>bOr s (iEq a c)) s=(s||decide (c∈x)):=by
 induction x generalizing s with
 |nil=>simp
 | cons a x ih=>
   rw[List.foldl_cons,ih,ZhG,Zff,Bool.or_assoc]
   congr 1
   rw[Bool.eq_iff_iff]
   simp only[Bool.or_eq_true,decide_eq_true_eq,List.mem_cons]
   constructor
   · rintro(h|h)
     · exact .inl h.symm
     · exact .inr h
   · rintro(h|h)
     · exact .inl h.symm
     · exact .inr h
theorem ZvP:∀ (l:List Int) (lo hi:Int),l.Pairwise (· < ·)→(∀ z∈l,lo≤z∧z≤hi)→lo≤hi+1→(l.length:Int)≤hi-lo+1
 |[],lo,hi,_,_,h=>by simp;omega
 | a::l,lo,hi,hp,hm,h=>by
   rw[List.pairwise_cons] at hp
   have ha:=hm a (by simp)
   have:=ZvP l (a+1) hi hp.2 (fun z hz=>⟨by have:=hp.1 z hz;omega,(hm z (by simp[hz])).2⟩) (by omega)
   rw[List.length_cons]
   omega
section
set_option maxRecDepth 8000
def Zn4:DCode:=
 (.seq [4,1,0] (.region [oa 0 4 (.allocB 0 [(.int .i64 0),.nils])])
 (.seq [5,4,1] (.region [on 0 12 0,
 oc 1 13 ZdK ZeN ZkG [(.t 12)],
 oa 2 5 (.allocB 1 [(.int .i64 0),.nils]),
 os 3 (.storeB 1 2 (.t 5) (.t 13))])
  (.seq [5,4,1] (.seq [6,5,4,1] (.region [oi 0 6 0])
  (.block 0 (.loop [1,4,5,6] 1 (.seq [6,5,4,1] (.seq [17,6,5,4,1] (.region [om 0 14 6,
 on 1 15 1,
 oa 2 16 (.len (.t 15)),
 oa 3 17 (.bin .lss (.t 14) (.t 16))])
  (.cond (.t 17) .skip (.exit 0)))
  (.seq [6,5,4,1] (.block 1 (.region [oa 0 20 (.fieldA 0 (.t 5)),
 xA 1 21 (.loadB 1 none (.t 20)) (rg 1),
 on 2 22 1,
 om 3 23 6,
 xA 4 24 (.indexA 5 (.t 22) (.t 23)) [2,3],
 xA 5 25 (.fieldA 1 (.t 24)) [2,3,4],
 xA 6 26 (.fieldA 2 (.t 25)) [2,3,4,5],
 xA 7 27 (.loadH none (.t 26)) [2,3,4,5,6],
 xA 8 28 (.bin .or (.t 21) (.t 27)) (rg 8),
 xA 9 29 (.fieldA 0 (.t 5)) (rg 9),
 xS 10 (.storeB 1 1 (.t 29) (.t 28)) (rg 10)]))
  (.region [om 0 18 6,
 oa 1 19 (.bin .add (.t 18) (.c (.int .i64 1))),
 om 2 6 19]))))))
  (.seq [7,5,4,1] (.region [⟨0,some 30,.a false (.litSlice 1 0 [] []) (some (.one (.int .i64))),none,[]⟩,
 om 1 7 30])
  (.seq [7,5,4] (.seq [8,7,5,4,1] (.region [oi 0 8 1])
  (.block 2 (.loop [1,4,5,7,8] 1 (.seq [8,7,5,4,1] (.seq [32,8,7,5,4,1] (.region [om 0 31 8,
 oa 1 32 (.bin .leq (.t 31) (.c (.int .i64 56)))])
  (.cond (.t 32) .skip (.exit 2)))
  (.seq [8,7,5,4,1] (.block 3 (.seq [9,8,7,5,4,1] (.region [oa 0 9 (.mv (.c (.bool false)))])
  (.seq [9,8,7,5,4,1] (.seq [10,9,8,7,5,4,1] (.region [oi 0 10 0])
  (.block 4 (.loop [1,4,5,7,8,9,10] 1 (.seq [10,9,8,7,5,4,1] (.seq [39,10,9,8,7,5,4,1] (.region [om 0 35 10,
 oa 1 36 (.fieldA 1 (.t 5)),
 oa 2 37 (.loadB 1 none (.t 36)),
 oa 3 38 (.len (.t 37)),
 oa 4 39 (.bin .lss (.t 35) (.t 38))])
  (.cond (.t 39) .skip (.exit 4)))
  (.seq [10,9,8,7,5,4,1] (.block 5 (.region [om 0 42 9,
 om 1 43 42,
 og 2 44 (.fieldA 1 (.t 5)) 43 false,
 og 3 45 (.loadB 1 none (.t 44)) 43 false,
 og 4 46 (.mv (.t 10)) 43 false,
 og 5 47 (.indexA 1 (.t 45) (.t 46)) 43 false,
 og 6 48 (.loadH none (.t 47)) 43 false,
 og 7 49 (.mv (.t 8)) 43 false,
 og 8 50 (.bin .eql (.t 48) (.t 49)) 43 false,
 oa 9 51 (.pick (.t 43) (.c (.bool true)) (.t 50)),
 om 10 9 51]))
  (.region [om 0 40 10,
 oa 1 41 (.bin .add (.t 40) (.c (.int .i64 1))),
 om 2 10 41]))))))
  (.seq [9,8,7,5,4,1] (.seq [11,9,8,7,5,4,1] (.region [oi 0 11 0])
  (.block 6 (.loop [1,4,5,7,8,9,11] 1 (.seq [11,9,8,7,5,4,1] (.seq [55,11,9,8,7,5,4,1] (.region [om 0 52 11,
 on 1 53 1,
 oa 2 54 (.len (.t 53)),
 oa 3 55 (.bin .lss (.t 52) (.t 54))])
  (.cond (.t 55) .skip (.exit 6)))
  (.seq [11,9,8,7,5,4,1] (.block 7 (.region [om 0 58 9,
 om 1 59 58,
 ⟨2,some 60,.a true (.mv (.t 1)) none,(some (59,false)),[]⟩,
 og 3 61 (.mv (.t 11)) 59 false,
 og 4 62 (.indexA 5 (.t 60) (.t 61)) 59 false,
 og 5 63 (.fieldA 1 (.t 62)) 59 false,
 og 6 64 (.fieldA 1 (.t 63)) 59 false,
 og 7 65 (.loadH none (.t 64)) 59 false,
 og 8 66 (.mv (.t 8)) 59 false,
 og 9 67 (.bin .eql (.t 65) (.t 66)) 59 false,
 oa 10 68 (.pick (.t 59) (.c (.bool true)) (.t 67)),
 om 11 9 68]))
  (.region [om 0 56 11,
 oa 1 57 (.bin .add (.t 56) (.c (.int .i64 1))),
 om 2 11 57]))))))
  (.seq [69,8,7,5,4,1] (.region [om 0 69 9])
  (.cond (.t 69) (.region [om 0 70 7,
 om 1 71 8,
 ⟨2,some 72,.a false (.litSlice 1 1 [(.int .i64 0)] [(0,1,(.t 71))]) (some (.one (.int .i64))),none,[]⟩,
 oa 3 73 (.app 1 (.t 70) (.t 72)),
 om 4 7 73]) .skip))))))
  (.region [om 0 33 8,
 oa 1 34 (.bin .add (.t 33) (.c (.int .i64 1))),
 om 2 8 34]))))))
  (.seq [5,4] (.region [om 0 74 7,
 oa 1 75 (.fieldA 1 (.t 5)),
 os 2 (.storeB 1 1 (.t 75) (.t 74))])
  (.seq [4] (.region [ob 0 76 (.loadB 1 (some 2) (.t 5)),
 os 1 (.storeB 0 2 (.t 4) (.t 76))])
  .ret)))))))
def df_spec_l8Report:DFun:=⟨2,77,2,false,[.cell 4 (some 2)],Zn4⟩
@[irreducible] def Zch:Zar:=Za5 df_spec_l8Report.er.er
@[irreducible] def ZdE:ZfF:=ZaQ df_spec_l8Report.er
theorem Zkk:Zbd Zch ZdE:=by unfold Zch ZdE;exact Zav (f:=df_spec_l8Report.er) ⟨ZoP,trivial⟩
def Zgq:List HT:=[.one .frz (.sl rI5),.one .frz (.sl rI5)]
def Zf0:QT:=.one (.agg [(.own,.int .i64),(.own,.sl (.one (.int .i64)))])
@[irreducible] def ZaO(x:(List (Int×Int×Int×Int×Int))×(List (Int×Int×Int×Int×Int))):Int×List (Int):=(shut fun x=>fnV df_spec_l8Report Zgq Zf0 x).1 x
@[irreducible] def Zb2(x:(List (Int×Int×Int×Int×Int))×(List (Int×Int×Int×Int×Int))):Prop:=(shut fun x=>ZhR df_spec_l8Report Zgq Zf0 x).1 x
def ZiK:ZhA:=ZbC Zgq Zf0 Zb2 ZaO
theorem Zkn:Zbp ZdE ZiK:=by unfold ZdE;exact Zaz (f:=df_spec_l8Report) (hs:=Zgq) (q:=Zf0) ⟨Zoz,trivial⟩ (by kernel_rfl) (fun x=>by kernel_rfl) (fun x h=>by unfold Zb2 at h;exact Eq.mp (congrFun (shut _).2 x) h) (fun x=>by unfold ZaO;exact(congrFun (shut _).2 x).symm)
def Zlx:DCode:=
 (.seq [1,0] (.region [oa 0 4 (.mv (.c .nils))])
 (.seq [5,1,0] (.region [⟨0,some 9,.a false (.litSlice 2 0 [] []) (some (.cons (.int .i64) (.one (.sl (.one (.int .i64)))))),none,[]⟩,
 om 1 5 9])
  (.seq [6,5,1,0] (.region [⟨0,some 10,.a false (.litSlice 5 0 [] []) (some rI5),none,[]⟩,
 om 1 6 10])
  (.seq [6,5,1,0] (.seq [18,6,5,1,0] (.region [on 0 11 0,
 oc 1 12 Zdj Ze0 Zj2 [(.t 11)],
 oa 2 13 (.un .not (.t 12)),
 om 3 14 13,
 ⟨4,some 15,.a true (.mv (.t 1)) none,(some (14,false)),[]⟩,
 ⟨5,some 16,.call false Zeg Zfl ZlR [(.t 15)],(some (14,false)),[]⟩,
 og 6 17 (.un .not (.t 16)) 14 false,
 oa 7 18 (.pick (.t 14) (.c (.bool true)) (.t 17))])
  (.cond (.t 18) (.seq [4] (.region [om 0 19 5,
 om 1 4 19])
  .ret) .skip))
  (.seq [5] (.seq [7,6,5,1,0] (.region [oi 0 7 0])
  (.block 0 (.loop [0,1,5,6,7] 1 (.seq [7,6,5,1,0] (.seq [23,7,6,5,1,0] (.region [om 0 20 7,
 on 1 21 1,
 oa 2 22 (.len (.t 21)),
 oa 3 23 (.bin .lss (.t 20) (.t 22))])
  (.cond (.t 23) .skip (.exit 0)))
  (.seq [7,6,5,1,0] (.block 1 (.seq [8,7,6,5,1,0] (.region [on 0 26 1,
 om 1 27 7,
 oa 2 28 (.indexA 3 (.t 26) (.t 27)),
 ob 3 29 (.loadH (some 3) (.t 28)),
 oa 4 8 (.allocB 0 [(.int .i64 0),(.int .i64 0),(.int .i64 0)]),
 os 5 (.storeB 0 3 (.t 8) (.t 29))])
  (.seq [8,7,6,5,1,0] (.seq [32,8,7,6,5,1,0] (.region [oa 0 30 (.fieldA 0 (.t 8)),
 oa 1 31 (.loadB 0 none (.t 30)),
 oa 2 32 (.bin .neq (.t 31) (.c (.int .i64 2)))])
  (.cond (.t 32) (.seq [8,7,6,5,1,0] (.region [om 0 33 6,
 oa 1 34 (.loadB 0 (some 3) (.t 8)),
 oc 2 35 ZbF ZcV ZfX [(.t 34)],
 oa 3 36 (.build [(.int .i64 0),(.int .i64 0),(.int .i64 0),(.int .i64 0),(.int .i64 0)] [(1,4,(.t 35))]),
 ⟨4,some 37,.a false (.litSlice 5 1 [(.int .i64 0),(.int .i64 0),(.int .i64 0),(.int .i64 0),(.int .i64 0)] [(0,5,(.t 36))]) (some rI5),none,[]⟩,
 oa 5 38 (.app 5 (.t 33) (.t 37)),
 om 6 6 38])
  (.region [om 0 39 5,
 on 1 40 0,
 on 2 41 6,
 oc 3 42 Zch ZdE ZiK [(.t 40),(.t 41)],
 ⟨4,some 43,.a false (.litSlice 2 1 [(.int .i64 0),.nils] [(0,2,(.t 42))]) (some (.cons (.int .i64) (.one (.sl (.one (.int .i64)))))),none,[]⟩,
 oa 5 44 (.app 2 (.t 39) (.t 43)),
 om 6 5 44])) .skip))
  (.seq [47,8,7,6,5,1,0] (.region [oa 0 45 (.fieldA 0 (.t 8)),
 oa 1 46 (.loadB 0 none (.t 45)),
 oa 2 47 (.bin .neq (.t 46) (.c (.int .i64 1)))])
  (.cond (.t 47) (.seq [7,6,5,1,0] (.region [on 0 48 6,
 on 1 49 6,
 oa 2 50 (.loadB 0 (some 3) (.t 8)),
 oc 3 51 Zdc ZeZ ZjV [(.t 49),(.t 50)],
 oc 4 52 Zb1 Zc6 Zhw [(.t 48),(.t 51)],
 om 5 6 52])
  (.region [om 0 53 5,
 on 1 54 0,
 on 2 55 6,
 oc 3 56 Zch ZdE ZiK [(.t 54),(.t 55)],
 ⟨4,some 57,.a false (.litSlice 2 1 [(.int .i64 0),.nils] [(0,2,(.t 56))]) (some (.cons (.int .i64) (.one (.sl (.one (.int .i64)))))),none,[]⟩,
 oa 5 58 (.app 2 (.t 53) (.t 57)),
 om 6 5 58])) .skip)))))
  (.region [om 0 24 7,
 oa 1 25 (.bin .add (.t 24) (.c (.int .i64 1))),
 om 2 7 25]))))))
  (.seq [4] (.region [om 0 59 5,
 om 1 4 59])
  .ret))))))
def df_spec_MacroReports:DFun:=⟨2,60,1,false,[.tmp 4],Zlx⟩
@[irreducible] def Zcb:Zar:=Za5 df_spec_MacroReports.er.er
@[irreducible] def ZcU:ZfF:=ZaQ df_spec_MacroReports.er
theorem ZlA:Zbd Zcb ZcU:=by unfold Zcb ZcU;exact Zav (f:=df_spec_MacroReports.er) ⟨Zl3,Zpm,Zhn,Zkk,ZlU,Zjv,Zkk,trivial⟩
def Zea:List HT:=[.one .frz (.sl rI5),.one .frz (.sl rI3)]
def Zd6:QT:=.one (.one .own (.sl (.cons (.int .i64) (.one (.sl (.one (.int .i64)))))))
@[irreducible] def Zao(x:(List (Int×Int×Int×Int×Int))×(List (Int×Int×Int))):List (Int×List (Int)):=(shut fun x=>fnV df_spec_MacroReports Zea Zd6 x).1 x
@[irreducible] def ZbW(x:(List (Int×Int×Int×Int×Int))×(List (Int×Int×Int))):Prop:=(shut fun x=>ZhR df_spec_MacroReports Zea Zd6 x).1 x
def Ziw:ZhA:=ZbC Zea Zd6 ZbW Zao
theorem ZlB:Zbp ZcU Ziw:=by unfold ZcU;exact Zaz (f:=df_spec_MacroReports) (hs:=Zea) (q:=Zd6) ⟨ZlJ,Zqs,ZhD,Zkn,ZlM,ZjF,Zkn,trivial⟩ (by kernel_rfl) (fun x=>by kernel_rfl) (fun x h=>by unfold ZbW at h;exact Eq.mp (congrFun (shut _).2 x) h) (fun x=>by unfold Zao;exact(congrFun (shut _).2 x).symm)
def Znx:DCode:=
 (.seq [4,2,1] (.region [oa 0 2 (.boxB 0 2 (.t 0)),
 oa 1 4 (.allocB 1 [(.int .i64 0),.nils])])
  (.seq [5,4,2,1] (.region [oa 0 9 (.fieldA 0 (.t 2)),
 ob 1 10 (.loadB 0 none (.t 9)),
 oa 2 11 (.build [(.int .i64 0),.nils] [(0,1,(.t 10))]),
 oa 3 5 (.allocB 2 [(.int .i64 0),.nils]),
 os 4 (.storeB 2 2 (.t 5) (.t 11))])
  (.seq [6,5,4,1] (.region [oa 0 12 (.fieldA 1 (.t 2)),
 oa 1 13 (.loadB 0 none (.t 12)),
 oc 2 14 Zci ZdH Ziz [(.t 13)],
 om 3 6 14])
  (.seq [6,5,4] (.seq [17,16,15,6,5,4] (.region [on 0 15 1,
 oa 1 16 (.len (.t 15)),
 oi 2 17 0])
  (.block 0 (.loop [4,5,6,15,16,17] 1 (.seq [18,17,16,15,6,5,4] (.region [oa 0 18 (.bin .lss (.t 17) (.t 16))])
  (.seq [17,16,15,6,5,4] (.cond (.t 18) .skip (.exit 0))
  (.seq [17,16,15,6,5,4] (.block 1 (.seq [17,16,15,8,6,5,4] (.region [oa 0 19 (.indexA 2 (.t 15) (.t 17)),
 ob 1 20 (.loadH (some 2) (.t 19)),
 oa 2 8 (.allocB 3 [(.int .i64 0),(.int .i64 0)]),
 os 3 (.storeB 3 2 (.t 8) (.t 20))])
  (.seq [17,16,15,8,6,5,4] (.region [oa 0 21 (.fieldA 0 (.t 5)),
 oa 1 22 (.loadB 2 none (.t 21)),
 oa 2 23 (.fieldA 1 (.t 8)),
 oa 3 24 (.loadB 3 none (.t 23)),
 oa 4 25 (.bin .or (.t 22) (.t 24)),
 oa 5 26 (.fieldA 0 (.t 5)),
 os 6 (.storeB 2 1 (.t 26) (.t 25))])
  (.region [om 0 27 6,
 oa 1 28 (.fieldA 0 (.t 8)),
 ob 2 29 (.loadB 3 none (.t 28)),
 ⟨3,some 30,.a false (.litSlice 1 1 [(.int .i64 0)] [(0,1,(.t 29))]) (some (.one (.int .i64))),none,[]⟩,
 oa 4 31 (.app 1 (.t 27) (.t 30)),
 om 5 6 31]))))
  (.region [oa 0 32 (.bin .add (.t 17) (.c (.int .i64 1))),
 om 1 17 32])))))))
  (.seq [5,4] (.region [on 0 33 6,
 oc 1 34 ZcN Zej Zjp [(.t 33)],
 oa 2 35 (.fieldA 1 (.t 5)),
 os 3 (.storeB 2 1 (.t 35) (.t 34))])
  (.seq [4] (.region [ob 0 36 (.loadB 2 (some 2) (.t 5)),
 os 1 (.storeB 1 2 (.t 4) (.t 36))])
  .ret))))))
def df_impl_withPairs:DFun:=⟨2,37,4,false,[.cell 4 (some 2)],Znx⟩
@[irreducible] def ZbZ:Zar:=Za5 df_impl_withPairs.er.er
@[irreducible] def Zdb:ZfF:=ZaQ df_impl_withPairs.er
theorem ZjC:Zbd ZbZ Zdb:=by unfold ZbZ Zdb;exact Zav (f:=df_impl_withPairs.er) ⟨Zkg,ZkW,trivial⟩
def Zfs:List HT:=[.agg [(.frz,.int .i64),(.frz,.sl (.one (.int .i64)))],.one .frz (.sl (.cons (.int .i64) (.one (.int .i64))))]
def Zft:QT:=.one (.agg [(.own,.int .i64),(.own,.sl (.one (.int .i64)))])
@[irreducible] def Za4(x:(Int×List (Int))×(List (Int×Int))):Int×List (Int):=(shut fun x=>fnV df_impl_withPairs Zfs Zft x).1 x
@[irreducible] def ZbN(x:(Int×List (Int))×(List (Int×Int))):Prop:=(shut fun x=>ZhR df_impl_withPairs Zfs Zft x).1 x
def Zhx:ZhA:=ZbC Zfs Zft ZbN Za4
theorem ZjH:Zbp Zdb Zhx:=by unfold Zdb;exact Zaz (f:=df_impl_withPairs) (hs:=Zfs) (q:=Zft) ⟨Zkd,ZkD,trivial⟩ (by kernel_rfl) (fun x=>by kernel_rfl) (fun x h=>by unfold ZbN at h;exact Eq.mp (congrFun (shut _).2 x) h) (fun x=>by unfold Za4;exact(congrFun (shut _).2 x).symm)
def Zlz:DCode:=
 (.seq [1,0] (.region [oa 0 4 (.mv (.c .nils))])
 (.seq [1,0] (.seq [19,1,0] (.region [on 0 12 0,
 oc 1 13 Zdh ZeX ZjZ [(.t 12)],
 oa 2 14 (.un .not (.t 13)),
 om 3 15 14,
 ⟨4,some 16,.a true (.mv (.t 1)) none,(some (15,false)),[]⟩,
 ⟨5,some 17,.call false Zei Zfk ZlV [(.t 16)],(some (15,false)),[]⟩,
 og 6 18 (.un .not (.t 17)) 15 false,
 oa 7 19 (.pick (.t 15) (.c (.bool true)) (.t 18))])
  (.cond (.t 19) (.seq [4] (.region [oa 0 4 (.mv (.c .nils))])
  .ret) .skip))
  (.seq [5,1] (.region [on 0 20 0,
 oc 1 21 ZdM ZeH ZkF [(.t 20)],
 oa 2 5 (.allocB 0 [(.int .i64 0),.nils]),
 os 3 (.storeB 0 2 (.t 5) (.t 21))])
  (.seq [6,5,1] (.region [oa 0 6 (.mv (.c .nils))])
  (.seq [7,6,5,1] (.region [⟨0,some 7,.aw [(0,2)] false (.mv (.c .nils)) none,none,[]⟩])
  (.seq [6] (.seq [24,23,22,7,6,5] (.region [on 0 22 1,
 oa 1 23 (.len (.t 22)),
 oi 2 24 0])
  (.block 0 (.loop [5,6,7,22,23,24] 1 (.seq [25,24,23,22,7,6,5] (.region [oa 0 25 (.bin .lss (.t 24) (.t 23))])
  (.seq [24,23,22,7,6,5] (.cond (.t 25) .skip (.exit 0))
  (.seq [24,23,22,7,6,5] (.block 1 (.seq [24,23,22,9,7,6,5] (.region [oa 0 26 (.indexA 3 (.t 22) (.t 24)),
 ob 1 27 (.loadH (some 3) (.t 26)),
 oa 2 9 (.allocB 1 [(.int .i64 0),(.int .i64 0),(.int .i64 0)]),
 os 3 (.storeB 1 3 (.t 9) (.t 27))])
  (.seq [24,23,22,10,9,7,6,5] (.region [oa 0 28 (.fieldA 1 (.t 9)),
 ob 1 29 (.loadB 1 none (.t 28)),
 oa 2 30 (.fieldA 2 (.t 9)),
 ob 3 31 (.loadB 1 none (.t 30)),
 oa 4 32 (.build [(.int .i64 0),(.int .i64 0)] [(0,1,(.t 29)),(1,1,(.t 31))]),
 oa 5 10 (.allocB 2 [(.int .i64 0),(.int .i64 0)]),
 os 6 (.storeB 2 2 (.t 10) (.t 32))])
  (.seq [24,23,22,7,6,5] (.seq [34,24,23,22,10,7,6,5] (.region [oa 0 33 (.fieldA 0 (.t 9)),
 oa 1 34 (.loadB 1 none (.t 33))])
  (.block 2 (.seq [35,34,24,23,22,10,7,6,5] (.region [oa 0 36 (.bin .eql (.t 34) (.c (.int .i64 0))),
 om 1 35 36])
  (.cond (.t 35) (.regionU [om 0 37 6,
 oa 1 38 (.loadB 0 (some 2) (.t 5)),
 on 2 39 7,
 ob 4 41 (.loadB 2 (some 2) (.t 10)),
 ⟨5,some 42,.a false (.litSlice 2 1 [(.int .i64 0),(.int .i64 0)] [(0,2,(.t 41))]) (some (.cons (.int .i64) (.one (.int .i64)))),none,[4]⟩,
 xA 3 40 (.appN 2 (.c .nils) (.t 39)) [2],
 xA 6 43 (.app 2 (.t 40) (.t 42)) [2,3,4,5],
 xC 7 44 ZbZ Zdb Zhx [(.t 38),(.t 43)] [1,2,3,4,5,6],
 ⟨8,some 45,.a false (.litSlice 2 1 [(.int .i64 0),.nils] [(0,2,(.t 44))]) (some (.cons (.int .i64) (.one (.sl (.one (.int .i64)))))),none,[1,2,3,4,5,6,7]⟩,
 xA 9 46 (.app 2 (.t 37) (.t 45)) (rg 9),
 xA 10 6 (.mv (.t 46)) (rg 10)]) (.seq [47,34,24,23,22,10,7,6,5] (.region [oa 0 48 (.bin .eql (.t 34) (.c (.int .i64 1))),
 om 1 47 48])
  (.cond (.t 47) (.region [om 0 49 7,
 ob 1 50 (.loadB 2 (some 2) (.t 10)),
 ⟨2,some 51,.a false (.litSlice 2 1 [(.int .i64 0),(.int .i64 0)] [(0,2,(.t 50))]) (some (.cons (.int .i64) (.one (.int .i64)))),none,[]⟩,
 ⟨3,some 52,.aw [(0,2)] false (.app 2 (.t 49) (.t 51)) none,none,[]⟩,
 ⟨4,some 7,.aw [(0,2)] false (.mv (.t 52)) none,none,[]⟩]) (.seq [53,24,23,22,10,7,6,5] (.region [oa 0 54 (.bin .eql (.t 34) (.c (.int .i64 2))),
 om 1 53 54])
  (.cond (.t 53) (.seq [24,23,22,11,7,6,5] (.region [on 0 55 7,
 oa 1 56 (.loadB 2 (some 2) (.t 10)),
 oc 2 57 Zdf ZeV ZjO [(.t 55),(.t 56)],
 om 3 11 57])
  (.region [on 0 58 7,
 om 1 59 11,
 xA 2 60 (.slice 2 (.t 58) none (some (.t 59))) (rg 2),
 on 3 61 7,
 om 4 62 11,
 xA 5 63 (.bin .add (.t 62) (.c (.int .i64 1))) [4],
 xA 6 64 (.slice 2 (.t 61) (some (.t 63)) none) [3,4,5],
 ⟨7,some 65,.aw [(0,2)] false (.app 2 (.t 60) (.t 64)) none,none,[0,1,2,3,4,5,6]⟩,
 ⟨8,some 7,.aw [(0,2)] false (.mv (.t 65)) none,none,[0,1,2,3,4,5,6,7]⟩])) .skip))))))))
  (.region [om 0 66 6,
 oa 1 67 (.loadB 0 (some 2) (.t 5)),
 on 2 68 7,
 oc 3 69 ZbZ Zdb Zhx [(.t 67),(.t 68)],
 ⟨4,some 70,.a false (.litSlice 2 1 [(.int .i64 0),.nils] [(0,2,(.t 69))]) (some (.cons (.int .i64) (.one (.sl (.one (.int .i64)))))),none,[]⟩,
 oa 5 71 (.app 2 (.t 66) (.t 70)),
 om 6 6 71])))))
  (.region [oa 0 72 (.bin .add (.t 24) (.c (.int .i64 1))),
 om 1 24 72])))))))
  (.seq [4] (.region [om 0 73 6,
 om 1 4 73])
  .ret)))))))
def df_impl_MacroReports:DFun:=⟨2,74,3,false,[.tmp 4],Zlz⟩
@[irreducible] def Zbg:Zar:=Za5 df_impl_MacroReports.er.er
@[irreducible] def Zb8:ZfF:=ZaQ df_impl_MacroReports.er
theorem ZhK:Zbd Zbg Zb8:=by unfold Zbg Zb8;exact Zav (f:=df_impl_MacroReports.er) ⟨ZlN,ZqC,Zol,ZjC,ZlY,ZjC,trivial⟩
def Zd0:List HT:=[.one .frz (.sl rI5),.one .frz (.sl rI3)]
def ZdZ:QT:=.one (.one .own (.sl (.cons (.int .i64) (.one (.sl (.one (.int .i64)))))))
@[irreducible] def Zad(x:(List (Int×Int×Int×Int×Int))×(List (Int×Int×Int))):List (Int×List (Int)):=(shut fun x=>fnV df_impl_MacroReports Zd0 ZdZ x).1 x
@[irreducible] def Zbw(x:(List (Int×Int×Int×Int×Int))×(List (Int×Int×Int))):Prop:=(shut fun x=>ZhR df_impl_MacroReports Zd0 ZdZ x).1 x
def ZfI:ZhA:=ZbC Zd0 ZdZ Zbw Zad
theorem ZhJ:Zbp Zb8 ZfI:=by unfold Zb8;exact Zaz (f:=df_impl_MacroReports) (hs:=Zd0) (q:=ZdZ) ⟨ZlX,Zqe,ZoG,ZjH,ZlZ,ZjH,trivial⟩ (by kernel_rfl) (fun x=>by kernel_rfl) (fun x h=>by unfold Zbw at h;exact Eq.mp (congrFun (shut _).2 x) h) (fun x=>by unfold Zad;exact(congrFun (shut _).2 x).symm)
end
section
set_option maxRecDepth 100000
def ZeF(x:(List (Int×Int×Int×Int×Int))×(List (Int×Int×Int×Int×Int)))(x0:(Int×Int)):Bool:=(iLt x0.1 (lLen x.2))
def Zey(x:(List (Int×Int×Int×Int×Int))×(List (Int×Int×Int×Int×Int)))(x0:(Int×Int)):(Int×Int):=((iAdd .i64 x0.1 1),(iOr .i64 x0.2 (lGet x.2 (iNat x0.1) (0,0,0,0,0)).2.2.2.1))
def Zcl(x0:((List Int)×Int)):Bool:=(iLe x0.2 56)
def ZbB(x:(List (Int×Int×Int×Int×Int))×(List (Int×Int×Int×Int×Int)))(x1:(Bool×Int)):Bool:=(iLt x1.2 (lLen x.2))
def ZbD(x:(List (Int×Int×Int×Int×Int))×(List (Int×Int×Int×Int×Int)))(x0:((List Int)×Int))(x1:(Bool×Int)):(Bool×Int):=((bOr x1.1 (iEq (lGet x.2 (iNat x1.2) (0,0,0,0,0)).2.2.1 x0.2)),(iAdd .i64 x1.2 1))
def Za1(x:(List (Int×Int×Int×Int×Int))×(List (Int×Int×Int×Int×Int)))(x1:(Bool×Int)):Bool:=(iLt x1.2 (lLen (ZaU x.1).2))
def Za0(x:(List (Int×Int×Int×Int×Int))×(List (Int×Int×Int×Int×Int)))(x0:((List Int)×Int))(x1:(Bool×Int)):(Bool×Int):=((bOr x1.1 (iEq (lGet (ZaU x.1).2 (iNat x1.2) 0) x0.2)),(iAdd .i64 x1.2 1))
def Zdi(x:(List (Int×Int×Int×Int×Int))×(List (Int×Int×Int×Int×Int)))(x0:((List Int)×Int)):((List Int)×Int):=((bSel (ZaV (ZbB x) (ZbD x x0) ((ZaV (Za1 x) (Za0 x x0) (false,0)).1,0)).1 (lApp x0.1 [x0.2]) x0.1),(iAdd .i64 x0.2 1))
def Zgr(x:(List (Int×Int×Int×Int×Int))×(List (Int×Int×Int×Int×Int)))(x0:(Int×Int)):Prop:=(((iLt x0.1 (lLen x.2))=true→((((0:Int)≤x0.1)∧(x0.1<(((List.length x.2):Int))))∧((iNat x0.1)<(List.length x.2))))∧((iLt x0.1 (lLen x.2))=false→True))
def ZeD(x:(List (Int×Int×Int×Int×Int))×(List (Int×Int×Int×Int×Int)))(x1:(Bool×Int)):Prop:=(((iLt x1.2 (lLen (ZaU x.1).2))=true→((x1.1=true→True)∧(x1.1=false→((((0:Int)≤x1.2)∧(x1.2<(((List.length (ZaU x.1).2):Int))))∧((iNat x1.2)<(List.length (ZaU x.1).2))))))∧((iLt x1.2 (lLen (ZaU x.1).2))=false→True))
def Zeu(x:(List (Int×Int×Int×Int×Int))×(List (Int×Int×Int×Int×Int)))(x1:(Bool×Int)):Prop:=(((iLt x1.2 (lLen x.2))=true→((x1.1=true→True)∧(x1.1=false→((((0:Int)≤x1.2)∧(x1.2<(((List.length x.2):Int))))∧((iNat x1.2)<(List.length x.2))))))∧((iLt x1.2 (lLen x.2))=false→True))
def Zi7(x:(List (Int×Int×Int×Int×Int))×(List (Int×Int×Int×Int×Int)))(x0:((List Int)×Int)):Prop:=(((iLe x0.2 56)=true→((LoopOk (Za1 x) (Za0 x x0) (ZeD x) (false,0))∧((LoopOk (ZbB x) (ZbD x x0) (Zeu x) ((ZaV (Za1 x) (Za0 x x0) (false,0)).1,0))∧(((ZaV (ZbB x) (ZbD x x0) ((ZaV (Za1 x) (Za0 x x0) (false,0)).1,0)).1=true→(Zbu (((List.length x0.1)+(List.length [x0.2]))*1)))∧((ZaV (ZbB x) (ZbD x x0) ((ZaV (Za1 x) (Za0 x x0) (false,0)).1,0)).1=false→True)))))∧((iLe x0.2 56)=false→True))
theorem Zop (x):ZaO x=((ZaV (ZeF x) (Zey x) (0,(ZaU x.1).1)).2,(ZaV Zcl (Zdi x) ([],1)).1):=by unfold ZaO;exact(congrFun (shut _).2 x).trans (by kernel_rfl)
theorem Zoc (x):Zb2 x=((Zc5 x.1)∧((LoopOk (ZeF x) (Zey x) (Zgr x) (0,(ZaU x.1).1))∧(LoopOk Zcl (Zdi x) (Zi7 x) ([],1)))):=by unfold Zb2;exact(congrFun (shut _).2 x).trans (by kernel_rfl)
def Zb7(x:(List (Int×Int×Int×Int×Int))×(List (Int×Int×Int)))(x0:((List (Int×(List Int)))×((List (Int×(Int×(Int×(Int×Int)))))×Int))):Bool:=(iLt x0.2.2 (lLen x.2))
def ZcX(x:(List (Int×Int×Int×Int×Int))×(List (Int×Int×Int)))(x0:((List (Int×(List Int)))×((List (Int×(Int×(Int×(Int×Int)))))×Int))):((List (Int×(List Int)))×((List (Int×(Int×(Int×(Int×Int)))))×Int)):=((bSel (iNe (lGet x.2 (iNat x0.2.2) (0,0,0)).1 1) (lApp (bSel (iNe (lGet x.2 (iNat x0.2.2) (0,0,0)).1 2) (lApp x0.1 [(ZaO (x.1,(lApp x0.2.1 [(0,(Zaa (lGet x.2 (iNat x0.2.2) (0,0,0))))])))]) x0.1) [(ZaO (x.1,(Zay ((bSel (iNe (lGet x.2 (iNat x0.2.2) (0,0,0)).1 2) (lApp x0.2.1 [(0,(Zaa (lGet x.2 (iNat x0.2.2) (0,0,0))))]) x0.2.1),(Zau ((bSel (iNe (lGet x.2 (iNat x0.2.2) (0,0,0)).1 2) (lApp x0.2.1 [(0,(Zaa (lGet x.2 (iNat x0.2.2) (0,0,0))))]) x0.2.1),(lGet x.2 (iNat x0.2.2) (0,0,0))))))))]) (bSel (iNe (lGet x.2 (iNat x0.2.2) (0,0,0)).1 2) (lApp x0.1 [(ZaO (x.1,(lApp x0.2.1 [(0,(Zaa (lGet x.2 (iNat x0.2.2) (0,0,0))))])))]) x0.1)),(bSel (iNe (lGet x.2 (iNat x0.2.2) (0,0,0)).1 1) (Zay ((bSel (iNe (lGet x.2 (iNat x0.2.2) (0,0,0)).1 2) (lApp x0.2.1 [(0,(Zaa (lGet x.2 (iNat x0.2.2) (0,0,0))))]) x0.2.1),(Zau ((bSel (iNe (lGet x.2 (iNat x0.2.2) (0,0,0)).1 2) (lApp x0.2.1 [(0,(Zaa (lGet x.2 (iNat x0.2.2) (0,0,0))))]) x0.2.1),(lGet x.2 (iNat x0.2.2) (0,0,0)))))) (bSel (iNe (lGet x.2 (iNat x0.2.2) (0,0,0)).1 2) (lApp x0.2.1 [(0,(Zaa (lGet x.2 (iNat x0.2.2) (0,0,0))))]) x0.2.1)),(iAdd .i64 x0.2.2 1))
def Zc0(x:(List (Int×Int×Int×Int×Int))×(List (Int×Int×Int)))(x0:((List (Int×(List Int)))×((List (Int×(Int×(Int×(Int×Int)))))×Int))):Prop:=(((iLt x0.2.2 (lLen x.2))=true→((((0:Int)≤x0.2.2)∧(x0.2.2<(((List.length x.2):Int))))∧(((iNat x0.2.2)<(List.length x.2))∧((((iNe (lGet x.2 (iNat x0.2.2) (0,0,0)).1 2)=true→((Zcx (lGet x.2 (iNat x0.2.2) (0,0,0)))∧((Zbu (((List.length x0.2.1)+(List.length [(0,(Zaa (lGet x.2 (iNat x0.2.2) (0,0,0))))]))*5))∧((Zb2 (x.1,(lApp x0.2.1 [(0,(Zaa (lGet x.2 (iNat x0.2.2) (0,0,0))))])))∧(Zbu (((List.length x0.1)+(List.length [(ZaO (x.1,(lApp x0.2.1 [(0,(Zaa (lGet x.2 (iNat x0.2.2) (0,0,0))))])))]))*2))))))∧((iNe (lGet x.2 (iNat x0.2.2) (0,0,0)).1 2)=false→True))∧(((iNe (lGet x.2 (iNat x0.2.2) (0,0,0)).1 1)=true→((Zcf ((bSel (iNe (lGet x.2 (iNat x0.2.2) (0,0,0)).1 2) (lApp x0.2.1 [(0,(Zaa (lGet x.2 (iNat x0.2.2) (0,0,0))))]) x0.2.1),(lGet x.2 (iNat x0.2.2) (0,0,0))))∧((ZbK ((bSel (iNe (lGet x.2 (iNat x0.2.2) (0,0,0)).1 2) (lApp x0.2.1 [(0,(Zaa (lGet x.2 (iNat x0.2.2) (0,0,0))))]) x0.2.1),(Zau ((bSel (iNe (lGet x.2 (iNat x0.2.2) (0,0,0)).1 2) (lApp x0.2.1 [(0,(Zaa (lGet x.2 (iNat x0.2.2) (0,0,0))))]) x0.2.1),(lGet x.2 (iNat x0.2.2) (0,0,0))))))∧((Zb2 (x.1,(Zay ((bSel (iNe (lGet x.2 (iNat x0.2.2) (0,0,0)).1 2) (lApp x0.2.1 [(0,(Zaa (lGet x.2 (iNat x0.2.2) (0,0,0))))]) x0.2.1),(Zau ((bSel (iNe (lGet x.2 (iNat x0.2.2) (0,0,0)).1 2) (lApp x0.2.1 [(0,(Zaa (lGet x.2 (iNat x0.2.2) (0,0,0))))]) x0.2.1),(lGet x.2 (iNat x0.2.2) (0,0,0))))))))∧(Zbu (((List.length (bSel (iNe (lGet x.2 (iNat x0.2.2) (0,0,0)).1 2) (lApp x0.1 [(ZaO (x.1,(lApp x0.2.1 [(0,(Zaa (lGet x.2 (iNat x0.2.2) (0,0,0))))])))]) x0.1))+(List.length [(ZaO (x.1,(Zay ((bSel (iNe (lGet x.2 (iNat x0.2.2) (0,0,0)).1 2) (lApp x0.2.1 [(0,(Zaa (lGet x.2 (iNat x0.2.2) (0,0,0))))]) x0.2.1),(Zau ((bSel (iNe (lGet x.2 (iNat x0.2.2) (0,0,0)).1 2) (lApp x0.2.1 [(0,(Zaa (lGet x.2 (iNat x0.2.2) (0,0,0))))]) x0.2.1),(lGet x.2 (iNat x0.2.2) (0,0,0))))))))]))*2))))))∧((iNe (lGet x.2 (iNat x0.2.2) (0,0,0)).1 1)=false→True))))))∧((iLt x0.2.2 (lLen x.2))=false→True))
theorem ZlE (x):Zao x=(bSel (bOr (bNot (Zbn x.1)) (bNot (Za6 x.2))) [] (ZaV (Zb7 x) (ZcX x) ([],[],0)).1):=by unfold Zao;exact(congrFun (shut _).2 x).trans (by kernel_rfl)
theorem ZlD (x):ZbW x=(((Zdy x.1)∧(((bNot (Zbn x.1))=true→True)∧((bNot (Zbn x.1))=false→(ZdS x.2))))∧(((bOr (bNot (Zbn x.1)) (bNot (Za6 x.2)))=true→True)∧((bOr (bNot (Zbn x.1)) (bNot (Za6 x.2)))=false→(LoopOk (Zb7 x) (ZcX x) (Zc0 x) ([],[],0))))):=by unfold ZbW;exact(congrFun (shut _).2 x).trans (by kernel_rfl)
def ZbI(x:(Int×List (Int))×(List (Int×Int)))(x0:((List Int)×(Int×Int))):Bool:=(iLt x0.2.1 (lLen x.2))
def Zca(x:(Int×List (Int))×(List (Int×Int)))(x0:((List Int)×(Int×Int))):((List Int)×(Int×Int)):=((lApp x0.1 [(lGet x.2 (iNat x0.2.1) (0,0)).1]),(iAdd .i64 x0.2.1 1),(iOr .i64 x0.2.2 (lGet x.2 (iNat x0.2.1) (0,0)).2))
def Zd2(x:(Int×List (Int))×(List (Int×Int)))(x0:((List Int)×(Int×Int))):Prop:=(((iLt x0.2.1 (lLen x.2))=true→((((0:Int)≤x0.2.1)∧(x0.2.1<(((List.length x.2):Int))))∧(((iNat x0.2.1)<(List.length x.2))∧(Zbu (((List.length x0.1)+(List.length [(lGet x.2 (iNat x0.2.1) (0,0)).1]))*1)))))∧((iLt x0.2.1 (lLen x.2))=false→True))
theorem Zno (x):Za4 x=((ZaV (ZbI x) (Zca x) ((Zas x.1.2),0,x.1.1)).2.2,(ZbO (ZaV (ZbI x) (Zca x) ((Zas x.1.2),0,x.1.1)).1)):=by unfold Za4;exact(congrFun (shut _).2 x).trans (by kernel_rfl)
theorem Znc (x):ZbN x=((Zcw x.1.2)∧((LoopOk (ZbI x) (Zca x) (Zd2 x) ((Zas x.1.2),0,x.1.1))∧(ZcS (ZaV (ZbI x) (Zca x) ((Zas x.1.2),0,x.1.1)).1))):=by unfold ZbN;exact(congrFun (shut _).2 x).trans (by kernel_rfl)
def ZcZ(x:(List (Int×Int×Int×Int×Int))×(List (Int×Int×Int)))(x0:((List (Int×(List Int)))×((List (Int×Int))×Int))):Bool:=(iLt x0.2.2 (lLen x.2))
def Zc1(x:(List (Int×Int×Int×Int×Int))×(List (Int×Int×Int)))(x0:((List (Int×(List Int)))×((List (Int×Int))×Int))):((List (Int×(List Int)))×((List (Int×Int))×Int)):=((lApp (bSel (iEq (lGet x.2 (iNat x0.2.2) (0,0,0)).1 0) (lApp x0.1 [(Za4 ((Zai x.1),(lApp x0.2.1 [(lGet x.2 (iNat x0.2.2) (0,0,0)).2])))]) x0.1) [(Za4 ((Zai x.1),(bSel (iEq (lGet x.2 (iNat x0.2.2) (0,0,0)).1 0) x0.2.1 (bSel (iEq (lGet x.2 (iNat x0.2.2) (0,0,0)).1 1) (lApp x0.2.1 [(lGet x.2 (iNat x0.2.2) (0,0,0)).2]) (bSel (iEq (lGet x.2 (iNat x0.2.2) (0,0,0)).1 2) (lApp (lTake x0.2.1 (lN (lSub x0.2.1 0 (iNat (Zae (x0.2.1,(lGet x.2 (iNat x0.2.2) (0,0,0)).2)))))) (lSub x0.2.1 (iNat (iAdd .i64 (Zae (x0.2.1,(lGet x.2 (iNat x0.2.2) (0,0,0)).2)) 1)) (lN x0.2.1))) x0.2.1)))))]),(bSel (iEq (lGet x.2 (iNat x0.2.2) (0,0,0)).1 0) x0.2.1 (bSel (iEq (lGet x.2 (iNat x0.2.2) (0,0,0)).1 1) (lApp x0.2.1 [(lGet x.2 (iNat x0.2.2) (0,0,0)).2]) (bSel (iEq (lGet x.2 (iNat x0.2.2) (0,0,0)).1 2) (lApp (lTake x0.2.1 (lN (lSub x0.2.1 0 (iNat (Zae (x0.2.1,(lGet x.2 (iNat x0.2.2) (0,0,0)).2)))))) (lSub x0.2.1 (iNat (iAdd .i64 (Zae (x0.2.1,(lGet x.2 (iNat x0.2.2) (0,0,0)).2)) 1)) (lN x0.2.1))) x0.2.1))),(iAdd .i64 x0.2.2 1))
def Zc2(x:(List (Int×Int×Int×Int×Int))×(List (Int×Int×Int)))(x0:((List (Int×(List Int)))×((List (Int×Int))×Int))):Prop:=(((iLt x0.2.2 (lLen x.2))=true→((((0:Int)≤x0.2.2)∧(x0.2.2<(((List.length x.2):Int))))∧(((iNat x0.2.2)<(List.length x.2))∧((((iEq (lGet x.2 (iNat x0.2.2) (0,0,0)).1 0)=true→((Zbu ((List.length x0.2.1)*2))∧((Zbu (((List.length x0.2.1)+(List.length [(lGet x.2 (iNat x0.2.2) (0,0,0)).2]))*2))∧((ZbN ((Zai x.1),(lApp x0.2.1 [(lGet x.2 (iNat x0.2.2) (0,0,0)).2])))∧(Zbu (((List.length x0.1)+(List.length [(Za4 ((Zai x.1),(lApp x0.2.1 [(lGet x.2 (iNat x0.2.2) (0,0,0)).2])))]))*2))))))∧((iEq (lGet x.2 (iNat x0.2.2) (0,0,0)).1 0)=false→(((iEq (lGet x.2 (iNat x0.2.2) (0,0,0)).1 1)=true→(Zbu (((List.length x0.2.1)+(List.length [(lGet x.2 (iNat x0.2.2) (0,0,0)).2]))*2)))∧((iEq (lGet x.2 (iNat x0.2.2) (0,0,0)).1 1)=false→(((iEq (lGet x.2 (iNat x0.2.2) (0,0,0)).1 2)=true→((ZcJ (x0.2.1,(lGet x.2 (iNat x0.2.2) (0,0,0)).2))∧((((0:Int)≤(Zae (x0.2.1,(lGet x.2 (iNat x0.2.2) (0,0,0)).2)))∧((0≤(iNat (Zae (x0.2.1,(lGet x.2 (iNat x0.2.2) (0,0,0)).2))))∧(((iNat (Zae (x0.2.1,(lGet x.2 (iNat x0.2.2) (0,0,0)).2)))≤(List.length x0.2.1))∧(0<(List.length x0.2.1)))))∧((((0:Int)≤(iAdd .i64 (Zae (x0.2.1,(lGet x.2 (iNat x0.2.2) (0,0,0)).2)) 1))∧(((iNat (iAdd .i64 (Zae (x0.2.1,(lGet x.2 (iNat x0.2.2) (0,0,0)).2)) 1))≤(lN x0.2.1))∧(((lN x0.2.1)≤(List.length x0.2.1))∧(0<(List.length x0.2.1)))))∧((0<(List.length x0.2.1))∧(((List.length (lSub x0.2.1 0 (iNat (Zae (x0.2.1,(lGet x.2 (iNat x0.2.2) (0,0,0)).2)))))≤(List.length x0.2.1))∧(Zbu (((List.length (lSub x0.2.1 0 (iNat (Zae (x0.2.1,(lGet x.2 (iNat x0.2.2) (0,0,0)).2)))))+(List.length (lSub x0.2.1 (iNat (iAdd .i64 (Zae (x0.2.1,(lGet x.2 (iNat x0.2.2) (0,0,0)).2)) 1)) (lN x0.2.1))))*2))))))))∧((iEq (lGet x.2 (iNat x0.2.2) (0,0,0)).1 2)=false→True))))))∧((ZbN ((Zai x.1),(bSel (iEq (lGet x.2 (iNat x0.2.2) (0,0,0)).1 0) x0.2.1 (bSel (iEq (lGet x.2 (iNat x0.2.2) (0,0,0)).1 1) (lApp x0.2.1 [(lGet x.2 (iNat x0.2.2) (0,0,0)).2]) (bSel (iEq (lGet x.2 (iNat x0.2.2) (0,0,0)).1 2) (lApp (lTake x0.2.1 (lN (lSub x0.2.1 0 (iNat (Zae (x0.2.1,(lGet x.2 (iNat x0.2.2) (0,0,0)).2)))))) (lSub x0.2.1 (iNat (iAdd .i64 (Zae (x0.2.1,(lGet x.2 (iNat x0.2.2) (0,0,0)).2)) 1)) (lN x0.2.1))) x0.2.1)))))∧(Zbu (((List.length (bSel (iEq (lGet x.2 (iNat x0.2.2) (0,0,0)).1 0) (lApp x0.1 [(Za4 ((Zai x.1),(lApp x0.2.1 [(lGet x.2 (iNat x0.2.2) (0,0,0)).2])))]) x0.1))+(List.length [(Za4 ((Zai x.1),(bSel (iEq (lGet x.2 (iNat x0.2.2) (0,0,0)).1 0) x0.2.1 (bSel (iEq (lGet x.2 (iNat x0.2.2) (0,0,0)).1 1) (lApp x0.2.1 [(lGet x.2 (iNat x0.2.2) (0,0,0)).2]) (bSel (iEq (lGet x.2 (iNat x0.2.2) (0,0,0)).1 2) (lApp (lTake x0.2.1 (lN (lSub x0.2.1 0 (iNat (Zae (x0.2.1,(lGet x.2 (iNat x0.2.2) (0,0,0)).2)))))) (lSub x0.2.1 (iNat (iAdd .i64 (Zae (x0.2.1,(lGet x.2 (iNat x0.2.2) (0,0,0)).2)) 1)) (lN x0.2.1))) x0.2.1)))))]))*2)))))))∧((iLt x0.2.2 (lLen x.2))=false→True))
theorem ZlF (x):Zad x=(bSel (bOr (bNot (ZaH x.1)) (bNot (ZcH x.2))) [] (ZaV (ZcZ x) (Zc1 x) ([],[],0)).1):=by unfold Zad;exact(congrFun (shut _).2 x).trans (by kernel_rfl)
theorem ZlH (x):Zbw x=(((Zdw x.1)∧(((bNot (ZaH x.1))=true→True)∧((bNot (ZaH x.1))=false→(ZdF x.2))))∧(((bOr (bNot (ZaH x.1)) (bNot (ZcH x.2)))=true→True)∧((bOr (bNot (ZaH x.1)) (bNot (ZcH x.2)))=false→((Zc8 x.1)∧(LoopOk (ZcZ x) (Zc1 x) (Zc2 x) ([],[],0)))))):=by unfold Zbw;exact(congrFun (shut _).2 x).trans (by kernel_rfl)
end
section
set_option maxRecDepth 20000
theorem ZtP(l:HdX)(hl:l.length≤1048576)(hh:ZaH l=true):(Zai l).2.Pairwise (· < ·)∧∀ z∈(Zai l).2,1≤z∧z≤56:=by
 obtain⟨_,_,r3,_⟩:=ZkX l hl
 obtain⟨_,s2,s3⟩:=ZwK l hl
 rw[r3,Zkh,ZpQ,hh]
 have hb:bNot true=false:=by rw[ZaC];rfl
 rw[hb,Zj9]
 exact⟨s2,fun z hz=>((s3 z).1 hz).2⟩
def orF(m:Int)(a:Int×Int×Int×Int×Int):Int:=iOr .i64 m a.2.2.2.1
theorem Zxy(l dn:HdX)(hl:l.length≤1048576)(hh:ZaH l=true)(hd:dn.length≤1000)(hc:∀ a∈dn,0≤a.2.2.1∧a.2.2.1≤56) :
 Zb2 (l,dn)∧ZbN (Zai l,dn.map pi5)∧Za4 (Zai l,dn.map pi5)=ZaO (l,dn)∧(ZaO (l,dn)).2.Pairwise (· < ·)∧(∀ z,z∈(ZaO (l,dn)).2↔(z∈(Zai l).2∨z∈ZcC dn∧z≠0))∧(ZaO (l,dn)).1=dn.foldl orF (Zai l).1:=by
 obtain⟨o1,_,r3,_⟩:=ZkX l hl
 obtain⟨b1,b2⟩:=ZtP l hl hh
 have b3:=ZvP _ 1 56 b1 b2 (by omega)
 have hcd:(ZcC dn).length=dn.length:=by simp[ZcC]
 obtain⟨m1,m2⟩:=ZxA (c:=ZeF (l,dn)) (f:=Zey (l,dn)) (p:=Zgr (l,dn)) dn (0,0,0,0,0) orF (ZaU l).1 (by omega)
  (fun s i hi=>by simp only[ZeF,ZaA,Zan,Int.ofNat_lt])
  (fun s i hi=>by simp only[Zey,orF,ZbJ,ZaK,Int.toNat_natCast])
  (fun s i hi=>by
   simp only[Zgr,ZaA,Zan,ZaK,Int.toNat_natCast,decide_eq_true_eq]
   exact⟨fun h=>⟨⟨by omega,by omega⟩,by omega⟩,fun _=>trivial⟩)
 have in4:∀ (st:List Int×Int),LoopOk (Za1 (l,dn)) (Za0 (l,dn) st) (ZeD (l,dn)) (false,0)∧(ZaV (Za1 (l,dn)) (Za0 (l,dn) st) (false,0)).1=decide (st.2∈(Zai l).2):=by
  intro st
  rw[r3] at b3
  obtain⟨k1,k2⟩:=Zuy (c:=Za1 (l,dn)) (f:=Za0 (l,dn) st) (p:=ZeD (l,dn)) (ZaU l).2 0 (fun s a=>bOr s (iEq a st.2)) false (by omega)
   (fun s i hi=>by simp only[Za1,ZaA,Zan,Int.ofNat_lt])
   (fun s i hi=>by simp only[Za0,ZbJ,ZaK,Int.toNat_natCast])
   (fun s i hi=>by
    simp only[ZeD,ZaA,Zan,ZaK,Int.toNat_natCast,decide_eq_true_eq]
    exact⟨fun h=>⟨fun _=>trivial,fun _=>⟨⟨by omega,by omega⟩,by omega⟩⟩,fun _=>trivial⟩)
  refine⟨k1,?_⟩
  rw[k2,Zxa,r3,Bool.false_or]
 have in3:∀ (st:List Int×Int) (b:Bool),LoopOk (ZbB (l,dn)) (ZbD (l,dn) st) (Zeu (l,dn)) (b,0)∧(ZaV (ZbB (l,dn)) (ZbD (l,dn) st) (b,0)).1=(b||decide (st.2∈ZcC dn)):=by
  intro st b
  obtain⟨k1,k2⟩:=Zuy (c:=ZbB (l,dn)) (f:=ZbD (l,dn) st) (p:=Zeu (l,dn)) dn (0,0,0,0,0) (fun s a=>bOr s (iEq a.2.2.1 st.2)) b (by omega)
   (fun s i hi=>by simp only[ZbB,ZaA,Zan,Int.ofNat_lt])
   (fun s i hi=>by simp only[ZbD,ZbJ,ZaK,Int.toNat_natCast])
   (fun s i hi=>by
    simp only[Zeu,ZaA,Zan,ZaK,Int.toNat_natCast,decide_eq_true_eq]
    exact⟨fun h=>⟨fun _=>trivial,fun _=>⟨⟨by omega,by omega⟩,by omega⟩⟩,fun _=>trivial⟩)
  refine⟨k1,?_⟩
  rw[k2]
  have:=Zxa st.2 (ZcC dn) b
  rw[ZcC,List.foldl_map] at this
  exact this
 have key:=Ztb (c:=Zcl) (f:=Zdi (l,dn)) (p:=Zi7 (l,dn)) (x0:=([],1))
  (fun st=>1≤st.2∧st.2≤57∧(st.1.length:Int)<st.2∧st.1.Pairwise (· < ·)∧∀ z,z∈st.1↔((z∈(Zai l).2∨z∈ZcC dn)∧1≤z∧z<st.2)) (fun st=>57-st.2.toNat) (by
  rintro⟨ks,c⟩ ⟨h1,h2,h3,h4,h5⟩
  simp only at h1 h2 h3 h4 h5
  obtain⟨i1,i2⟩:=in4 (ks,c)
  obtain⟨j1,j2⟩:=in3 (ks,c) (ZaV (Za1 (l,dn)) (Za0 (l,dn) (ks,c)) (false,0)).1
  rw[i2] at j2
  have r1:Zbu ((ks.length+[c].length)*1):=by unfold Zbu;simp only[List.length_cons,List.length_nil];omega
  refine⟨⟨fun _=>⟨i1,j1,fun _=>r1,fun _=>trivial⟩,fun _=>trivial⟩,fun h=>?_⟩
  simp only[Zcl,Zl2,decide_eq_true_eq] at h
  have s1:iAdd .i64 c 1=c+1:=Zby (by unfold Zo0;omega)
  simp only[Zdi,s1,i2,j2,Zep,ZcT,Bool.or_eq_true,decide_eq_true_eq]
  refine⟨⟨by omega,by omega,?_,?_,fun z=>?_⟩,by omega⟩
  · split
    · simp only[List.length_append,List.length_cons,List.length_nil];omega
    · omega
  · split
    · refine List.pairwise_append.2 ⟨h4,List.pairwise_singleton _ _,fun a ha b hb=>?_⟩
      rw[List.mem_singleton] at hb
      have:=((h5 a).1 ha).2.2
      omega
    · exact h4
  · split
    · next hb=>
      rw[List.mem_append,List.mem_singleton,h5]
      constructor
      · rintro(⟨a1,a2,a3⟩|e)
        · exact⟨a1,a2,by omega⟩
        · subst e;exact⟨hb,by omega,by omega⟩
      · rintro⟨a1,a2,a3⟩
        by_cases e:z=c
        · exact .inr e
        · exact .inl ⟨a1,a2,by omega⟩
    · next hb=>
      rw[h5]
      constructor
      · rintro⟨a1,a2,a3⟩;exact⟨a1,a2,by omega⟩
      · rintro⟨a1,a2,a3⟩
        have:z≠c:=fun e=>hb (e▸a1)
        exact⟨a1,a2,by omega⟩) ⟨by simp,by simp,by simp,List.Pairwise.nil,by simp⟩
 obtain⟨k1,⟨k2,k3,k4,k5,k6⟩,k7⟩:=key
 simp only[Zcl,Zl2,decide_eq_false_iff_not] at k7
 generalize hK:ZaV Zcl (Zdi (l,dn)) ([],1)=K at k2 k3 k4 k5 k6 k7
 have kmem:∀ z,z∈K.1↔(z∈(Zai l).2∨z∈ZcC dn∧z≠0):=by
  intro z
  rw[k6]
  constructor
  · rintro⟨a|a,b,c⟩
    · exact .inl a
    · exact .inr ⟨a,by omega⟩
  · rintro(a|⟨a,b⟩)
    · have:=b2 z a;exact⟨.inl a,by omega,by omega⟩
    · obtain⟨q,hq,rfl⟩:=List.mem_map.1 a
      have:=hc q hq
      exact⟨.inr a,by omega,by omega⟩
 have hp5:(dn.map pi5).length=dn.length:=List.length_map ..
 have cp:Zas (Zai l).2=(Zai l).2:=by rw[ZfA];try rfl
 have okc:Zcw (Zai l).2:=by rw[Zkf];unfold Zbu;omega
 have W:=Zlr (c:=ZbI (Zai l,dn.map pi5)) (f:=Zca (Zai l,dn.map pi5)) (p:=Zd2 (Zai l,dn.map pi5)) dn.length
  (fun i=>((Zai l).2++(ZcC dn).take i,(i:Int),(dn.take i).foldl orF (Zai l).1)) (x0:=((Zai l).2,0,(Zai l).1)) (by simp) (fun i hi=>by
   have g1:(lGet (dn.map pi5) (iNat (i:Int)) (0,0))=pi5 (dn.getD i (0,0,0,0,0)):=by rw[ZbJ,ZaK,Int.toNat_natCast,Zuf]
   refine⟨?_,?_,?_⟩
   · simp only[Zd2,ZaA,Zan,hp5,ZaK,Int.toNat_natCast,decide_eq_true_eq,List.length_append,List.length_take,List.length_cons,List.length_nil]
     exact⟨fun _=>⟨⟨by omega,by omega⟩,by omega,by unfold Zbu;omega⟩,fun _=>trivial⟩
   · simp only[ZbI,ZaA,Zan,hp5,decide_eq_true_eq];omega
   · simp only[Zca,g1,ZcT,List.append_assoc]
     rw[Zby (by unfold Zo0;omega),← Ziy (ZcC dn) 0 (by omega),Zsv dn hi,← Ziy dn (0,0,0,0,0) hi,List.foldl_append]
     rfl) (by
   refine⟨?_,?_⟩
   · simp only[Zd2,ZaA,Zan,hp5,decide_eq_true_eq]
     exact⟨fun h=>absurd h (by omega),fun _=>trivial⟩
   · simp only[ZbI,ZaA,Zan,hp5];simp)
 have tk:(ZcC dn).take dn.length=ZcC dn:=by rw[← hcd];exact List.take_length ..
 obtain⟨w1,w2⟩:=W
 simp only[tk,List.take_length] at w2
 obtain⟨c1,⟨c2,c3⟩,c4⟩:=Zr4 ((Zai l).2++ZcC dn) (by rw[List.length_append];omega)
 have e:ZbO ((Zai l).2++ZcC dn)=K.1:=ZzI c2 k5 fun z=>by
  rw[c3,kmem,List.mem_append]
  constructor
  · rintro⟨a|a,b⟩
    · exact .inl a
    · exact .inr ⟨a,b⟩
  · rintro(a|⟨a,b⟩)
    · have:=b2 z a;exact⟨.inl a,by omega⟩
    · exact⟨.inr a,b⟩
 rw[Zoc,Znc,Zop,Zno]
 simp only[cp,w2,m2,hK]
 refine⟨⟨o1,m1,k1⟩,⟨okc,w1,c1⟩,?_,k5,kmem,by rw[r3]⟩
 rw[e,r3]
end
end
end Go.Ag
