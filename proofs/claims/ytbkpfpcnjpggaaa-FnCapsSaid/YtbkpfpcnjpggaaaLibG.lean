/- Part 7 of what FnCaps needs. No conditions. -/
import Derived.Test.YtbkpfpcnjpggaaaLibF
namespace Go.Ag
set_option linter.unusedSimpArgs false
set_option linter.unusedVariables false
noncomputable section
section
set_option maxRecDepth 8000
def tE:DCode:=(.seq [0] (.region [oa 0 2 (.mv (.c .nils))]) (.seq [3,0] (.region [⟨0,some 7,.a false (.litSlice 3 0 [] []) (some BM),none,[]⟩,om 1 3 7]) (.seq [3] (.seq [4,3,0] (.region [om 0 8 0,op 1 9 Cb Dw EZ [(.t 8),(.c (.int .i64 3))],om 2 4 9]) (.block 0 (.loop [0,3,4] 1 (.seq [4,3,0] (.seq [11,4,3,0] (.region [om 0 10 4,oa 1 11 (.bin .gtr (.t 10) AD)]) (.cond (.t 11) .skip (.exit 0))) (.seq [4,3,0] (.block 1 (.seq [5,4,3,0] (.region [om 0 14 0,op 1 15 Cb Dw EZ [(.t 14),(.c (.int .i64 56))],oa 2 16 (.bin .add Au (.t 15)),om 3 17 0,⟨4,some 18,.a false (.litSlice 1 4 [Ab,Ab,Ab,Ab] [(0,1,AD),(1,1,AD),(2,1,(.c (.int .i64 2))),(3,1,Au)]) (some (.one (.int .i64))),none,[]⟩,⟨5,some 19,.callp true N7 Qz ew [(.t 17),(.t 18)],none,[]⟩,oa 6 20 (.build [Ab,Ab,Ab] [(1,1,(.t 16)),(2,1,(.t 19))]),oa 7 5 (.allocB 0 [Ab,Ab,Ab]),os 8 (.storeB 0 3 (.t 5) (.t 20))]) (.seq [5,4,3,0] (.seq [22,5,4,3,0] (.region [om 0 21 0,op 1 22 Ho Jm UP [(.t 21),(.c (.int .i64 2))]]) (.cond (.t 22) (.seq [4,3,0] (.region [om 0 23 3,ob 1 24 (.loadB 0 (some 3) (.t 5)),⟨2,some 25,.a false (.litSlice 3 1 [Ab,Ab,Ab] [(0,3,(.t 24))]) (some BM),none,[]⟩,oa 3 26 (.app 3 (.t 23) (.t 25)),om 4 3 26]) (.exit 1)) .skip)) (.seq [5,4,3,0] (.region [oa 0 27 (.fieldA 0 (.t 5)),os 1 (.storeB 0 1 (.t 27) Au)]) (.seq [6,5,4,3,0] (.region [ob 0 28 (.loadB 0 (some 3) (.t 5)),oa 1 6 (.allocB 1 [Ab,Ab,Ab]),os 2 (.storeB 1 3 (.t 6) (.t 28))]) (.seq [6,5,4,3,0] (.region [oa 0 29 (.fieldA 0 (.t 6)),os 1 (.storeB 1 1 (.t 29) (.c (.int .i64 2)))]) (.region [ob 1 31 (.loadB 0 (some 3) (.t 5)),on 2 32 3,oa 3 33 (.len (.t 32)),om 0 30 3,oa 4 34 (.bin .sub (.c (.int .i64 60)) (.t 33)),oa 5 35 (.bin .sub (.t 34) (.c (.int .i64 10))),oa 6 36 (.build [Ab,Ab,Ab] [(1,1,(.t 35)),(2,1,(.c (.int .i64 8)))]),ob 7 37 (.loadB 1 (some 3) (.t 6)),⟨8,some 38,.a false (.litSlice 3 3 [Ab,Ab,Ab,Ab,Ab,Ab,Ab,Ab,Ab] [(0,3,(.t 31)),(3,3,(.t 36)),(6,3,(.t 37))]) (some BM),none,[]⟩,oa 9 39 (.app 3 (.t 30) (.t 38)),om 10 3 39]))))))) (.region [om 0 12 4,oa 1 13 (.bin .sub (.t 12) Au),om 2 4 13])))))) (.seq [2] (.region [om 0 40 3,om 1 2 40]) .ret))))
def Ln:DFun:=⟨1,41,2,false,[.tmp 2],tE⟩
@[irreducible] def Ox:Bc:=EK Ln.er.er
@[irreducible] def Q4:Ca:=C7 Ln.er
theorem uU:D1 Ox Q4:=by unfold Ox Q4;exact FR (f:=Ln.er) ⟨Fm,Fm,qg,Ut,trivial⟩
def Vg:List HT:=[]
def U7:List (Ql×CT):=[(.frz,.sl (.one (.int .u8))),An,An]
def U9:QT:=.one (.one .own (.sl BM))
@[irreducible] def Jn(x:Cz):CS×A5:=(shut λ x=>HR Ln Vg U7 U9 x).1 x
@[irreducible] def On(x:Cz):Prop:=(shut λ x=>HJ Ln Vg U7 U9 x).1 x
def gF:CH:=IE Vg U7 U9 On Jn
theorem tq:DM Q4 gF:=by unfold Q4;exact KF (f:=Ln) (hs:=Vg) (cs:=U7) (q:=U9) ⟨Fl,Fl,qy,YS,trivial⟩ (by kernel_rfl) (λ x=>by kernel_rfl) (λ x h=>by unfold On at h;exact Eq.mp (congrFun (shut _).2 x) h) (λ x=>by unfold Jn;exact(congrFun (shut _).2 x).symm)
end
section
set_option maxRecDepth 100000
def Qx(x0:CS×CN):Bool:=(iGt x0.2.1 0)
def Qo(x:Cz)(x0:CS×CN):(CS×CN):=((bSel (Cq ((x.1,(Dh ((x.1,(Ar ((x.1,x0.2.2),56)).2),[0,0,2,1])).2),2)).1 (lApp x0.1 [(0,(iAdd .i64 1 (Ar ((x.1,x0.2.2),56)).1),(Dh ((x.1,(Ar ((x.1,x0.2.2),56)).2),[0,0,2,1])).1)]) (lApp x0.1 [(1,(iAdd .i64 1 (Ar ((x.1,x0.2.2),56)).1),(Dh ((x.1,(Ar ((x.1,x0.2.2),56)).2),[0,0,2,1])).1),(0,(iSub .i64 (iSub .i64 60 (lLen x0.1)) 10),8),(2,(iAdd .i64 1 (Ar ((x.1,x0.2.2),56)).1),(Dh ((x.1,(Ar ((x.1,x0.2.2),56)).2),[0,0,2,1])).1)])),(iSub .i64 x0.2.1 1),(bSel (Cq ((x.1,(Dh ((x.1,(Ar ((x.1,x0.2.2),56)).2),[0,0,2,1])).2),2)).1 (Cq ((x.1,(Dh ((x.1,(Ar ((x.1,x0.2.2),56)).2),[0,0,2,1])).2),2)).2.1 (Cq ((x.1,(Dh ((x.1,(Ar ((x.1,x0.2.2),56)).2),[0,0,2,1])).2),2)).2.1),(bSel (Cq ((x.1,(Dh ((x.1,(Ar ((x.1,x0.2.2),56)).2),[0,0,2,1])).2),2)).1 (Cq ((x.1,(Dh ((x.1,(Ar ((x.1,x0.2.2),56)).2),[0,0,2,1])).2),2)).2.2 (Cq ((x.1,(Dh ((x.1,(Ar ((x.1,x0.2.2),56)).2),[0,0,2,1])).2),2)).2.2))
def Yv(x:Cz)(x0:CS×CN):Prop:=(((iGt x0.2.1 0)=true->((DW ((x.1,x0.2.2),56))/\((N0 ((x.1,(Ar ((x.1,x0.2.2),56)).2),[0,0,2,1]))/\((Ku ((x.1,(Dh ((x.1,(Ar ((x.1,x0.2.2),56)).2),[0,0,2,1])).2),2))/\(((Cq ((x.1,(Dh ((x.1,(Ar ((x.1,x0.2.2),56)).2),[0,0,2,1])).2),2)).1=true->(Av (((List.length x0.1)+(List.length [(0,(iAdd .i64 1 (Ar ((x.1,x0.2.2),56)).1),(Dh ((x.1,(Ar ((x.1,x0.2.2),56)).2),[0,0,2,1])).1)]))*3)))/\((Cq ((x.1,(Dh ((x.1,(Ar ((x.1,x0.2.2),56)).2),[0,0,2,1])).2),2)).1=false->(Av (((List.length x0.1)+(List.length [(1,(iAdd .i64 1 (Ar ((x.1,x0.2.2),56)).1),(Dh ((x.1,(Ar ((x.1,x0.2.2),56)).2),[0,0,2,1])).1),(0,(iSub .i64 (iSub .i64 60 (lLen x0.1)) 10),8),(2,(iAdd .i64 1 (Ar ((x.1,x0.2.2),56)).1),(Dh ((x.1,(Ar ((x.1,x0.2.2),56)).2),[0,0,2,1])).1)]))*3))))))))/\((iGt x0.2.1 0)=false->True))
theorem tZ (x):Jn x=((Am Qx (Qo x) ([],(Ar (x,3)))).1,(Am Qx (Qo x) ([],(Ar (x,3)))).2.2):=by unfold Jn;exact(congrFun (shut _).2 x).trans (by kernel_rfl)
theorem uT (x):On x=((DW (x,3))/\(LoopOk Qx (Qo x) (Yv x) ([],(Ar (x,3))))):=by unfold On;exact(congrFun (shut _).2 x).trans (by kernel_rfl)
end
section
set_option maxRecDepth 8000
def uZ:DCode:=(.seq [2,1] (.region [oa 0 1 (.boxB 0 2 (.t 0)),oa 1 2 (.allocB 1 [Ab,.nils])]) (.seq [2] (.region [oa 0 3 (.fieldA 0 (.t 1)),xB 1 4 (.loadB 0 none (.t 3)) (rg 1),oa 3 6 (.fieldA 1 (.t 1)),xA 4 7 (.loadB 0 none (.t 6)) [3],⟨2,some 5,.a false (.litSlice 1 0 [] []) (some (.one (.int .i64))),none,[]⟩,xA 5 8 (.app 1 (.t 5) (.t 7)) [2,3,4],xA 6 9 (.build [Ab,.nils] [(0,1,(.t 4)),(1,1,(.t 8))]) (rg 6),xS 7 (.storeB 1 2 (.t 2) (.t 9)) (rg 7)]) .ret))
def Ky:Fn:=⟨⟨1,10,2,false,[.cell 2 (some 2)],uZ⟩,[.agg [AA,(.frz,.sl (.one (.int .i64)))]],.one (.agg [An,(.own,.sl (.one (.int .i64)))])⟩
theorem tY:Ky.A:=AV trivial
def QV:DU->Int×List (Int):=Ky.V
def YU:DU->Prop:=Ky.O
theorem u7:Ky.B:=AW trivial (by kernel_rfl) (λ x=>by kernel_rfl)
def qz:DCode:=(.seq [2,1] (.region [oa 0 2 (.boxB 0 2 (.t 0)),oa 1 4 (.mv (.c .nils))]) (.seq [5,2,1] (.region [⟨0,some 7,.a false (.litSlice 2 0 [] []) (some (.cons (.int .i64) (.one (.sl (.one (.int .i64)))))),none,[]⟩,om 1 5 7]) (.seq [5] (.seq [6,5,2,1] (.region [oi 0 6 0]) (.block 0 (.loop [1,2,5,6] 1 (.seq [6,5,2,1] (.seq [11,6,5,2,1] (.region [om 0 8 6,on 1 9 1,oa 2 10 (.len (.t 9)),oa 3 11 (.bin .lss (.t 8) (.t 10))]) (.cond (.t 11) .skip (.exit 0))) (.seq [6,5,2,1] (.block 1 (.seq [6,5,2,1] (.seq [20,6,5,2,1] (.region [oa 0 14 (.loadB 0 (some 2) (.t 2)),on 1 15 1,om 2 16 6,xA 3 17 (.indexA 2 (.t 15) (.t 16)) [1,2],xA 4 18 (.loadH (some 2) (.t 17)) [1,2,3],xF 5 19 J8 [(.t 14),(.t 18)] (rg 5),xA 6 20 (.un .not (.t 19)) (rg 6)]) (.cond (.t 20) (.region [om 0 21 5,on 1 22 1,om 2 23 6,oa 3 24 (.indexA 2 (.t 22) (.t 23)),oa 4 25 (.loadH (some 2) (.t 24)),oF 5 26 Ky [(.t 25)],⟨6,some 27,.a false (.litSlice 2 1 [Ab,.nils] [(0,2,(.t 26))]) (some (.cons (.int .i64) (.one (.sl (.one (.int .i64)))))),none,[]⟩,oa 7 28 (.app 2 (.t 21) (.t 27)),om 8 5 28]) .skip)) (.region [on 0 29 1,om 1 30 6,oa 2 31 (.indexA 2 (.t 29) (.t 30)),ob 3 32 (.loadH (some 2) (.t 31)),os 4 (.storeB 0 2 (.t 2) (.t 32))]))) (.region [om 0 12 6,oa 1 13 (.bin .add (.t 12) Au),om 2 6 13])))))) (.seq [4] (.region [om 0 33 5,om 1 4 33]) .ret))))
def H5:Fn:=⟨⟨2,34,1,false,[.tmp 4],qz⟩,[.agg [AA,(.frz,.sl (.one (.int .i64)))],.one .frz (.sl (.cons (.int .i64) (.one (.sl (.one (.int .i64))))))],.one (.one .own (.sl (.cons (.int .i64) (.one (.sl (.one (.int .i64)))))))⟩
theorem dW:H5.A:=AV ⟨pP,tY,trivial⟩
def Qq:JJ->List DU:=H5.V
def Qk:JJ->Prop:=H5.O
theorem dZ:H5.B:=AW ⟨pB,u7,trivial⟩ (by kernel_rfl) (λ x=>by kernel_rfl)
def sV:DCode:=(.seq [4,2,1] (.region [oa 0 2 (.boxB 0 7 (.t 0)),oa 1 4 (.allocB 1 [Ab,.nils,.nils,Ab,.nils,Ab,CV]),oa 2 5 (.mv (.c .nils)),oa 3 6 (.mv Ao)]) (.seq [7,4,2] (.region [oa 0 9 (.loadB 0 (some 7) (.t 2)),om 1 10 1,oF 2 11 GP [(.t 9),(.t 10)],om 3 7 11]) (.seq [7,4,2] (.seq [18,7,4,2] (.region [oa 0 12 (.loadB 0 (some 7) (.t 2)),oF 1 13 GH [(.t 12)],oa 2 14 (.un .not (.t 13)),om 3 15 14,og 4 16 (.mv (.t 7)) 15 false,og 5 17 (.bin .lss (.t 16) AD) 15 false,oa 6 18 (.pick (.t 15) AU (.t 17))]) (.cond (.t 18) (.seq [6,5,4] (.region [oa 0 19 (.build [Ab,.nils,.nils,Ab,.nils,Ab,CV] []),⟨1,some 20,.a false (.litSlice 2 0 [] []) (some (.cons (.int .i64) (.one (.sl (.one (.int .i64)))))),none,[]⟩,os 2 (.storeB 1 7 (.t 4) (.t 19)),om 3 5 20,oa 4 6 (.mv Ao)]) .ret) .skip)) (.seq [8,7,4,2] (.region [oa 0 21 (.loadB 0 (some 7) (.t 2)),oF 1 22 GM [(.t 21)],oa 2 8 (.allocB 2 [Ab,.nils,.nils,Ab,.nils,Ab,CV]),os 3 (.storeB 2 7 (.t 8) (.t 22))]) (.seq [8,4,2] (.region [oa 0 23 (.fieldA 4 (.t 8)),oa 1 24 (.loadB 2 none (.t 23)),om 2 25 7,oF 3 26 GG [(.t 24),(.t 25)],oa 4 27 (.fieldA 4 (.t 8)),os 5 (.storeB 2 1 (.t 27) (.t 26))]) (.seq [6,5,4] (.region [oa 0 28 (.loadB 2 (some 7) (.t 8)),oa 1 29 (.fieldA 4 (.t 2)),xA 2 30 (.loadB 0 none (.t 29)) [1],oa 4 32 (.fieldA 4 (.t 8)),xA 5 33 (.loadB 2 none (.t 32)) [4],xF 3 31 EX [(.t 30)] [1,2],xF 6 34 EX [(.t 33)] [1,2,3,4,5],⟨7,some 35,.a false (.litSlice 2 1 [Ab,.nils] [(0,2,(.t 34))]) (some (.cons (.int .i64) (.one (.sl (.one (.int .i64)))))),none,[1,2,3,4,5,6]⟩,xF 8 36 H5 [(.t 31),(.t 35)] [1,2,3,4,5,6,7],⟨9,none,.clm (.t 8) 28 (.storeB 1 7 (.t 4) (.t 28)),none,[0,1,2,3,4,5,6,7,8]⟩,xA 10 5 (.mv (.t 36)) (rg 10),xA 11 6 (.mv AU) (rg 11)]) .ret))))))
def Ko:Fn:=⟨⟨2,37,3,false,[.cell 4 (some 7),.tmp 5,.tmp 6],sV⟩,[.agg [AA,(.frz,.sl (.one (.sl BD))),(.frz,.sl (.one (.sl BM))),AA,(.frz,.sl Bz),AA,(.frz,.bool)],.one .frz (.int .i64)],.tup [.agg [An,(.own,.sl (.one (.sl BD))),(.own,.sl (.one (.sl BM))),An,(.own,.sl Bz),An,(.own,.bool)],.one .own (.sl (.cons (.int .i64) (.one (.sl (.one (.int .i64)))))),.one .own (.bool)]⟩
theorem sN:Ko.A:=AV ⟨fX,Yr,YX,Ym,Qu,Qu,dW,trivial⟩
def QR:HN->Ce×E8×Bool:=Ko.V
def QK:HN->Prop:=Ko.O
theorem sO:Ko.B:=AW ⟨fM,Yo,YP,Yg,Qr,Qr,dZ,trivial⟩ (by kernel_rfl) (λ x=>by kernel_rfl)
def pW:DCode:=(.seq [2,1] (.region [oa 0 1 (.boxB 0 7 (.t 0)),oa 1 2 (.allocB 1 [Ab,.nils,.nils,Ab,.nils,Ab,CV])]) (.seq [2,1] (.region [oa 0 3 (.fieldA 0 (.t 1)),oa 1 4 (.loadB 0 (some 2) (.t 3)),oF 2 5 Kb [(.t 4)],oa 3 6 (.fieldA 0 (.t 1)),os 4 (.storeB 0 2 (.t 6) (.t 5))]) (.seq [2,1] (.region [oa 0 7 (.fieldA 2 (.t 1)),oa 1 8 (.loadB 0 none (.t 7)),oF 2 9 Ka [(.t 8)],oa 3 10 (.fieldA 2 (.t 1)),os 4 (.storeB 0 1 (.t 10) (.t 9))]) (.seq [2,1] (.region [oa 0 11 (.fieldA 4 (.t 1)),oa 1 12 (.loadB 0 none (.t 11)),oa 2 13 (.app 5 (.c .nils) (.t 12)),oa 3 14 (.fieldA 4 (.t 1)),os 4 (.storeB 0 1 (.t 14) (.t 13))]) (.seq [2] (.region [ob 0 15 (.loadB 0 (some 7) (.t 1)),os 1 (.storeB 1 7 (.t 2) (.t 15))]) .ret)))))
def J7:Fn:=⟨⟨1,16,2,false,[.cell 2 (some 7)],pW⟩,[.agg [AA,(.frz,.sl (.one (.sl BD))),(.frz,.sl (.one (.sl BM))),AA,(.frz,.sl Bz),AA,(.frz,.bool)]],.one (.agg [An,(.own,.sl (.one (.sl BD))),(.own,.sl (.one (.sl BM))),An,(.own,.sl Bz),An,(.own,.bool)])⟩
theorem qd:J7.A:=AV ⟨pZ,pU,trivial⟩
def B4:Ce->Int×DQ×C9×Int×Bt×Int×Bool:=J7.V
def Qj:Ce->Prop:=J7.O
theorem qc:J7.B:=AW ⟨pz,pq,trivial⟩ (by kernel_rfl) (λ x=>by kernel_rfl)
def oU:DCode:=(.seq [2,1] (.region [oa 0 2 (.boxB 0 2 (.t 0)),oa 1 4 (.mv (.c .nils))]) (.seq [5,2,1] (.region [oa 0 5 (.mv (.c .nils))]) (.seq [5] (.seq [10,9,8,5,2] (.region [on 0 8 1,oa 1 9 (.len (.t 8)),oi 2 10 0]) (.block 0 (.loop [2,5,8,9,10] 1 (.seq [11,10,9,8,5,2] (.region [oa 0 11 (.bin .lss (.t 10) (.t 9))]) (.seq [10,9,8,5,2] (.cond (.t 11) .skip (.exit 0)) (.seq [10,9,8,5,2] (.block 1 (.seq [10,9,8,7,5,2] (.region [oa 0 12 (.indexA 2 (.t 8) (.t 10)),ob 1 13 (.loadH (some 2) (.t 12)),oa 2 7 (.allocB 1 [Ab,.nils]),os 3 (.storeB 1 2 (.t 7) (.t 13))]) (.seq [10,9,8,7,5,2] (.seq [17,10,9,8,7,5,2] (.region [oa 0 14 (.loadB 0 (some 2) (.t 2)),oa 1 15 (.loadB 1 (some 2) (.t 7)),oF 2 16 Kd [(.t 14),(.t 15)],oa 3 17 (.un .not (.t 16))]) (.cond (.t 17) (.region [om 0 18 5,ob 1 19 (.loadB 1 (some 2) (.t 7)),⟨2,some 20,.a false (.litSlice 2 1 [Ab,.nils] [(0,2,(.t 19))]) (some (.cons (.int .i64) (.one (.slf (.one (.int .i64)))))),none,[]⟩,oa 3 21 (.app 2 (.t 18) (.t 20)),om 4 5 21]) .skip)) (.region [ob 0 22 (.loadB 1 (some 2) (.t 7)),os 1 (.storeB 0 2 (.t 2) (.t 22))])))) (.region [oa 0 23 (.bin .add (.t 10) Au),om 1 10 23]))))))) (.seq [4] (.region [om 0 24 5,om 1 4 24]) .ret))))
def HW:Fn:=⟨⟨2,25,2,false,[.tmp 4],oU⟩,[.agg [AA,(.frz,.sl (.one (.int .i64)))],.one .frz (.sl (.cons (.int .i64) (.one (.sl (.one (.int .i64))))))],.one (.one .own (.sl (.cons (.int .i64) (.one (.slf (.one (.int .i64)))))))⟩
theorem oV:HW.A:=AV ⟨pH,trivial⟩
def Qc:JJ->List DU:=HW.V
def Qb:JJ->Prop:=HW.O
theorem oW:HW.B:=AW ⟨p6,trivial⟩ (by kernel_rfl) (λ x=>by kernel_rfl)
def pV:DCode:=(.seq [0] (.region [oa 0 2 (.mv Ao)]) (.seq [2] (.region [om 0 3 0,oF 1 4 BH [(.t 3),Au,(.c (.int .i64 36))],om 2 5 4,og 3 6 (.mv (.t 0)) 5 false,og 4 7 (.bin .eql (.t 6) (.c (.int .i64 39))) 5 false,oa 5 8 (.pick (.t 5) AU (.t 7)),om 6 9 8,og 7 10 (.mv (.t 0)) 9 false,og 8 11 (.bin .eql (.t 10) (.c (.int .i64 42))) 9 false,oa 9 12 (.pick (.t 9) AU (.t 11)),om 10 2 12]) .ret))
def J6:Fn:=⟨⟨1,13,0,true,[.tmp 2],pV⟩,[.one .frz (.int .i64)],.one (.one .own (.bool))⟩
theorem pn:J6.A:=AV ⟨Gc,trivial⟩
def Ez:Int->Bool:=J6.V
def Yd:Int->Prop:=J6.O
theorem pD:J6.B:=AW ⟨Gd,trivial⟩ (by kernel_rfl) (λ x=>by kernel_rfl)
def vP:DCode:=(.seq [4,3,0] (.region [oa 0 3 (.boxB 0 4 (.t 1)),oa 1 4 (.allocB 1 [Ab,Ab,Ab,Ab])]) (.seq [4,3,0] (.region [oa 0 5 (.fieldA 2 (.t 3)),xA 1 6 (.loadB 0 none (.t 5)) (rg 1),om 2 7 0,xA 3 8 (.nilck (.t 7)) [2],xA 4 9 (.fieldA 5 (.t 8)) [2,3],xA 5 10 (.loadH none (.t 9)) [2,3,4],xA 6 11 (.bin .or (.t 6) (.t 10)) (rg 6),xA 7 12 (.fieldA 2 (.t 3)) (rg 7),xS 8 (.storeB 0 1 (.t 12) (.t 11)) (rg 8)]) (.seq [4,3,0] (.region [om 0 13 0,oa 1 14 (.nilck (.t 13)),oa 2 15 (.fieldA 5 (.t 14)),os 3 (.storeH 1 (.t 15) AD)]) (.seq [4,3,0] (.seq [19,4,3,0] (.region [oa 0 16 (.fieldA 1 (.t 3)),oa 1 17 (.loadB 0 none (.t 16)),oF 2 18 J6 [(.t 17)],oa 3 19 (.un .not (.t 18))]) (.cond (.t 19) (.region [om 0 20 0,oa 1 21 (.nilck (.t 20)),oa 2 22 (.fieldA 6 (.t 21)),os 3 (.storeH 1 (.t 22) Ao)]) .skip)) (.seq [4,3] (.seq [37,4,3] (.region [om 0 23 0,oa 1 24 (.nilck (.t 23)),oa 2 25 (.fieldA 6 (.t 24)),oa 3 26 (.loadH none (.t 25)),om 4 27 26,og 5 28 (.fieldA 1 (.t 3)) 27 true,og 6 29 (.loadB 0 none (.t 28)) 27 true,og 7 30 (.bin .leq (.t 29) (.c (.int .i64 26))) 27 true,oa 8 31 (.pick (.t 27) (.t 30) Ao),om 9 32 31,og 10 33 (.fieldA 2 (.t 3)) 32 true,og 11 34 (.loadB 0 none (.t 33)) 32 true,og 12 35 (.bin .andNot (.t 34) (.c (.int .i64 2))) 32 true,og 13 36 (.bin .eql (.t 35) AD) 32 true,oa 14 37 (.pick (.t 32) (.t 36) Ao)]) (.cond (.t 37) (.region [oa 0 38 (.fieldA 2 (.t 3)),os 1 (.storeB 0 1 (.t 38) (.c (.int .i64 2)))]) .skip)) (.seq [4] (.region [ob 0 39 (.loadB 0 (some 4) (.t 3)),os 1 (.storeB 1 4 (.t 4) (.t 39))]) .ret))))))
def Lw:DFun:=⟨2,40,2,false,[.cell 4 (some 4)],vP⟩
@[irreducible] def ON:Bc:=EK Lw.er.er
@[irreducible] def Q8:Ca:=C7 Lw.er
theorem wi:D1 ON Q8:=by unfold ON Q8;exact FR (f:=Lw.er) ⟨pn,trivial⟩
def Vn:List HT:=[.agg [AA,AA,AA,AA]]
def Vp:List (Ql×CT):=[An,(.own,.sl (.one (.sl BD))),(.own,.sl (.one (.sl BM))),An,(.own,.sl Bz),An,(.own,.bool)]
def Vy:QT:=.one (.agg [An,An,An,An])
def Vj:List (Ql×CT):=[An,An,An,An]
@[irreducible] def Rc(x:PO):CE×Ce:=(shut λ x=>K8 Lw Vn Vj Vp Vy x).1 x
@[irreducible] def Q1(x:PO):Prop:=(shut λ x=>K3 Lw Vn Vj Vp Vy x).1 x
def gZ:CH:=LN Vn Vj Vp Vy Q1 Rc
theorem vF:DM Q8 gZ:=by unfold Q8;exact OV (f:=Lw) (hs:=Vn) (c2:=Vj) (cs:=Vp) (q:=Vy) ⟨pD,trivial⟩ (by kernel_rfl) (λ x=>by kernel_rfl) (λ x h=>by unfold Q1 at h;exact Eq.mp (congrFun (shut _).2 x) h) (λ x=>by unfold Rc;exact(congrFun (shut _).2 x).symm)
def rA:DCode:=(.seq [4,3,0] (.region [oa 0 3 (.boxB 0 4 (.t 1)),oa 1 4 (.allocB 1 [Ab,Ab,Ab,Ab])]) (.seq [4,3] (.seq [6,4,3,0] (.region [oa 0 5 (.fieldA 0 (.t 3)),oa 1 6 (.loadB 0 none (.t 5))]) (.block 0 (.seq [7,6,4,3,0] (.region [oa 0 8 (.bin .eql (.t 6) (.c (.int .i64 2))),om 1 7 8]) (.cond (.t 7) (.seq [11,4,3,0] (.region [oa 0 9 (.fieldA 1 (.t 3)),oa 1 10 (.loadB 0 none (.t 9)),oa 2 11 (.bin .gtr (.t 10) AD)]) (.cond (.t 11) (.seq [4] (.region [om 0 12 0,oa 1 13 (.loadB 0 (some 4) (.t 3)),op 2 14 ON Q8 gZ [(.t 12),(.t 13)],os 3 (.storeB 1 4 (.t 4) (.t 14))]) .ret) .skip)) (.seq [15,6,4,3,0] (.region [oa 0 16 (.bin .eql (.t 6) (.c (.int .i64 4))),om 1 15 16]) (.cond (.t 15) (.region [om 0 17 0,om 1 18 0,xA 2 19 (.nilck (.t 18)) [1],xA 3 20 (.fieldA 3 (.t 19)) [1,2],xA 4 21 (.loadH none (.t 20)) [1,2,3],oa 5 22 (.fieldA 3 (.t 3)),xA 6 23 (.loadB 0 none (.t 22)) [5],xA 7 24 (.bin .shl Au (.t 23)) [5,6],xA 8 25 (.bin .xor (.t 21) (.t 24)) [1,2,3,4,5,6,7],xA 9 26 (.nilck (.t 17)) (rg 9),xA 10 27 (.fieldA 3 (.t 26)) (rg 10),xS 11 (.storeH 1 (.t 27) (.t 25)) (rg 11)]) (.seq [28,6,4,3,0] (.region [oa 0 29 (.bin .eql (.t 6) (.c (.int .i64 5))),om 1 28 29]) (.cond (.t 28) (.region [om 0 30 0,oa 1 31 (.fieldA 3 (.t 3)),oa 2 32 (.loadB 0 none (.t 31)),oa 3 33 (.bin .shl Au (.t 32)),oa 4 34 (.bin .andNot (.t 33) Au),oa 5 35 (.nilck (.t 30)),oa 6 36 (.fieldA 3 (.t 35)),os 7 (.storeH 1 (.t 36) (.t 34))]) (.seq [37,6,4,3,0] (.region [oa 0 38 (.bin .eql (.t 6) (.c (.int .i64 8))),om 1 37 38]) (.cond (.t 37) (.seq [48,4,3,0] (.region [om 0 39 0,xA 1 40 (.nilck (.t 39)) (rg 1),xA 2 41 (.fieldA 5 (.t 40)) (rg 2),xA 3 42 (.loadH none (.t 41)) (rg 3),oa 4 43 (.fieldA 2 (.t 3)),xA 5 44 (.loadB 0 none (.t 43)) [4],xA 6 45 (.bin .and (.t 42) (.t 44)) (rg 6),oa 7 46 (.fieldA 2 (.t 3)),xA 8 47 (.loadB 0 none (.t 46)) [7],xA 9 48 (.bin .eql (.t 45) (.t 47)) (rg 9)]) (.cond (.t 48) (.region [om 0 49 0,om 1 50 0,xA 2 51 (.nilck (.t 50)) [1],xA 3 52 (.fieldA 5 (.t 51)) [1,2],xA 4 53 (.loadH none (.t 52)) [1,2,3],oa 5 54 (.fieldA 2 (.t 3)),xA 6 55 (.loadB 0 none (.t 54)) [5],xA 7 56 (.bin .andNot (.t 53) (.t 55)) [1,2,3,4,5,6],xA 8 57 (.nilck (.t 49)) (rg 8),xA 9 58 (.fieldA 5 (.t 57)) (rg 9),xS 10 (.storeH 1 (.t 58) (.t 56)) (rg 10)]) (.region [om 0 59 0,om 1 60 0,xA 2 61 (.nilck (.t 60)) [1],xA 3 62 (.fieldA 5 (.t 61)) [1,2],xA 4 63 (.loadH none (.t 62)) [1,2,3],oa 5 64 (.fieldA 2 (.t 3)),xA 6 65 (.loadB 0 none (.t 64)) [5],xA 7 66 (.bin .or (.t 63) (.t 65)) [1,2,3,4,5,6],xA 8 67 (.nilck (.t 59)) (rg 8),xA 9 68 (.fieldA 5 (.t 67)) (rg 9),xS 10 (.storeH 1 (.t 68) (.t 66)) (rg 10)]))) (.seq [69,4,3,0] (.region [oa 0 70 (.bin .eql (.t 6) (.c (.int .i64 10))),om 1 69 70]) (.cond (.t 69) (.region [om 0 71 0,om 1 72 0,oa 2 73 (.nilck (.t 72)),oa 3 74 (.fieldA 6 (.t 73)),oa 4 75 (.loadH none (.t 74)),oa 5 76 (.un .not (.t 75)),oa 6 77 (.nilck (.t 71)),oa 7 78 (.fieldA 6 (.t 77)),os 8 (.storeH 1 (.t 78) (.t 76))]) .skip)))))))))))) (.seq [4] (.region [ob 0 79 (.loadB 0 (some 4) (.t 3)),os 1 (.storeB 1 4 (.t 4) (.t 79))]) .ret)))
def Lk:DFun:=⟨2,80,2,false,[.cell 4 (some 4)],rA⟩
@[irreducible] def Oe:Bc:=EK Lk.er.er
@[irreducible] def QJ:Ca:=C7 Lk.er
theorem q8:D1 Oe QJ:=by unfold Oe QJ;exact FR (f:=Lk.er) ⟨wi,trivial⟩
def Un:List HT:=[.agg [AA,AA,AA,AA]]
def Ug:List (Ql×CT):=[An,(.own,.sl (.one (.sl BD))),(.own,.sl (.one (.sl BM))),An,(.own,.sl Bz),An,(.own,.bool)]
def Uf:QT:=.one (.agg [An,An,An,An])
def TM:List (Ql×CT):=[An,An,An,An]
@[irreducible] def Od(x:PO):CE×Ce:=(shut λ x=>K8 Lk Un TM Ug Uf x).1 x
@[irreducible] def N3(x:PO):Prop:=(shut λ x=>K3 Lk Un TM Ug Uf x).1 x
def fo:CH:=LN Un TM Ug Uf N3 Od
theorem r7:DM QJ fo:=by unfold QJ;exact OV (f:=Lk) (hs:=Un) (c2:=TM) (cs:=Ug) (q:=Uf) ⟨vF,trivial⟩ (by kernel_rfl) (λ x=>by kernel_rfl) (λ x h=>by unfold N3 at h;exact Eq.mp (congrFun (shut _).2 x) h) (λ x=>by unfold Od;exact(congrFun (shut _).2 x).symm)
def vY:DCode:=(.seq [6,3,2,1] (.region [oa 0 3 (.boxB 0 7 (.t 0)),oa 1 6 (.allocB 1 [Ab,.nils,.nils,Ab,.nils,Ab,CV]),oa 2 7 (.mv (.c .nils)),oa 3 8 (.mv Ao)]) (.seq [6,3,2,1] (.seq [29,6,3,2,1] (.region [oa 0 12 (.loadB 0 (some 7) (.t 3)),oF 1 13 GH [(.t 12)],oa 2 14 (.un .not (.t 13)),om 3 15 14,og 4 16 (.mv (.t 1)) 15 false,og 5 17 (.fieldA 0 (.t 3)) 15 false,og 6 18 (.fieldA 0 (.t 17)) 15 false,og 7 19 (.loadB 0 none (.t 18)) 15 false,og 8 20 (.bin .sub (.t 19) Au) 15 false,⟨9,some 21,.call false BH.S BH.P BH.D [(.t 16),AD,(.t 20)],(some (15,false)),[]⟩,og 10 22 (.un .not (.t 21)) 15 false,oa 11 23 (.pick (.t 15) AU (.t 22)),om 12 24 23,og 13 25 (.loadB 0 (some 7) (.t 3)) 24 false,og 14 26 (.mv (.t 1)) 24 false,⟨15,some 27,.call false GP.S GP.P GP.D [(.t 25),(.t 26)],(some (24,false)),[]⟩,og 16 28 (.bin .geq (.t 27) AD) 24 false,oa 17 29 (.pick (.t 24) AU (.t 28))]) (.cond (.t 29) (.seq [8,7,6] (.region [oa 0 30 (.build [Ab,.nils,.nils,Ab,.nils,Ab,CV] []),⟨1,some 31,.a false (.litSlice 2 0 [] []) (some (.cons (.int .i64) (.one (.sl (.one (.int .i64)))))),none,[]⟩,os 2 (.storeB 1 7 (.t 6) (.t 30)),om 3 7 31,oa 4 8 (.mv Ao)]) .ret) .skip)) (.seq [9,6,3,2,1] (.region [oa 0 32 (.loadB 0 (some 7) (.t 3)),oF 1 33 GM [(.t 32)],oa 2 9 (.allocH [Ab,.nils,.nils,Ab,.nils,Ab,CV]),os 3 (.storeH 7 (.t 9) (.t 33))]) (.seq [10,9,6,3,2,1] (.region [oa 9 10 (.allocH [Ab,Ab,Ab,Ab]),oa 0 34 (.fieldA 0 (.t 3)),xA 1 35 (.loadB 0 (some 2) (.t 34)) (rg 1),oa 2 36 (.fieldA 3 (.t 3)),xA 3 37 (.loadB 0 none (.t 36)) [2],oa 4 38 (.fieldA 4 (.t 3)),xA 5 39 (.loadB 0 none (.t 38)) [4],om 7 41 1,xF 6 40 Kk [(.t 37),(.t 39)] [2,3,4,5],xF 8 42 Kj [(.t 35),(.t 40),(.t 41)] (rg 8),xS 10 (.storeH 4 (.t 10) (.t 42)) (rg 10)]) (.seq [10,9,6,3,1] (.seq [43,10,9,6,3,1] (.region [om 0 43 2]) (.cond (.t 43) (.region [oa 0 44 (.loadH (some 4) (.t 10)),oF 1 45 Kw [(.t 44)],os 2 (.storeH 4 (.t 10) (.t 45))]) (.region [oa 0 46 (.loadH (some 4) (.t 10)),oF 1 47 KB [(.t 46)],os 2 (.storeH 4 (.t 10) (.t 47))]))) (.seq [10,9,6,3,1] (.region [oa 0 48 (.loadH (some 4) (.t 10)),op 1 49 Oe QJ fo [(.t 9),(.t 48)],os 2 (.storeH 4 (.t 10) (.t 49))]) (.seq [10,9,6,3] (.region [oa 0 50 (.fieldA 4 (.t 9)),ob 1 51 (.loadH none (.t 50)),om 2 52 1,ob 3 53 (.loadH (some 4) (.t 10)),oa 4 54 (.build [Ab,Ab,Ab,Ab,Ab] [(0,1,(.t 52)),(1,4,(.t 53))]),⟨5,some 55,.a false (.litSlice 5 1 [Ab,Ab,Ab,Ab,Ab] [(0,5,(.t 54))]) (some Bz),none,[]⟩,oa 6 56 (.app 5 (.t 51) (.t 55)),oa 7 57 (.fieldA 4 (.t 9)),os 8 (.storeH 1 (.t 57) (.t 56))]) (.seq [11,10,9,6,3] (.region [⟨0,some 58,.a false (.litSlice 2 0 [] []) (some (.cons (.int .i64) (.one (.sl (.one (.int .i64)))))),none,[]⟩,om 1 11 58]) (.seq [11,9,6,3] (.seq [69,11,10,9,6,3] (.region [oa 0 59 (.fieldA 0 (.t 10)),oa 1 60 (.loadH none (.t 59)),oa 2 61 (.bin .eql (.t 60) (.c (.int .i64 9))),om 3 62 61,og 4 63 (.fieldA 3 (.t 10)) 62 true,og 5 64 (.loadH none (.t 63)) 62 true,og 6 65 (.fieldA 2 (.t 3)) 62 true,og 7 66 (.loadB 0 none (.t 65)) 62 true,og 8 67 (.len (.t 66)) 62 true,og 9 68 (.bin .lss (.t 64) (.t 67)) 62 true,oa 10 69 (.pick (.t 62) (.t 68) Ao)]) (.cond (.t 69) (.region [oa 0 70 (.fieldA 4 (.t 9)),xA 1 71 (.loadH none (.t 70)) (rg 1),oa 2 72 (.fieldA 2 (.t 3)),xA 3 73 (.loadB 0 none (.t 72)) [2],oa 4 74 (.fieldA 3 (.t 10)),xA 5 75 (.loadH none (.t 74)) [4],xA 6 76 (.indexA 1 (.t 73) (.t 75)) [2,3,4,5],xA 7 77 (.loadH none (.t 76)) [2,3,4,5,6],xF 8 78 J1 [(.t 71),(.t 77)] (rg 8),xA 9 11 (.mv (.t 78)) (rg 9)]) .skip)) (.seq [11,9,6,3] (.region [om 0 79 11,oa 1 80 (.fieldA 4 (.t 9)),oa 2 81 (.loadH none (.t 80)),oF 3 82 EX [(.t 81)],⟨4,some 83,.a false (.litSlice 2 1 [Ab,.nils] [(0,2,(.t 82))]) (some (.cons (.int .i64) (.one (.sl (.one (.int .i64)))))),none,[]⟩,oa 5 84 (.app 2 (.t 79) (.t 83)),om 6 11 84]) (.seq [8,7,6] (.region [oa 0 85 (.loadH (some 7) (.t 9)),oa 1 86 (.fieldA 4 (.t 3)),xA 2 87 (.loadB 0 none (.t 86)) [1],on 4 89 11,xF 3 88 EX [(.t 87)] [1,2],xF 5 90 H5 [(.t 88),(.t 89)] [1,2,3,4],⟨6,none,.clm (.t 9) 85 (.storeB 1 7 (.t 6) (.t 85)),none,[0,1,2,3,4,5]⟩,xA 7 7 (.mv (.t 90)) (rg 7),xA 8 8 (.mv AU) (rg 8)]) .ret)))))))))))
def It:Fn:=⟨⟨3,91,2,false,[.cell 6 (some 7),.tmp 7,.tmp 8],vY⟩,[.agg [AA,(.frz,.sl (.one (.sl BD))),(.frz,.sl (.one (.sl BM))),AA,(.frz,.sl Bz),AA,(.frz,.bool)],.one .frz (.int .i64),.one .frz (.bool)],.tup [.agg [An,(.own,.sl (.one (.sl BD))),(.own,.sl (.one (.sl BM))),An,(.own,.sl Bz),An,(.own,.bool)],.one .own (.sl (.cons (.int .i64) (.one (.sl (.one (.int .i64)))))),.one .own (.bool)]⟩
theorem gx:It.A:=AV ⟨Yr,Gc,fX,YX,rS,rQ,ug,vN,q8,pe,Qu,Qu,dW,trivial⟩
def Iv:Fc->Ce×E8×Bool:=It.V
def Lu:Fc->Prop:=It.O
theorem gB:It.B:=AW ⟨Yo,Gd,fM,YP,r8,qY,uC,wB,r7,pf,Qr,Qr,dZ,trivial⟩ (by kernel_rfl) (λ x=>by kernel_rfl)
def pJ:DCode:=(.seq [0] (.region [oa 0 2 (.mv Ao)]) (.seq [2] (.region [om 0 3 0,oa 1 4 (.bin .geq (.t 3) Au),om 2 5 4,og 3 6 (.mv (.t 0)) 5 true,og 4 7 (.bin .leq (.t 6) (.c (.int .i64 36))) 5 true,oa 5 8 (.pick (.t 5) (.t 7) Ao),om 6 9 8,og 7 10 (.mv (.t 0)) 9 false,og 8 11 (.bin .eql (.t 10) (.c (.int .i64 39))) 9 false,oa 9 12 (.pick (.t 9) AU (.t 11)),om 10 13 12,og 11 14 (.mv (.t 0)) 13 false,og 12 15 (.bin .eql (.t 14) (.c (.int .i64 42))) 13 false,oa 13 16 (.pick (.t 13) AU (.t 15)),om 14 2 16]) .ret))
def FK:Fn:=⟨⟨1,17,0,true,[.tmp 2],pJ⟩,[.one .frz (.int .i64)],.one (.one .own (.bool))⟩
theorem dP:FK.A:=AV trivial
def Jf:Int->Bool:=FK.V
def Qf:Int->Prop:=FK.O
theorem dR:FK.B:=AW trivial (by kernel_rfl) (λ x=>by kernel_rfl)
def u9:DCode:=(.seq [4,3,0] (.region [oa 0 3 (.boxB 0 4 (.t 1)),oa 1 4 (.allocB 1 [Ab,Ab,Ab,Ab])]) (.seq [4,3] (.seq [6,4,3,0] (.region [oa 0 5 (.fieldA 0 (.t 3)),oa 1 6 (.loadB 0 none (.t 5))]) (.block 0 (.seq [7,6,4,3,0] (.region [oa 0 8 (.bin .eql (.t 6) (.c (.int .i64 2))),om 1 7 8]) (.cond (.t 7) (.seq [4,3,0] (.seq [11,4,3,0] (.region [oa 0 9 (.fieldA 1 (.t 3)),oa 1 10 (.loadB 0 none (.t 9)),oa 2 11 (.bin .eql (.t 10) AD)]) (.cond (.t 11) (.seq [4] (.region [ob 0 12 (.loadB 0 (some 4) (.t 3)),os 1 (.storeB 1 4 (.t 4) (.t 12))]) .ret) .skip)) (.seq [4,3,0] (.region [oa 0 13 (.fieldA 2 (.t 3)),xA 1 14 (.loadB 0 none (.t 13)) (rg 1),om 2 15 0,xA 3 16 (.nilck (.t 15)) [2],xA 4 17 (.fieldA 5 (.t 16)) [2,3],xA 5 18 (.loadH none (.t 17)) [2,3,4],xA 6 19 (.bin .or (.t 14) (.t 18)) (rg 6),xA 7 20 (.fieldA 2 (.t 3)) (rg 7),xS 8 (.storeB 0 1 (.t 20) (.t 19)) (rg 8)]) (.seq [4,3,0] (.region [om 0 21 0,oa 1 22 (.nilck (.t 21)),oa 2 23 (.fieldA 5 (.t 22)),os 3 (.storeH 1 (.t 23) AD)]) (.seq [4,3,0] (.region [om 0 24 0,om 1 25 0,oa 2 26 (.nilck (.t 25)),oa 3 27 (.fieldA 6 (.t 26)),oa 4 28 (.loadH none (.t 27)),om 5 29 28,og 6 30 (.fieldA 1 (.t 3)) 29 true,og 7 31 (.loadB 0 none (.t 30)) 29 true,⟨8,some 32,.call false FK.S FK.P FK.D [(.t 31)],(some (29,true)),[]⟩,oa 9 33 (.pick (.t 29) (.t 32) Ao),oa 10 34 (.nilck (.t 24)),oa 11 35 (.fieldA 6 (.t 34)),os 12 (.storeH 1 (.t 35) (.t 33))]) (.seq [50,4,3] (.region [om 0 36 0,oa 1 37 (.nilck (.t 36)),oa 2 38 (.fieldA 6 (.t 37)),oa 3 39 (.loadH none (.t 38)),om 4 40 39,og 5 41 (.fieldA 1 (.t 3)) 40 true,og 6 42 (.loadB 0 none (.t 41)) 40 true,og 7 43 (.bin .leq (.t 42) (.c (.int .i64 26))) 40 true,oa 8 44 (.pick (.t 40) (.t 43) Ao),om 9 45 44,og 10 46 (.fieldA 2 (.t 3)) 45 true,og 11 47 (.loadB 0 none (.t 46)) 45 true,og 12 48 (.bin .andNot (.t 47) (.c (.int .i64 2))) 45 true,og 13 49 (.bin .eql (.t 48) AD) 45 true,oa 14 50 (.pick (.t 45) (.t 49) Ao)]) (.cond (.t 50) (.region [oa 0 51 (.fieldA 2 (.t 3)),os 1 (.storeB 0 1 (.t 51) (.c (.int .i64 2)))]) .skip)))))) (.seq [52,6,4,3,0] (.region [oa 0 53 (.bin .eql (.t 6) (.c (.int .i64 4))),om 1 52 53]) (.cond (.t 52) (.region [om 0 54 0,xA 1 55 (.nilck (.t 54)) (rg 1),xA 2 56 (.fieldA 3 (.t 55)) (rg 2),xA 3 57 (.loadH none (.t 56)) (rg 3),oa 4 58 (.fieldA 3 (.t 3)),xA 5 59 (.loadB 0 none (.t 58)) [4],xA 6 60 (.bin .shl Au (.t 59)) [4,5],xA 7 61 (.bin .xor (.t 57) (.t 60)) (rg 7),xA 8 62 (.nilck (.t 54)) (rg 8),xA 9 63 (.fieldA 3 (.t 62)) (rg 9),xS 10 (.storeH 1 (.t 63) (.t 61)) (rg 10)]) (.seq [64,6,4,3,0] (.region [oa 0 65 (.bin .eql (.t 6) (.c (.int .i64 5))),om 1 64 65]) (.cond (.t 64) (.region [om 0 66 0,oa 1 67 (.fieldA 3 (.t 3)),oa 2 68 (.loadB 0 none (.t 67)),oa 3 69 (.bin .shl Au (.t 68)),oa 4 70 (.bin .andNot (.t 69) Au),oa 5 71 (.nilck (.t 66)),oa 6 72 (.fieldA 3 (.t 71)),os 7 (.storeH 1 (.t 72) (.t 70))]) (.seq [73,6,4,3,0] (.region [oa 0 74 (.bin .eql (.t 6) (.c (.int .i64 8))),om 1 73 74]) (.cond (.t 73) (.seq [84,4,3,0] (.region [om 0 75 0,xA 1 76 (.nilck (.t 75)) (rg 1),xA 2 77 (.fieldA 5 (.t 76)) (rg 2),xA 3 78 (.loadH none (.t 77)) (rg 3),oa 4 79 (.fieldA 2 (.t 3)),xA 5 80 (.loadB 0 none (.t 79)) [4],xA 6 81 (.bin .and (.t 78) (.t 80)) (rg 6),oa 7 82 (.fieldA 2 (.t 3)),xA 8 83 (.loadB 0 none (.t 82)) [7],xA 9 84 (.bin .eql (.t 81) (.t 83)) (rg 9)]) (.cond (.t 84) (.region [om 0 85 0,xA 1 86 (.nilck (.t 85)) (rg 1),xA 2 87 (.fieldA 5 (.t 86)) (rg 2),xA 3 88 (.loadH none (.t 87)) (rg 3),oa 4 89 (.fieldA 2 (.t 3)),xA 5 90 (.loadB 0 none (.t 89)) [4],xA 6 91 (.bin .andNot (.t 88) (.t 90)) (rg 6),xA 7 92 (.nilck (.t 85)) (rg 7),xA 8 93 (.fieldA 5 (.t 92)) (rg 8),xS 9 (.storeH 1 (.t 93) (.t 91)) (rg 9)]) (.region [om 0 94 0,xA 1 95 (.nilck (.t 94)) (rg 1),xA 2 96 (.fieldA 5 (.t 95)) (rg 2),xA 3 97 (.loadH none (.t 96)) (rg 3),oa 4 98 (.fieldA 2 (.t 3)),xA 5 99 (.loadB 0 none (.t 98)) [4],xA 6 100 (.bin .or (.t 97) (.t 99)) (rg 6),xA 7 101 (.nilck (.t 94)) (rg 7),xA 8 102 (.fieldA 5 (.t 101)) (rg 8),xS 9 (.storeH 1 (.t 102) (.t 100)) (rg 9)]))) (.seq [103,4,3,0] (.region [oa 0 104 (.bin .eql (.t 6) (.c (.int .i64 10))),om 1 103 104]) (.cond (.t 103) (.region [om 0 105 0,om 1 106 0,oa 2 107 (.nilck (.t 106)),oa 3 108 (.fieldA 6 (.t 107)),oa 4 109 (.loadH none (.t 108)),oa 5 110 (.un .not (.t 109)),oa 6 111 (.nilck (.t 105)),oa 7 112 (.fieldA 6 (.t 111)),os 8 (.storeH 1 (.t 112) (.t 110))]) .skip)))))))))))) (.seq [4] (.region [ob 0 113 (.loadB 0 (some 4) (.t 3)),os 1 (.storeB 1 4 (.t 4) (.t 113))]) .ret)))
def Ls:DFun:=⟨2,114,2,false,[.cell 4 (some 4)],u9⟩
@[irreducible] def OJ:Bc:=EK Ls.er.er
@[irreducible] def Q5:Ca:=C7 Ls.er
theorem uL:D1 OJ Q5:=by unfold OJ Q5;exact FR (f:=Ls.er) ⟨dP,trivial⟩
def Vl:List HT:=[.agg [AA,AA,AA,AA]]
def Vi:List (Ql×CT):=[An,(.own,.sl (.one (.sl BD))),(.own,.sl (.one (.sl BM))),An,(.own,.sl Bz),An,(.own,.bool)]
def UZ:QT:=.one (.agg [An,An,An,An])
def UL:List (Ql×CT):=[An,An,An,An]
@[irreducible] def OH(x:PO):CE×Ce:=(shut λ x=>K8 Ls Vl UL Vi UZ x).1 x
@[irreducible] def Ow(x:PO):Prop:=(shut λ x=>K3 Ls Vl UL Vi UZ x).1 x
def gv:CH:=LN Vl UL Vi UZ Ow OH
theorem ud:DM Q5 gv:=by unfold Q5;exact OV (f:=Ls) (hs:=Vl) (c2:=UL) (cs:=Vi) (q:=UZ) ⟨dR,trivial⟩ (by kernel_rfl) (λ x=>by kernel_rfl) (λ x h=>by unfold Ow at h;exact Eq.mp (congrFun (shut _).2 x) h) (λ x=>by unfold OH;exact(congrFun (shut _).2 x).symm)
def wv:DCode:=(.seq [6,3,2,1] (.region [oa 0 3 (.boxB 0 7 (.t 0)),oa 1 6 (.allocB 1 [Ab,.nils,.nils,Ab,.nils,Ab,CV]),oa 2 7 (.mv (.c .nils))]) (.seq [8,6,3,2,1] (.region [oa 0 12 (.loadB 0 (some 7) (.t 3)),oF 1 13 J7 [(.t 12)],oa 2 8 (.allocH [Ab,.nils,.nils,Ab,.nils,Ab,CV]),os 3 (.storeH 7 (.t 8) (.t 13))]) (.seq [9,8,6,3,2,1] (.region [oa 0 14 (.fieldA 3 (.t 3)),oa 1 15 (.loadB 0 none (.t 14)),oa 2 16 (.fieldA 4 (.t 3)),oa 3 17 (.loadB 0 none (.t 16)),oF 4 18 Ic [(.t 15),(.t 17)],om 5 9 18]) (.seq [10,8,6,3,2,1] (.region [oa 13 10 (.allocH [Ab,Ab,Ab,Ab]),oa 0 19 (.fieldA 0 (.t 3)),xA 1 20 (.fieldA 1 (.t 19)) (rg 1),xA 2 21 (.loadB 0 none (.t 20)) (rg 2),oa 3 22 (.fieldA 0 (.t 3)),xA 4 23 (.loadB 0 (some 2) (.t 22)) [3],om 5 24 9,om 6 25 1,om 10 29 1,xF 7 26 Il [(.t 23),(.t 24),(.t 25)] [3,4,5,6],xA 8 27 (.indexA 1 (.t 21) (.t 26)) (rg 8),xA 9 28 (.loadH none (.t 27)) (rg 9),xA 11 30 (.indexA 4 (.t 28) (.t 29)) (rg 11),xB 12 31 (.loadH (some 4) (.t 30)) (rg 12),xS 14 (.storeH 4 (.t 10) (.t 31)) (rg 14)]) (.seq [10,8,6,3,1] (.seq [32,10,8,6,3,1] (.region [om 0 32 2]) (.cond (.t 32) (.region [oa 0 33 (.loadH (some 4) (.t 10)),oF 1 34 Kv [(.t 33)],os 2 (.storeH 4 (.t 10) (.t 34))]) (.region [oa 0 35 (.loadH (some 4) (.t 10)),oF 1 36 Iu [(.t 35)],os 2 (.storeH 4 (.t 10) (.t 36))]))) (.seq [10,8,6,3,1] (.region [oa 0 37 (.loadH (some 4) (.t 10)),op 1 38 OJ Q5 gv [(.t 8),(.t 37)],os 2 (.storeH 4 (.t 10) (.t 38))]) (.seq [10,8,6,3] (.region [oa 0 39 (.fieldA 4 (.t 8)),ob 1 40 (.loadH none (.t 39)),om 2 41 1,ob 3 42 (.loadH (some 4) (.t 10)),oa 4 43 (.build [Ab,Ab,Ab,Ab,Ab] [(0,1,(.t 41)),(1,4,(.t 42))]),⟨5,some 44,.a false (.litSlice 5 1 [Ab,Ab,Ab,Ab,Ab] [(0,5,(.t 43))]) (some Bz),none,[]⟩,oa 6 45 (.app 5 (.t 40) (.t 44)),oa 7 46 (.fieldA 4 (.t 8)),os 8 (.storeH 1 (.t 46) (.t 45))]) (.seq [11,10,8,6,3] (.region [oa 0 11 (.mv (.c .nils))]) (.seq [11,8,6,3] (.seq [57,11,10,8,6,3] (.region [oa 0 47 (.fieldA 0 (.t 10)),oa 1 48 (.loadH none (.t 47)),oa 2 49 (.bin .eql (.t 48) (.c (.int .i64 9))),om 3 50 49,og 4 51 (.fieldA 3 (.t 10)) 50 true,og 5 52 (.loadH none (.t 51)) 50 true,og 6 53 (.fieldA 2 (.t 3)) 50 true,og 7 54 (.loadB 0 none (.t 53)) 50 true,og 8 55 (.len (.t 54)) 50 true,og 9 56 (.bin .lss (.t 52) (.t 55)) 50 true,oa 10 57 (.pick (.t 50) (.t 56) Ao)]) (.cond (.t 57) (.region [oa 0 58 (.fieldA 4 (.t 8)),xA 1 59 (.loadH none (.t 58)) (rg 1),oa 2 60 (.fieldA 2 (.t 3)),xA 3 61 (.loadB 0 none (.t 60)) [2],oa 4 62 (.fieldA 3 (.t 10)),xA 5 63 (.loadH none (.t 62)) [4],xA 6 64 (.indexA 1 (.t 61) (.t 63)) [2,3,4,5],xA 7 65 (.loadH none (.t 64)) [2,3,4,5,6],xF 8 66 J0 [(.t 59),(.t 65)] (rg 8),xA 9 11 (.mv (.t 66)) (rg 9)]) .skip)) (.seq [11,8,6,3] (.region [om 0 67 11,oa 1 68 (.fieldA 4 (.t 8)),oa 2 69 (.loadH none (.t 68)),oF 3 70 GJ [(.t 69)],⟨4,some 71,.a false (.litSlice 2 1 [Ab,.nils] [(0,2,(.t 70))]) (some (.cons (.int .i64) (.one (.sl (.one (.int .i64)))))),none,[]⟩,oa 5 72 (.app 2 (.t 67) (.t 71)),om 6 11 72]) (.seq [7,6] (.region [oa 0 73 (.loadH (some 7) (.t 8)),oa 1 74 (.fieldA 4 (.t 3)),xA 2 75 (.loadB 0 none (.t 74)) [1],om 4 77 11,xF 3 76 GJ [(.t 75)] [1,2],⟨5,some 78,.call true HW.S HW.P HW.D [(.t 76),(.t 77)],none,[1,2,3,4]⟩,⟨6,none,.clm (.t 8) 73 (.storeB 1 7 (.t 6) (.t 73)),none,[0,1,2,3,4,5]⟩,xA 7 7 (.mv (.t 78)) (rg 7)]) .ret)))))))))))
def KA:Fn:=⟨⟨3,79,2,false,[.cell 6 (some 7),.tmp 7],wv⟩,[.agg [AA,(.frz,.sl (.one (.sl BD))),(.frz,.sl (.one (.sl BM))),AA,(.frz,.sl Bz),AA,(.frz,.bool)],.one .frz (.int .i64),.one .frz (.bool)],.tup [.agg [An,(.own,.sl (.one (.sl BD))),(.own,.sl (.one (.sl BM))),An,(.own,.sl Bz),An,(.own,.bool)],.one .own (.sl (.cons (.int .i64) (.one (.slf (.one (.int .i64))))))]⟩
theorem wu:KA.A:=AV ⟨qd,eM,fj,uD,gq,uL,o7,Ys,Ys,oV,trivial⟩
def Vq:Fc->Ce×E8:=KA.V
def Y4:Fc->Prop:=KA.O
theorem vQ:KA.B:=AW ⟨qc,eR,fy,tQ,gM,ud,o5,Yq,Yq,oW,trivial⟩ (by kernel_rfl) (λ x=>by kernel_rfl)
def vO:DCode:=(.seq [6,3,2,1] (.region [oa 0 3 (.boxB 0 7 (.t 0)),oa 1 6 (.allocB 1 [Ab,.nils,.nils,Ab,.nils,Ab,CV]),oa 2 7 (.mv (.c .nils)),oa 3 8 (.mv Ao)]) (.seq [6,3,2,1] (.seq [30,6,3,2,1] (.region [oa 0 11 (.loadB 0 (some 7) (.t 3)),oF 1 12 Kl [(.t 11)],oa 2 13 (.un .not (.t 12)),om 3 14 13,og 4 15 (.mv (.t 1)) 14 false,og 5 16 (.bin .lss (.t 15) AD) 14 false,oa 6 17 (.pick (.t 14) AU (.t 16)),om 7 18 17,og 8 19 (.mv (.t 1)) 18 false,og 9 20 (.fieldA 0 (.t 3)) 18 false,og 10 21 (.fieldA 0 (.t 20)) 18 false,og 11 22 (.loadB 0 none (.t 21)) 18 false,og 12 23 (.bin .geq (.t 19) (.t 22)) 18 false,oa 13 24 (.pick (.t 18) AU (.t 23)),om 14 25 24,og 15 26 (.loadB 0 (some 7) (.t 3)) 25 false,og 16 27 (.mv (.t 1)) 25 false,⟨17,some 28,.call false GN.S GN.P GN.D [(.t 26),(.t 27)],(some (25,false)),[]⟩,og 18 29 (.bin .geq (.t 28) AD) 25 false,oa 19 30 (.pick (.t 25) AU (.t 29))]) (.cond (.t 30) (.seq [8,7,6] (.region [oa 0 31 (.build [Ab,.nils,.nils,Ab,.nils,Ab,CV] []),os 1 (.storeB 1 7 (.t 6) (.t 31)),oa 2 7 (.mv (.c .nils)),oa 3 8 (.mv Ao)]) .ret) .skip)) (.seq [10,9,6] (.region [oa 0 33 (.loadB 0 (some 7) (.t 3)),om 1 34 1,om 2 35 2,oF 3 36 KA [(.t 33),(.t 34),(.t 35)],om 4 32 36,oa 5 37 (.extract (.t 32) 0),oa 6 38 (.extract (.t 32) 1),oa 7 9 (.allocB 2 [Ab,.nils,.nils,Ab,.nils,Ab,CV]),os 8 (.storeB 2 7 (.t 9) (.t 37)),om 9 10 38]) (.seq [8,7,6] (.region [ob 0 39 (.loadB 2 (some 7) (.t 9)),om 1 40 10,os 2 (.storeB 1 7 (.t 6) (.t 39)),om 3 7 40,oa 4 8 (.mv AU)]) .ret))))
def Kz:Fn:=⟨⟨3,41,3,false,[.cell 6 (some 7),.tmp 7,.tmp 8],vO⟩,[.agg [AA,(.frz,.sl (.one (.sl BD))),(.frz,.sl (.one (.sl BM))),AA,(.frz,.sl Bz),AA,(.frz,.bool)],.one .frz (.int .i64),.one .frz (.bool)],.tup [.agg [An,(.own,.sl (.one (.sl BD))),(.own,.sl (.one (.sl BM))),An,(.own,.sl Bz),An,(.own,.bool)],.one .own (.sl (.cons (.int .i64) (.one (.slf (.one (.int .i64)))))),.one .own (.bool)]⟩
theorem wC:Kz.A:=AV ⟨qN,fQ,wu,trivial⟩
def MK:Fc->Ce×E8×Bool:=Kz.V
def OK:Fc->Prop:=Kz.O
theorem wz:Kz.B:=AW ⟨rD,ga,vQ,trivial⟩ (by kernel_rfl) (λ x=>by kernel_rfl)
end
section
set_option maxRecDepth 100000
theorem uX (x):QV x=(x.1,(lApp [] x.2)):=(Ky.v x).trans (by kernel_rfl)
theorem tw (x):YU x=(Av (((List.length ([]:List Int))+(List.length x.2))*1)):=(Ky.o x).trans (by kernel_rfl)
def Tp(x:JJ)(x0:L7):Bool:=(iLt x0.2.1 (lLen x.2))
def Tq(x:JJ)(x0:L7):L7:=((bSel (bNot (N1 (x0.2.2,(lGet x.2 (iNat x0.2.1) (0,[]))))) (lApp x0.1 [(QV (lGet x.2 (iNat x0.2.1) (0,[])))]) x0.1),(iAdd .i64 x0.2.1 1),(lGet x.2 (iNat x0.2.1) (0,[])))
def X8(x:JJ)(x0:L7):Prop:=(((iLt x0.2.1 (lLen x.2))=true->(((((0:Int)<=x0.2.1)/\(x0.2.1<(((List.length x.2):Int))))/\(((iNat x0.2.1)<(List.length x.2))/\((Tt (x0.2.2,(lGet x.2 (iNat x0.2.1) (0,[]))))/\(((bNot (N1 (x0.2.2,(lGet x.2 (iNat x0.2.1) (0,[])))))=true->((((0:Int)<=x0.2.1)/\(x0.2.1<(((List.length x.2):Int))))/\(((iNat x0.2.1)<(List.length x.2))/\((YU (lGet x.2 (iNat x0.2.1) (0,[])))/\(Av (((List.length x0.1)+(List.length [(QV (lGet x.2 (iNat x0.2.1) (0,[])))]))*2))))))/\((bNot (N1 (x0.2.2,(lGet x.2 (iNat x0.2.1) (0,[])))))=false->True)))))/\((((0:Int)<=x0.2.1)/\(x0.2.1<(((List.length x.2):Int))))/\((iNat x0.2.1)<(List.length x.2)))))/\((iLt x0.2.1 (lLen x.2))=false->True))
theorem qp (x):Qq x=(Am (Tp x) (Tq x) ([],0,x.1)).1:=(H5.v x).trans (by kernel_rfl)
theorem qt (x):Qk x=(LoopOk (Tp x) (Tq x) (X8 x) ([],0,x.1)):=(H5.o x).trans (by kernel_rfl)
theorem sP (x):QR x=(bSel (bOr (bNot (Ga x.1)) (iLt (Fs x) 0)) ((0,[],[],0,[],0,false),[],false) (((DH x.1).1,(DH x.1).2.1,(DH x.1).2.2.1,(DH x.1).2.2.2.1,(Dg ((DH x.1).2.2.2.2.1,(Fs x))),(DH x.1).2.2.2.2.2),(Qq ((B0 x.1.2.2.2.2.1),[(B0 (Dg ((DH x.1).2.2.2.2.1,(Fs x))))])),true)):=(Ko.v x).trans (by kernel_rfl)
theorem sY (x):QK x=((QQ x)/\((N5 x.1)/\(((bOr (bNot (Ga x.1)) (iLt (Fs x) 0))=true->True)/\((bOr (bNot (Ga x.1)) (iLt (Fs x) 0))=false->((Oq x.1)/\((Mv ((DH x.1).2.2.2.2.1,(Fs x)))/\((Lh x.1.2.2.2.2.1)/\((Lh (Dg ((DH x.1).2.2.2.2.1,(Fs x))))/\((Qk ((B0 x.1.2.2.2.2.1),[(B0 (Dg ((DH x.1).2.2.2.2.1,(Fs x))))]))/\(((List.length (DH x.1).2.1)=(List.length (DH x.1).2.1))/\(((List.length (DH x.1).2.2.1)=(List.length (DH x.1).2.2.1))/\((List.length (Dg ((DH x.1).2.2.2.2.1,(Fs x))))=(List.length (Dg ((DH x.1).2.2.2.2.1,(Fs x)))))))))))))))):=(Ko.o x).trans (by kernel_rfl)
theorem pT (x):B4 x=((H4 (x.1,x.2.1)).1,(H4 (x.1,x.2.1)).2,(Mw x.2.2.1),x.2.2.2):=(J7.v x).trans (by kernel_rfl)
theorem pY (x):Qj x=((Qd (x.1,x.2.1))/\((Qh x.2.2.1)/\(Av ((List.length x.2.2.2.2.1)*5)))):=(J7.o x).trans (by kernel_rfl)
def Te(x:JJ)(x0:L7):Bool:=(iLt x0.2.1 (lLen x.2))
def Td(x:JJ)(x0:L7):L7:=((bSel (bNot (Jg (x0.2.2,(lGet x.2 (iNat x0.2.1) (0,[]))))) (lApp x0.1 [(lGet x.2 (iNat x0.2.1) (0,[]))]) x0.1),(iAdd .i64 x0.2.1 1),(bSel (bNot (Jg (x0.2.2,(lGet x.2 (iNat x0.2.1) (0,[]))))) (lGet x.2 (iNat x0.2.1) (0,[])).1 (lGet x.2 (iNat x0.2.1) (0,[])).1),(bSel (bNot (Jg (x0.2.2,(lGet x.2 (iNat x0.2.1) (0,[]))))) (lGet x.2 (iNat x0.2.1) (0,[])).2 (lGet x.2 (iNat x0.2.1) (0,[])).2))
def X5(x:JJ)(x0:L7):Prop:=(((iLt x0.2.1 (lLen x.2))=true->((((0:Int)<=x0.2.1)/\(x0.2.1<(((List.length x.2):Int))))/\(((iNat x0.2.1)<(List.length x.2))/\((Tx (x0.2.2,(lGet x.2 (iNat x0.2.1) (0,[]))))/\(((bNot (Jg (x0.2.2,(lGet x.2 (iNat x0.2.1) (0,[])))))=true->(Av (((List.length x0.1)+(List.length [(lGet x.2 (iNat x0.2.1) (0,[]))]))*2)))/\((bNot (Jg (x0.2.2,(lGet x.2 (iNat x0.2.1) (0,[])))))=false->True))))))/\((iLt x0.2.1 (lLen x.2))=false->True))
theorem oX (x):Qc x=(Am (Te x) (Td x) ([],0,x.1)).1:=(HW.v x).trans (by kernel_rfl)
theorem oT (x):Qb x=(LoopOk (Te x) (Td x) (X5 x) ([],0,x.1)):=(HW.o x).trans (by kernel_rfl)
@[irreducible] def YR(x:HN):Ce×E8:=(((B4 x.1).1,(B4 x.1).2.1,(B4 x.1).2.2.1,(B4 x.1).2.2.2.1,(lApp (lTake (B4 x.1).2.2.2.2.1 (lN (lSub (B4 x.1).2.2.2.2.1 0 (iNat (B1 x))))) (lSub (B4 x.1).2.2.2.2.1 (iNat (iAdd .i64 (B1 x) 1)) (lN (B4 x.1).2.2.2.2.1))),(B4 x.1).2.2.2.2.2),(Qc ((BS x.1.2.2.2.2.1),[(BS (lApp (lTake (B4 x.1).2.2.2.2.1 (lN (lSub (B4 x.1).2.2.2.2.1 0 (iNat (B1 x))))) (lSub (B4 x.1).2.2.2.2.1 (iNat (iAdd .i64 (B1 x) 1)) (lN (B4 x.1).2.2.2.2.1))))])))
@[irreducible] def fk(x:HN):Prop:=((Qj x.1)/\((Lt x)/\((((0:Int)<=(B1 x))/\((0<=(iNat (B1 x)))/\(((iNat (B1 x))<=(List.length (B4 x.1).2.2.2.2.1))/\(0<(List.length (B4 x.1).2.2.2.2.1)))))/\((((0:Int)<=(iAdd .i64 (B1 x) 1))/\(((iNat (iAdd .i64 (B1 x) 1))<=(lN (B4 x.1).2.2.2.2.1))/\(((lN (B4 x.1).2.2.2.2.1)<=(List.length (B4 x.1).2.2.2.2.1))/\(0<(List.length (B4 x.1).2.2.2.2.1)))))/\(((0<(List.length (B4 x.1).2.2.2.2.1))/\(((List.length (lSub (B4 x.1).2.2.2.2.1 0 (iNat (B1 x))))<=(List.length (B4 x.1).2.2.2.2.1))/\(Av (((List.length (lSub (B4 x.1).2.2.2.2.1 0 (iNat (B1 x))))+(List.length (lSub (B4 x.1).2.2.2.2.1 (iNat (iAdd .i64 (B1 x) 1)) (lN (B4 x.1).2.2.2.2.1))))*5))))/\((Lj x.1.2.2.2.2.1)/\((Lj (lApp (lTake (B4 x.1).2.2.2.2.1 (lN (lSub (B4 x.1).2.2.2.2.1 0 (iNat (B1 x))))) (lSub (B4 x.1).2.2.2.2.1 (iNat (iAdd .i64 (B1 x) 1)) (lN (B4 x.1).2.2.2.2.1))))/\(Qb ((BS x.1.2.2.2.2.1),[(BS (lApp (lTake (B4 x.1).2.2.2.2.1 (lN (lSub (B4 x.1).2.2.2.2.1 0 (iNat (B1 x))))) (lSub (B4 x.1).2.2.2.2.1 (iNat (iAdd .i64 (B1 x) 1)) (lN (B4 x.1).2.2.2.2.1))))])))))))))
@[irreducible] def fL(x:HN):Ce×E8×Bool:=(bSel (bOr (bNot (D6 x.1)) (iLt (B1 x) 0)) ((0,[],[],0,[],0,false),[],false) ((YR x).1,(YR x).2,true))
@[irreducible] def fg(x:HN):Prop:=(((N9 x.1)/\(((bNot (D6 x.1))=true->True)/\((bNot (D6 x.1))=false->(Lt x))))/\(((bOr (bNot (D6 x.1)) (iLt (B1 x) 0))=true->True)/\((bOr (bNot (D6 x.1)) (iLt (B1 x) 0))=false->(fk x))))
theorem dN (x):Ez x=(bOr (BF (x,1,36)) (bOr (iEq x 39) (iEq x 42))):=(J6.v x).trans (by kernel_rfl)
theorem qa (x):Yd x=(Ea (x,1,36)):=(J6.o x).trans (by kernel_rfl)
theorem vj (x):Rc x=((x.2.2.1,x.2.2.2.1,(bSel (bAnd (bAnd (bNot (bNot (Ez x.2.2.2.1))) x.1.2.2.2.2.2.2) (bAnd (iLe x.2.2.2.1 26) (iEq (iAndNot .i64 (iOr .i64 x.2.2.2.2.1 x.1.2.2.2.2.2.1) 2) 0))) 2 (iOr .i64 x.2.2.2.2.1 x.1.2.2.2.2.2.1)),x.2.2.2.2.2),x.1.1,x.1.2.1,x.1.2.2.1,x.1.2.2.2.1,x.1.2.2.2.2.1,0,(bAnd (bNot (bNot (Ez x.2.2.2.1))) x.1.2.2.2.2.2.2)):=by unfold Rc;exact(congrFun (shut _).2 x).trans (by kernel_rfl)
theorem vA (x):Q1 x=(Yd x.2.2.2.1):=by unfold Q1;exact(congrFun (shut _).2 x).trans (by kernel_rfl)
theorem rr (x):Od x=(bSel (bOr (bNot (iEq x.2.2.1 2)) (bNot (iGt x.2.2.2.1 0))) (x.2.2,x.1.1,x.1.2.1,x.1.2.2.1,(bSel (iEq x.2.2.1 2) x.1.2.2.2.1 (bSel (iEq x.2.2.1 4) (iXor .i64 x.1.2.2.2.1 (iShl .i64 1 x.2.2.2.2.2)) (bSel (iEq x.2.2.1 5) (iAndNot .i64 (iShl .i64 1 x.2.2.2.2.2) 1) x.1.2.2.2.1))),x.1.2.2.2.2.1,(bSel (iEq x.2.2.1 2) x.1.2.2.2.2.2.1 (bSel (iEq x.2.2.1 4) x.1.2.2.2.2.2.1 (bSel (iEq x.2.2.1 5) x.1.2.2.2.2.2.1 (bSel (iEq x.2.2.1 8) (bSel (iEq (iAnd .i64 x.1.2.2.2.2.2.1 x.2.2.2.2.1) x.2.2.2.2.1) (iAndNot .i64 x.1.2.2.2.2.2.1 x.2.2.2.2.1) (iOr .i64 x.1.2.2.2.2.2.1 x.2.2.2.2.1)) x.1.2.2.2.2.2.1)))),(bSel (iEq x.2.2.1 2) x.1.2.2.2.2.2.2 (bSel (iEq x.2.2.1 4) x.1.2.2.2.2.2.2 (bSel (iEq x.2.2.1 5) x.1.2.2.2.2.2.2 (bSel (iEq x.2.2.1 8) x.1.2.2.2.2.2.2 (bSel (iEq x.2.2.1 10) (bNot x.1.2.2.2.2.2.2) x.1.2.2.2.2.2.2)))))) (Rc x)):=by unfold Od;exact(congrFun (shut _).2 x).trans (by kernel_rfl)
theorem rf (x):N3 x=(((iEq x.2.2.1 2)=true->(((iGt x.2.2.2.1 0)=true->(Q1 x))/\((iGt x.2.2.2.1 0)=false->True)))/\((iEq x.2.2.1 2)=false->(((iEq x.2.2.1 4)=true->((0:Int)<=x.2.2.2.2.2))/\((iEq x.2.2.1 4)=false->(((iEq x.2.2.1 5)=true->((0:Int)<=x.2.2.2.2.2))/\((iEq x.2.2.1 5)=false->True)))))):=by unfold N3;exact(congrFun (shut _).2 x).trans (by kernel_rfl)
def Ll(x:Fc):=BF (x.2.1,0,(iSub .i64 x.1.1 1))
def Cj(x:Fc):=Up ((x.1.1,x.1.2.1),(QN (x.1.2.2.2.1,x.1.2.2.2.2.1)),x.2.1)
def BN(x:Fc):=Od ((DH x.1),((bSel x.2.2 (DG (Cj x)).1 (Dx (Cj x)).1),(bSel x.2.2 (DG (Cj x)).2.1 (Dx (Cj x)).2.1),(bSel x.2.2 (DG (Cj x)).2.2.1 (Dx (Cj x)).2.2.1),(bSel x.2.2 (DG (Cj x)).2.2.2 (Dx (Cj x)).2.2.2)),(bSel x.2.2 (DG (Cj x)).1 (Dx (Cj x)).1),(bSel x.2.2 (DG (Cj x)).2.1 (Dx (Cj x)).2.1),(bSel x.2.2 (DG (Cj x)).2.2.1 (Dx (Cj x)).2.2.1),(bSel x.2.2 (DG (Cj x)).2.2.2 (Dx (Cj x)).2.2.2))
def QL(x:Fc):=B0 (lApp (BN x).2.2.2.2.2.1 [(x.2.1,(BN x).1)])
def QE(x:Fc):=Fj ((lApp (BN x).2.2.2.2.2.1 [(x.2.1,(BN x).1)]),(lGet x.1.2.2.1 (iNat (BN x).1.2.2.2) []))
theorem gC (x):Iv x=(bSel (bOr (bNot (Ga x.1)) (bOr (bNot (Ll x)) (iGe (Fs (x.1,x.2.1)) 0))) ((0,[],[],0,[],0,false),[],false) (((BN x).2.1,(BN x).2.2.1,(BN x).2.2.2.1,(BN x).2.2.2.2.1,(lApp (BN x).2.2.2.2.2.1 [(x.2.1,(BN x).1)]),(BN x).2.2.2.2.2.2),(Qq ((B0 x.1.2.2.2.2.1),(lApp (bSel (bAnd (iEq (BN x).1.1 9) (iLt (BN x).1.2.2.2 (lLen x.1.2.2.1))) (QE x) []) [(QL x)]))),true)):=(It.v x).trans (by kernel_rfl)
theorem gG (x):Lu x=(((N5 x.1)/\(((bNot (Ga x.1))=true->True)/\((bNot (Ga x.1))=false->((Ea (x.2.1,0,(iSub .i64 x.1.1 1)))/\(((bNot (Ll x))=true->True)/\((bNot (Ll x))=false->(QQ (x.1,x.2.1))))))))/\(((bOr (bNot (Ga x.1)) (bOr (bNot (Ll x)) (iGe (Fs (x.1,x.2.1)) 0)))=true->True)/\((bOr (bNot (Ga x.1)) (bOr (bNot (Ll x)) (iGe (Fs (x.1,x.2.1)) 0)))=false->((Oq x.1)/\((TZ (x.1.2.2.2.1,x.1.2.2.2.2.1))/\((TJ ((x.1.1,x.1.2.1),(QN (x.1.2.2.2.1,x.1.2.2.2.2.1)),x.2.1))/\(((x.2.2=true->(Uy (Cj x)))/\(x.2.2=false->(U6 (Cj x))))/\((N3 ((DH x.1),((bSel x.2.2 (DG (Cj x)).1 (Dx (Cj x)).1),(bSel x.2.2 (DG (Cj x)).2.1 (Dx (Cj x)).2.1),(bSel x.2.2 (DG (Cj x)).2.2.1 (Dx (Cj x)).2.2.1),(bSel x.2.2 (DG (Cj x)).2.2.2 (Dx (Cj x)).2.2.2)),(bSel x.2.2 (DG (Cj x)).1 (Dx (Cj x)).1),(bSel x.2.2 (DG (Cj x)).2.1 (Dx (Cj x)).2.1),(bSel x.2.2 (DG (Cj x)).2.2.1 (Dx (Cj x)).2.2.1),(bSel x.2.2 (DG (Cj x)).2.2.2 (Dx (Cj x)).2.2.2)))/\((Av (((List.length (BN x).2.2.2.2.2.1)+(List.length [(x.2.1,(BN x).1)]))*5))/\((((bAnd (iEq (BN x).1.1 9) (iLt (BN x).1.2.2.2 (lLen x.1.2.2.1)))=true->((((0:Int)<=(BN x).1.2.2.2)/\((BN x).1.2.2.2<(((List.length x.1.2.2.1):Int))))/\(((iNat (BN x).1.2.2.2)<(List.length x.1.2.2.1))/\(NR ((lApp (BN x).2.2.2.2.2.1 [(x.2.1,(BN x).1)]),(lGet x.1.2.2.1 (iNat (BN x).1.2.2.2) []))))))/\((bAnd (iEq (BN x).1.1 9) (iLt (BN x).1.2.2.2 (lLen x.1.2.2.1)))=false->True))/\((Lh (lApp (BN x).2.2.2.2.2.1 [(x.2.1,(BN x).1)]))/\((Av (((List.length (bSel (bAnd (iEq (BN x).1.1 9) (iLt (BN x).1.2.2.2 (lLen x.1.2.2.1))) (QE x) []))+(List.length [(QL x)]))*2))/\((Lh x.1.2.2.2.2.1)/\((Qk ((B0 x.1.2.2.2.2.1),(lApp (bSel (bAnd (iEq (BN x).1.1 9) (iLt (BN x).1.2.2.2 (lLen x.1.2.2.1))) (QE x) []) [(QL x)])))/\(((List.length (BN x).2.2.1)=(List.length (BN x).2.2.1))/\(((List.length (BN x).2.2.2.1)=(List.length (BN x).2.2.2.1))/\((List.length (lApp (BN x).2.2.2.2.2.1 [(x.2.1,(BN x).1)]))=(List.length (lApp (BN x).2.2.2.2.2.1 [(x.2.1,(BN x).1)]))))))))))))))))))):=(It.o x).trans (by kernel_rfl)
theorem pX (x):Jf x=(bSel (iGe x 1) (bOr (iLe x 36) (bOr (iEq x 39) (iEq x 42))) (bOr (iEq x 39) (iEq x 42))):=(FK.v x).trans (by kernel_rfl)
theorem dQ (x):Qf x=True:=(FK.o x).trans (by kernel_rfl)
theorem ub (x):OH x=(bSel (bOr (bNot (iEq x.2.2.1 2)) (bNot (iEq x.2.2.2.1 0))) ((x.2.2.1,x.2.2.2.1,(bSel (iEq x.2.2.1 2) (bSel (bAnd (bAnd x.1.2.2.2.2.2.2 (Jf x.2.2.2.1)) (bAnd (iLe x.2.2.2.1 26) (iEq (iAndNot .i64 (iOr .i64 x.2.2.2.2.1 x.1.2.2.2.2.2.1) 2) 0))) 2 (iOr .i64 x.2.2.2.2.1 x.1.2.2.2.2.2.1)) x.2.2.2.2.1),x.2.2.2.2.2),x.1.1,x.1.2.1,x.1.2.2.1,(bSel (iEq x.2.2.1 2) x.1.2.2.2.1 (bSel (iEq x.2.2.1 4) (iXor .i64 x.1.2.2.2.1 (iShl .i64 1 x.2.2.2.2.2)) (bSel (iEq x.2.2.1 5) (iAndNot .i64 (iShl .i64 1 x.2.2.2.2.2) 1) x.1.2.2.2.1))),x.1.2.2.2.2.1,(bSel (iEq x.2.2.1 2) (bSel (bAnd (bAnd x.1.2.2.2.2.2.2 (Jf x.2.2.2.1)) (bAnd (iLe x.2.2.2.1 26) (iEq (iAndNot .i64 (iOr .i64 x.2.2.2.2.1 x.1.2.2.2.2.2.1) 2) 0))) 0 0) (bSel (iEq x.2.2.1 4) x.1.2.2.2.2.2.1 (bSel (iEq x.2.2.1 5) x.1.2.2.2.2.2.1 (bSel (iEq x.2.2.1 8) (bSel (iEq (iAnd .i64 x.1.2.2.2.2.2.1 x.2.2.2.2.1) x.2.2.2.2.1) (iAndNot .i64 x.1.2.2.2.2.2.1 x.2.2.2.2.1) (iOr .i64 x.1.2.2.2.2.2.1 x.2.2.2.2.1)) x.1.2.2.2.2.2.1)))),(bSel (iEq x.2.2.1 2) (bSel (bAnd (bAnd x.1.2.2.2.2.2.2 (Jf x.2.2.2.1)) (bAnd (iLe x.2.2.2.1 26) (iEq (iAndNot .i64 (iOr .i64 x.2.2.2.2.1 x.1.2.2.2.2.2.1) 2) 0))) (bAnd x.1.2.2.2.2.2.2 (Jf x.2.2.2.1)) (bAnd x.1.2.2.2.2.2.2 (Jf x.2.2.2.1))) (bSel (iEq x.2.2.1 4) x.1.2.2.2.2.2.2 (bSel (iEq x.2.2.1 5) x.1.2.2.2.2.2.2 (bSel (iEq x.2.2.1 8) x.1.2.2.2.2.2.2 (bSel (iEq x.2.2.1 10) (bNot x.1.2.2.2.2.2.2) x.1.2.2.2.2.2.2)))))) (x.2.2,x.1)):=by unfold OH;exact(congrFun (shut _).2 x).trans (by kernel_rfl)
theorem tP (x):Ow x=(((iEq x.2.2.1 2)=true->(((iEq x.2.2.2.1 0)=true->True)/\((iEq x.2.2.2.1 0)=false->((x.1.2.2.2.2.2.2=true->(Qf x.2.2.2.1))/\(x.1.2.2.2.2.2.2=false->True)))))/\((iEq x.2.2.1 2)=false->(((iEq x.2.2.1 4)=true->((0:Int)<=x.2.2.2.2.2))/\((iEq x.2.2.1 4)=false->(((iEq x.2.2.1 5)=true->((0:Int)<=x.2.2.2.2.2))/\((iEq x.2.2.1 5)=false->True)))))):=by unfold Ow;exact(congrFun (shut _).2 x).trans (by kernel_rfl)
def Jj(x:Fc):=QS ((x.1.1,x.1.2.1),(D8 (x.1.2.2.2.1,x.1.2.2.2.2.1)),x.2.1)
def EA(x:Fc):=CZ (lGet (lGet x.1.2.1 (iNat (Jj x)) []) (iNat x.2.1) (0,0,0,0))
def ED(x:Fc):=UQ (lGet (lGet x.1.2.1 (iNat (Jj x)) []) (iNat x.2.1) (0,0,0,0))
def BO(x:Fc):=OH ((B4 x.1),((bSel x.2.2 (ED x).1 (EA x).1),(bSel x.2.2 (ED x).2.1 (EA x).2.1),(bSel x.2.2 (ED x).2.2.1 (EA x).2.2.1),(bSel x.2.2 (ED x).2.2.2 (EA x).2.2.2)),(bSel x.2.2 (ED x).1 (EA x).1),(bSel x.2.2 (ED x).2.1 (EA x).2.1),(bSel x.2.2 (ED x).2.2.1 (EA x).2.2.1),(bSel x.2.2 (ED x).2.2.2 (EA x).2.2.2))
def QG(x:Fc):=BS (lApp (BO x).2.2.2.2.2.1 [(x.2.1,(BO x).1)])
def QI(x:Fc):=NU ((lApp (BO x).2.2.2.2.2.1 [(x.2.1,(BO x).1)]),(lGet x.1.2.2.1 (iNat (BO x).1.2.2.2) []))
theorem vt (x):Vq x=(((BO x).2.1,(BO x).2.2.1,(BO x).2.2.2.1,(BO x).2.2.2.2.1,(lApp (BO x).2.2.2.2.2.1 [(x.2.1,(BO x).1)]),(BO x).2.2.2.2.2.2),(Qc ((BS x.1.2.2.2.2.1),(lApp (bSel (bAnd (iEq (BO x).1.1 9) (iLt (BO x).1.2.2.2 (lLen x.1.2.2.1))) (QI x) []) [(QG x)])))):=(KA.v x).trans (by kernel_rfl)
theorem vI (x):Y4 x=((Qj x.1)/\((Qp (x.1.2.2.2.1,x.1.2.2.2.2.1))/\((QF ((x.1.1,x.1.2.1),(D8 (x.1.2.2.2.1,x.1.2.2.2.2.1)),x.2.1))/\((((0:Int)<=(Jj x))/\((Jj x)<(((List.length x.1.2.1):Int))))/\(((iNat (Jj x))<(List.length x.1.2.1))/\((((0:Int)<=x.2.1)/\(x.2.1<(((List.length (lGet x.1.2.1 (iNat (Jj x)) [])):Int))))/\(((iNat x.2.1)<(List.length (lGet x.1.2.1 (iNat (Jj x)) [])))/\(((x.2.2=true->(Us (lGet (lGet x.1.2.1 (iNat (Jj x)) []) (iNat x.2.1) (0,0,0,0))))/\(x.2.2=false->(Q2 (lGet (lGet x.1.2.1 (iNat (Jj x)) []) (iNat x.2.1) (0,0,0,0)))))/\((Ow ((B4 x.1),((bSel x.2.2 (ED x).1 (EA x).1),(bSel x.2.2 (ED x).2.1 (EA x).2.1),(bSel x.2.2 (ED x).2.2.1 (EA x).2.2.1),(bSel x.2.2 (ED x).2.2.2 (EA x).2.2.2)),(bSel x.2.2 (ED x).1 (EA x).1),(bSel x.2.2 (ED x).2.1 (EA x).2.1),(bSel x.2.2 (ED x).2.2.1 (EA x).2.2.1),(bSel x.2.2 (ED x).2.2.2 (EA x).2.2.2)))/\((Av (((List.length (BO x).2.2.2.2.2.1)+(List.length [(x.2.1,(BO x).1)]))*5))/\((((bAnd (iEq (BO x).1.1 9) (iLt (BO x).1.2.2.2 (lLen x.1.2.2.1)))=true->((((0:Int)<=(BO x).1.2.2.2)/\((BO x).1.2.2.2<(((List.length x.1.2.2.1):Int))))/\(((iNat (BO x).1.2.2.2)<(List.length x.1.2.2.1))/\(NQ ((lApp (BO x).2.2.2.2.2.1 [(x.2.1,(BO x).1)]),(lGet x.1.2.2.1 (iNat (BO x).1.2.2.2) []))))))/\((bAnd (iEq (BO x).1.1 9) (iLt (BO x).1.2.2.2 (lLen x.1.2.2.1)))=false->True))/\((Lj (lApp (BO x).2.2.2.2.2.1 [(x.2.1,(BO x).1)]))/\((Av (((List.length (bSel (bAnd (iEq (BO x).1.1 9) (iLt (BO x).1.2.2.2 (lLen x.1.2.2.1))) (QI x) []))+(List.length [(QG x)]))*2))/\((Lj x.1.2.2.2.2.1)/\((Qb ((BS x.1.2.2.2.2.1),(lApp (bSel (bAnd (iEq (BO x).1.1 9) (iLt (BO x).1.2.2.2 (lLen x.1.2.2.1))) (QI x) []) [(QG x)])))/\(((List.length (BO x).2.2.1)=(List.length (BO x).2.2.1))/\(((List.length (BO x).2.2.2.1)=(List.length (BO x).2.2.2.1))/\((List.length (lApp (BO x).2.2.2.2.2.1 [(x.2.1,(BO x).1)]))=(List.length (lApp (BO x).2.2.2.2.2.1 [(x.2.1,(BO x).1)])))))))))))))))))))):=(KA.o x).trans (by kernel_rfl)
theorem gJ (x):MK x=(bSel (bOr (bNot (D6 x.1)) (bOr (iLt x.2.1 0) (bOr (iGe x.2.1 x.1.1) (iGe (B1 (x.1,x.2.1)) 0)))) ((0,[],[],0,[],0,false),[],false) ((Vq x).1,(Vq x).2,true)):=(Kz.v x).trans (by kernel_rfl)
theorem gE (x):OK x=(((N9 x.1)/\(((bNot (D6 x.1))=true->True)/\((bNot (D6 x.1))=false->(((iLt x.2.1 0)=true->True)/\((iLt x.2.1 0)=false->(((iGe x.2.1 x.1.1)=true->True)/\((iGe x.2.1 x.1.1)=false->(Lt (x.1,x.2.1)))))))))/\(((bOr (bNot (D6 x.1)) (bOr (iLt x.2.1 0) (bOr (iGe x.2.1 x.1.1) (iGe (B1 (x.1,x.2.1)) 0))))=true->True)/\((bOr (bNot (D6 x.1)) (bOr (iLt x.2.1 0) (bOr (iGe x.2.1 x.1.1) (iGe (B1 (x.1,x.2.1)) 0))))=false->(Y4 x)))):=(Kz.o x).trans (by kernel_rfl)
attribute [irreducible] QV YU Qq Qk QR QK B4 Qj Qc Qb Ez Yd Iv Lu Jf Qf Vq Y4 MK OK
end
section
set_option maxRecDepth 8000
def wx:DCode:=(.seq [4,1,0] (.region [oa 0 4 (.allocB 0 [Ab,.nils,.nils,Ab,.nils,Ab,CV])]) (.seq [5,4,1,0] (.region [⟨0,some 9,.a false (.litSlice 1 0 [] []) (some (.one (.sl BM))),none,[]⟩,om 1 5 9]) (.seq [5,4,1,0] (.seq [6,5,4,1,0] (.region [om 0 10 0,op 1 11 Cb Dw EZ [(.t 10),(.c (.int .i64 4))],om 2 6 11]) (.block 0 (.loop [0,1,4,5,6] 1 (.seq [6,5,4,1,0] (.seq [13,6,5,4,1,0] (.region [om 0 12 6,oa 1 13 (.bin .gtr (.t 12) AD)]) (.cond (.t 13) .skip (.exit 0))) (.seq [6,5,4,1,0] (.block 1 (.region [om 0 16 5,om 1 17 0,op 2 18 Ox Q4 gF [(.t 17)],⟨3,some 19,.a false (.litSlice 1 1 [.nils] [(0,1,(.t 18))]) (some (.one (.sl BM))),none,[]⟩,oa 4 20 (.app 1 (.t 16) (.t 19)),om 5 5 20])) (.region [om 0 14 6,oa 1 15 (.bin .sub (.t 14) Au),om 2 6 15])))))) (.seq [7,4] (.region [om 0 22 0,om 1 23 1,op 2 24 OG Q3 gO [(.t 22),(.t 23)],on 3 25 5,oF 4 26 Ke [(.t 24),(.t 25)],om 5 21 26,oa 6 27 (.extract (.t 21) 0),oa 7 28 (.extract (.t 21) 1),oa 8 7 (.allocB 1 [Ab,.nils,.nils,Ab,.nils,Ab,CV]),os 9 (.storeB 1 7 (.t 7) (.t 27)),om 10 8 28]) (.seq [4] (.region [ob 0 29 (.loadB 1 (some 7) (.t 7)),os 1 (.storeB 0 7 (.t 4) (.t 29))]) .ret)))))
def Lv:DFun:=⟨2,30,2,false,[.cell 4 (some 7)],wx⟩
@[irreducible] def OO:Bc:=EK Lv.er.er
@[irreducible] def Rb:Ca:=C7 Lv.er
theorem vo:D1 OO Rb:=by unfold OO Rb;exact FR (f:=Lv.er) ⟨Fm,uU,tI,qI,trivial⟩
def Vx:List HT:=[.one .frz (.int .i64)]
def Vo:List (Ql×CT):=[(.frz,.sl (.one (.int .u8))),An,An]
def Vr:QT:=.one (.agg [An,(.own,.sl (.one (.sl BD))),(.own,.sl (.one (.sl BM))),An,(.own,.sl Bz),An,(.own,.bool)])
@[irreducible] def AN(x:Cs):Ce×A5:=(shut λ x=>HR Lv Vx Vo Vr x).1 x
@[irreducible] def OC(x:Cs):Prop:=(shut λ x=>HJ Lv Vx Vo Vr x).1 x
def ic:CH:=IE Vx Vo Vr OC AN
theorem vV:DM Rb ic:=by unfold Rb;exact KF (f:=Lv) (hs:=Vx) (cs:=Vo) (q:=Vr) ⟨Fl,tq,uV,qq,trivial⟩ (by kernel_rfl) (λ x=>by kernel_rfl) (λ x h=>by unfold OC at h;exact Eq.mp (congrFun (shut _).2 x) h) (λ x=>by unfold AN;exact(congrFun (shut _).2 x).symm)
def uJ:DCode:=(.seq [4,1,0] (.region [oa 0 4 (.allocB 0 [Ab,.nils,.nils,Ab,.nils,Ab,CV])]) (.seq [5,4,1,0] (.region [om 0 11 0,om 1 12 1,op 2 13 OO Rb ic [(.t 11),(.t 12)],oa 3 5 (.allocB 1 [Ab,.nils,.nils,Ab,.nils,Ab,CV]),os 4 (.storeB 1 7 (.t 5) (.t 13))]) (.seq [5,4] (.seq [6,5,4,1,0] (.region [om 0 14 0,op 1 15 Cb Dw EZ [(.t 14),(.c (.int .i64 8))],om 2 6 15]) (.block 0 (.loop [0,1,4,5,6] 1 (.seq [6,5,4,1,0] (.seq [17,6,5,4,1,0] (.region [om 0 16 6,oa 1 17 (.bin .gtr (.t 16) AD)]) (.cond (.t 17) .skip (.exit 0))) (.seq [6,5,4,1,0] (.scope (.block 1 (.seq [7,6,5,4,1,0] (.region [om 0 20 0,om 1 21 1,op 2 22 Cb Dw EZ [(.t 20),(.t 21)],om 3 7 22]) (.seq [10,8,7,6,5,4,1,0] (.region [oa 9 8 (.allocH [Ab,.nils,.nils,Ab,.nils,Ab,CV]),oa 0 24 (.loadB 1 (some 7) (.t 5)),om 1 25 7,om 2 26 0,xP 3 27 Ho Jm fK [(.t 26),(.c (.int .i64 2))] [2],xF 4 28 It [(.t 24),(.t 25),(.t 27)] (rg 4),xA 5 23 (.mv (.t 28)) (rg 5),xA 6 29 (.extract (.t 23) 0) (rg 6),xA 7 30 (.extract (.t 23) 1) [0,1,2,3,4,5],xA 8 31 (.extract (.t 23) 2) [0,1,2,3,4,5],xS 10 (.storeH 7 (.t 8) (.t 29)) [0,1,2,3,4,5,6,9],xB 11 9 (.mv (.t 30)) [0,1,2,3,4,5,6,7,9,10],xA 12 10 (.mv (.t 31)) (rg 12)]) (.seq [8,6,5,4,1,0] (.seq [33,8,7,6,5,4,1,0] (.region [om 0 32 10,oa 1 33 (.un .not (.t 32))]) (.cond (.t 33) (.region [oa 0 35 (.loadB 1 (some 7) (.t 5)),om 1 36 7,oF 2 37 Ko [(.t 35),(.t 36)],om 3 34 37,oa 4 38 (.extract (.t 34) 0),oa 5 39 (.extract (.t 34) 1),oa 6 40 (.extract (.t 34) 2),os 7 (.storeH 7 (.t 8) (.t 38))]) .skip)) (.region [ob 0 41 (.loadH (some 7) (.t 8)),os 1 (.storeB 1 7 (.t 5) (.t 41))])))))) (.region [om 0 18 6,oa 1 19 (.bin .sub (.t 18) Au),om 2 6 19])))))) (.seq [4] (.region [ob 0 42 (.loadB 1 (some 7) (.t 5)),os 1 (.storeB 0 7 (.t 4) (.t 42))]) .ret))))
def Lq:DFun:=⟨2,43,2,false,[.cell 4 (some 7)],uJ⟩
@[irreducible] def Oy:Bc:=EK Lq.er.er
@[irreducible] def QU:Ca:=C7 Lq.er
theorem tG:D1 Oy QU:=by unfold Oy QU;exact FR (f:=Lq.er) ⟨vo,Fm,Fm,Ut,gx,sN,trivial⟩
def U1:List HT:=[.one .frz (.int .i64)]
def Vf:List (Ql×CT):=[(.frz,.sl (.one (.int .u8))),An,An]
def U0:QT:=.one (.agg [An,(.own,.sl (.one (.sl BD))),(.own,.sl (.one (.sl BM))),An,(.own,.sl Bz),An,(.own,.bool)])
@[irreducible] def MI(x:Cs):Ce×A5:=(shut λ x=>HR Lq U1 Vf U0 x).1 x
@[irreducible] def Om(x:Cs):Prop:=(shut λ x=>HJ Lq U1 Vf U0 x).1 x
def gi:CH:=IE U1 Vf U0 Om MI
theorem uM:DM QU gi:=by unfold QU;exact KF (f:=Lq) (hs:=U1) (cs:=Vf) (q:=U0) ⟨vV,Fl,Fl,sJ,gB,sO,trivial⟩ (by kernel_rfl) (λ x=>by kernel_rfl) (λ x h=>by unfold Om at h;exact Eq.mp (congrFun (shut _).2 x) h) (λ x=>by unfold MI;exact(congrFun (shut _).2 x).symm)
def pE:DCode:=(.seq [4,1,0] (.region [oa 0 4 (.allocB 0 [Ab,.nils,.nils,Ab,.nils,Ab,CV])]) (.seq [4] (.region [on 0 5 0,op 1 6 Ly OA Y8 [(.t 5),(.c (.int .i64 7))],om 2 7 1,op 3 8 Oy QU gi [(.t 6),(.t 7)],os 4 (.storeB 0 7 (.t 4) (.t 8))]) .ret))
def J9:Fn:=⟨⟨2,9,1,false,[.cell 4 (some 7)],pE⟩,[.one .frz (.sl (.one (.int .u8))),.one .frz (.int .i64)],.one (.agg [An,(.own,.sl (.one (.sl BD))),(.own,.sl (.one (.sl BM))),An,(.own,.sl Bz),An,(.own,.bool)])⟩
theorem pG:J9.A:=AV ⟨fT,tG,trivial⟩
def A9:Eg->Int×DQ×C9×Int×Bt×Int×Bool:=J9.V
def Tw:Eg->Prop:=J9.O
theorem pQ:J9.B:=AW ⟨gb,uM,trivial⟩ (by kernel_rfl) (λ x=>by kernel_rfl)
end
section
set_option maxRecDepth 100000
def Jl(x0:C9×CN):Bool:=(iGt x0.2.1 0)
def Ji(x:Cs)(x0:C9×CN):(C9×CN):=((lApp x0.1 [(Jn (x.1.1,x0.2.2)).1]),(iSub .i64 x0.2.1 1),(Jn (x.1.1,x0.2.2)).2)
def YG(x:Cs)(x0:C9×CN):Prop:=(((iGt x0.2.1 0)=true->((On (x.1.1,x0.2.2))/\(Av (((List.length x0.1)+(List.length [(Jn (x.1.1,x0.2.2)).1]))*1))))/\((iGt x0.2.1 0)=false->True))
theorem wh (x):AN x=((N8 ((Iq ((x.1.1,(Am Jl (Ji x) ([],(Ar (x.1,4)))).2.2),x.2)).1,(Am Jl (Ji x) ([],(Ar (x.1,4)))).1)).1,(Iq ((x.1.1,(Am Jl (Ji x) ([],(Ar (x.1,4)))).2.2),x.2)).2):=by unfold AN;exact(congrFun (shut _).2 x).trans (by kernel_rfl)
theorem vz (x):OC x=((DW (x.1,4))/\((LoopOk Jl (Ji x) (YG x) ([],(Ar (x.1,4))))/\((Ou ((x.1.1,(Am Jl (Ji x) ([],(Ar (x.1,4)))).2.2),x.2))/\(TH ((Iq ((x.1.1,(Am Jl (Ji x) ([],(Ar (x.1,4)))).2.2),x.2)).1,(Am Jl (Ji x) ([],(Ar (x.1,4)))).1))))):=by unfold OC;exact(congrFun (shut _).2 x).trans (by kernel_rfl)
def Ej(x:Cs):=Ar ((x.1.1,(AN x).2),8)
def My(x:Cs)(x0:Ma):=Ar ((x.1.1,x0.2.2.2.2.2.2.2.2),x.2)
def T4(x:Cs)(x0:Ma):=Oo ((x.1.1,(My x x0).2),(0,[],[],0,[],0,false),2)
def Li(x:Cs)(x0:Ma):=QR ((x0.2.1,x0.2.2.1,x0.2.2.2.1,x0.2.2.2.2.1,x0.2.2.2.2.2.1,x0.2.2.2.2.2.2.1,x0.2.2.2.2.2.2.2.1),(My x x0).1)
def EW(x:Cs)(x0:Ma):=Iv ((x0.2.1,x0.2.2.1,x0.2.2.2.1,x0.2.2.2.2.1,x0.2.2.2.2.2.1,x0.2.2.2.2.2.2.1,x0.2.2.2.2.2.2.2.1),(My x x0).1,(T4 x x0).1)
def H6(x0:Ma):Bool:=(iGt x0.1 0)
def H8(x:Cs)(x0:Ma):Ma:=((iSub .i64 x0.1 1),(bSel (bNot (EW x x0).2.2) (Li x x0).1.1 (EW x x0).1.1),(bSel (bNot (EW x x0).2.2) (Li x x0).1.2.1 (EW x x0).1.2.1),(bSel (bNot (EW x x0).2.2) (Li x x0).1.2.2.1 (EW x x0).1.2.2.1),(bSel (bNot (EW x x0).2.2) (Li x x0).1.2.2.2.1 (EW x x0).1.2.2.2.1),(bSel (bNot (EW x x0).2.2) (Li x x0).1.2.2.2.2.1 (EW x x0).1.2.2.2.2.1),(bSel (bNot (EW x x0).2.2) (Li x x0).1.2.2.2.2.2.1 (EW x x0).1.2.2.2.2.2.1),(bSel (bNot (EW x x0).2.2) (Li x x0).1.2.2.2.2.2.2 (EW x x0).1.2.2.2.2.2.2),(T4 x x0).2)
def Yn(x:Cs)(x0:Ma):Prop:=(((iGt x0.1 0)=true->((DW ((x.1.1,x0.2.2.2.2.2.2.2.2),x.2))/\((Oi ((x.1.1,(My x x0).2),(0,[],[],0,[],0,false),2))/\((Lu ((x0.2.1,x0.2.2.1,x0.2.2.2.1,x0.2.2.2.2.1,x0.2.2.2.2.2.1,x0.2.2.2.2.2.2.1,x0.2.2.2.2.2.2.2.1),(My x x0).1,(T4 x x0).1))/\(((bNot (EW x x0).2.2)=true->(QK ((x0.2.1,x0.2.2.1,x0.2.2.2.1,x0.2.2.2.2.1,x0.2.2.2.2.2.1,x0.2.2.2.2.2.2.1,x0.2.2.2.2.2.2.2.1),(My x x0).1)))/\((bNot (EW x x0).2.2)=false->True))))))/\((iGt x0.1 0)=false->True))
theorem uv (x):MI x=(((Am H6 (H8 x) ((Ej x).1,(AN x).1.1,(AN x).1.2.1,(AN x).1.2.2.1,(AN x).1.2.2.2.1,(AN x).1.2.2.2.2.1,(AN x).1.2.2.2.2.2.1,(AN x).1.2.2.2.2.2.2,(Ej x).2)).2.1,(Am H6 (H8 x) ((Ej x).1,(AN x).1.1,(AN x).1.2.1,(AN x).1.2.2.1,(AN x).1.2.2.2.1,(AN x).1.2.2.2.2.1,(AN x).1.2.2.2.2.2.1,(AN x).1.2.2.2.2.2.2,(Ej x).2)).2.2.1,(Am H6 (H8 x) ((Ej x).1,(AN x).1.1,(AN x).1.2.1,(AN x).1.2.2.1,(AN x).1.2.2.2.1,(AN x).1.2.2.2.2.1,(AN x).1.2.2.2.2.2.1,(AN x).1.2.2.2.2.2.2,(Ej x).2)).2.2.2.1,(Am H6 (H8 x) ((Ej x).1,(AN x).1.1,(AN x).1.2.1,(AN x).1.2.2.1,(AN x).1.2.2.2.1,(AN x).1.2.2.2.2.1,(AN x).1.2.2.2.2.2.1,(AN x).1.2.2.2.2.2.2,(Ej x).2)).2.2.2.2.1,(Am H6 (H8 x) ((Ej x).1,(AN x).1.1,(AN x).1.2.1,(AN x).1.2.2.1,(AN x).1.2.2.2.1,(AN x).1.2.2.2.2.1,(AN x).1.2.2.2.2.2.1,(AN x).1.2.2.2.2.2.2,(Ej x).2)).2.2.2.2.2.1,(Am H6 (H8 x) ((Ej x).1,(AN x).1.1,(AN x).1.2.1,(AN x).1.2.2.1,(AN x).1.2.2.2.1,(AN x).1.2.2.2.2.1,(AN x).1.2.2.2.2.2.1,(AN x).1.2.2.2.2.2.2,(Ej x).2)).2.2.2.2.2.2.1,(Am H6 (H8 x) ((Ej x).1,(AN x).1.1,(AN x).1.2.1,(AN x).1.2.2.1,(AN x).1.2.2.2.1,(AN x).1.2.2.2.2.1,(AN x).1.2.2.2.2.2.1,(AN x).1.2.2.2.2.2.2,(Ej x).2)).2.2.2.2.2.2.2.1),(Am H6 (H8 x) ((Ej x).1,(AN x).1.1,(AN x).1.2.1,(AN x).1.2.2.1,(AN x).1.2.2.2.1,(AN x).1.2.2.2.2.1,(AN x).1.2.2.2.2.2.1,(AN x).1.2.2.2.2.2.2,(Ej x).2)).2.2.2.2.2.2.2.2):=by unfold MI;exact(congrFun (shut _).2 x).trans (by kernel_rfl)
theorem tu (x):Om x=((OC x)/\((DW ((x.1.1,(AN x).2),8))/\(LoopOk H6 (H8 x) (Yn x) ((Ej x).1,(AN x).1.1,(AN x).1.2.1,(AN x).1.2.2.1,(AN x).1.2.2.2.1,(AN x).1.2.2.2.2.1,(AN x).1.2.2.2.2.2.1,(AN x).1.2.2.2.2.2.2,(Ej x).2)))):=by unfold Om;exact(congrFun (shut _).2 x).trans (by kernel_rfl)
theorem pO (x):A9 x=(MI ((Jo (x.1,7)),x.2)).1:=(J9.v x).trans (by kernel_rfl)
theorem pS (x):Tw x=((MC (x.1,7))/\(Om ((Jo (x.1,7)),x.2))):=(J9.o x).trans (by kernel_rfl)
attribute [irreducible] A9 Tw
end
theorem AF(a:Bool):bNot a=!a:=by simp only[PF]
theorem AE(a b:Bool):bAnd a b=(a&&b):=by simp only[cL]
theorem AZ(a b:Bool):bOr a b=(a||b):=by simp only[oA]
theorem LU(a b:Bool):bIff a b=(a == b):=by simp only[na]
theorem BB{α:Type}(c:Bool)(x y:α):bSel c x y=if c=true then x else y:=by cases c<;>simp[Dm,CQ]
theorem BC(a b:Int):iEq a b=decide (a=b):=by
 rw[Xz];by_cases h:a=b<;>simp[h]
theorem C8(a b:Int):iNe a b=!decide (a=b):=by
 rw[oB];by_cases h:a=b<;>simp[h]
theorem Aq(a b:Int):iLt a b=decide (a<b):=by simp only[n6]
theorem Ee(a b:Int):iLe a b=decide (a<=b):=by simp only[oq]
theorem C0(a b:Int):iGt a b=decide (b<a):=by simp only[oD]
theorem CG(a b:Int):iGe a b=decide (b<=a):=by simp only[nV]
theorem nS(a b:dA):sEq a b=(a == b):=by simp only[ow]
theorem mP(a b:dA):sNe a b=!(a == b):=by simp only[nU]
section
variable {α:Type}
theorem As(l:List α):lLen l=(l.length:Int):=by simp only[nN]
theorem HM(l:List α):lN l=l.length:=by simp only[XS]
theorem A7(l:List α)(j:Nat)(d:α):lGet l j d=l.getD j d:=by simp only[cD]
theorem mw(l:List α)(j:Nat)(x:α):lSet l j x=l.set j x:=by simp only[cr]
theorem Iz(l:List α)(a b:Nat):lSub l a b=(l.drop a).take (b-a):=by simp only[mO]
theorem Wg(l:List α)(n:Nat):lTake l n=l.take n:=by simp only[bq]
theorem BA(l m:List α):lApp l m=l++m:=by simp only[Nb]
theorem lR(n:Int)(x:α):lRep n x=List.replicate n.toNat x:=by simp only[mQ]
theorem Ax(a:Int):iNat a=a.toNat:=by simp only[cg]
theorem lO(a b:dA):sAdd a b=a++b:=by simp only[nG]
end
def AO(n:Int):Prop:=-9223372036854775808<=n/\n<=9223372036854775807
theorem KK{n:Int}(h:AO n):IntKind.i64.wrap n=n:=by
 obtain⟨h1,h2⟩:=h;show (if decide (n % 18446744073709551616>=9223372036854775808)=true then n % 18446744073709551616-18446744073709551616 else n % 18446744073709551616)=n;simp only[Ap];split<;>omega
theorem Bu{a b:Int}(h:AO (a+b)):iAdd .i64 a b=a+b:=by rw[nI];exact KK h
theorem EF{a b:Int}(h:AO (a-b)):iSub .i64 a b=a-b:=by rw[m8];exact KK h
theorem ax{a b:Int}(h:AO (a*b)):iMul .i64 a b=a*b:=by rw[nj];exact KK h
theorem WD{a b:Int}(ha:0<=a):iRem a b=a % b:=by rw[nM];exact Int.tmod_eq_emod_of_nonneg ha
section
variable {X:Type} {c:X->Bool} {f:X->X} {p:X->Prop}
theorem LI(I:X->Prop)(m:X->Nat)(h:∀ x,I x->p x/\(c x=true->I (f x)/\m (f x)<m x)){x0:X}(h0:I x0) :
 LoopOk c f p x0/\I (Am c f x0)/\c (Am c f x0)=false:=by
 have go:∀ (n:Nat) (x:X),m x<n->I x->∃ y,LoopTo c f p x y/\I y/\c y=false:=by
  intro n
  induction n with
  |zero=>intro x hm;exact absurd hm (Xp _)
  | succ n ih=>
    intro x hm hI;obtain⟨h1,h2⟩:=h x hI
    cases hc:c x with
    |false=>exact⟨x,.stop h1 hc,hI,hc⟩
    | true=>
      obtain⟨h3,h4⟩:=h2 hc;obtain⟨y,h5,h6,h7⟩:=ih (f x) (by omega) h3;exact⟨y,.go h1 hc h5,h6,h7⟩
 obtain⟨y,h1,h2,h3⟩:=go _ x0 (W0 _) h0
 rw[h1.val]
 exact⟨⟨y,h1⟩,h2,h3⟩
theorem MO(I:X->Prop)(m:X->Nat)(h:∀ x,I x->c x=true->I (f x)/\m (f x)<m x){x0:X}(h0:I x0):I (Am c f x0)/\c (Am c f x0)=false:=
 (LI (p:=λ _=>True) I m (λ x hx=>⟨trivial,h x hx⟩) h0).2
theorem Jv(n:Nat)(st:Nat->X){x0:X}(h0:st 0=x0)(hs:∀ k,k<n->p (st k)/\c (st k)=true/\f (st k)=st (k+1))(he:p (st n)/\c (st n)=false):LoopOk c f p x0/\Am c f x0=st n:=by
 have go:∀ k,k<=n->LoopTo c f p (st (n-k)) (st n):=by
  intro k
  induction k with
  |zero=>intro _;exact .stop he.1 he.2
  | succ k ih=>
    intro hk;obtain⟨h1,h2,h3⟩:=hs (n-(k+1)) (by omega);refine .go h1 h2 ?_;rw[h3,show n-(k+1)+1=n-k by omega];exact ih (by omega)
 have:=go n (BP _);rw[Nat.sub_self,h0] at this;exact⟨⟨_,this⟩,this.val⟩
end
def CL(t:Nat->Bool):Nat->Nat->Nat
 |0,i=>i
 |k+1,i=>if t i then i else CL t k (i+1)
theorem Jr(t:Nat->Bool):∀ k i,i<=CL t k i/\CL t k i<=i+k
 |0,i=>⟨BP _,BP _⟩
 | k+1,i=>by
   unfold CL
   split
   . omega
   . have:=Jr t k (i+1);omega
theorem OU(t:Nat->Bool):∀ k i,CL t k i<i+k->t (CL t k i)=true
 |0,i,h=>by unfold CL at h;omega
 | k + 1,i,h=>by
   unfold CL at h ⊢
   split
   . rename_i ht;exact ht
   . rename_i ht
     rw[Ae ht] at h
     exact OU t k (i+1) (by omega)
theorem Ri(t:Nat->Bool):∀ k i j,i<=j->j<CL t k i->t j=false
 |0,i,j,h,h'=>by unfold CL at h';omega
 | k + 1,i,j,h,h'=>by
   unfold CL at h'
   split at h'
   . omega
   . rename_i ht
     by_cases hj:j=i
     . subst hj;simpa using ht
     . exact Ri t k (i+1) j (by omega) h'
theorem z6{c:Int->Bool}{f:Int->Int}{p:Int->Prop}(n:Nat)(t:Nat->Bool)(hn:(n:Int)<=9223372036854775806)(hc:∀ i:Nat,i<=n->c i=(decide (i<n)&&!t i))(hf:∀ i:Nat,i<n->f i=iAdd .i64 i 1)(hp:∀ i:Nat,i<=n->p i) :
 LoopOk c f p 0/\Am c f 0=(CL t n 0:Nat):=by
 have hle:=Jr t n 0
 refine Jv (CL t n 0) (λ k=>(k:Int)) rfl (λ k hk=>?_) ⟨hp _ (by omega),?_⟩
 . have hk':k<n:=by omega
   refine⟨hp k (by omega),?_,?_⟩
   . rw[hc k (by omega),Ri t n 0 k (by omega) hk];simp[hk']
   . rw[hf k hk',Bu (by unfold AO;omega)];omega
 . rw[hc _ (by omega)]
   by_cases h:CL t n 0<n
   . rw[OU t n 0 (by omega)];simp
   . simp[h]
theorem OP{t:Nat->Bool}{n:Nat}:CL t n 0=n↔∀ i,i<n->t i=false:=by
 constructor
 . intro h i hi;exact Ri t n 0 i (by omega) (by omega)
 . intro h;have hle:=Jr t n 0;rcases BI (CL t n 0) n with h1|h1
   . have:=OU t n 0 (by omega);rw[h _ h1] at this;cases this
   . omega
theorem R9{c:Int->Bool}{f:Int->Int}(n:Nat)(t:Nat->Bool)(hn:(n:Int)<=9223372036854775806)(hc:∀ i:Nat,i<=n->c i=(decide (i<n)&&!t i))(hf:∀ i:Nat,i<n->f i=iAdd .i64 i 1):Am c f 0=(CL t n 0:Nat):=(z6 (p:=λ _=>True) n t hn hc hf (λ _ _=>trivial)).2
theorem DY{α:Type}(x:List α)(i:Nat)(d:α)(h:i<x.length):x.getD i d∈x:=by
 rw[Ef,Bd h];exact Gp h
theorem IH{X:Type}{c:X->Bool}{f:X->X}{p:X->Prop}(ix:X->Int)(n:Int)(hn:n<=9223372036854775806)(hc:∀ x,0<=ix x->ix x<=n->c x=true->ix x<n)(hf:∀ x,ix (f x)=iAdd .i64 (ix x) 1)(hp:∀ x,0<=ix x->ix x<=n->p x){x0:X}(h0:0<=ix x0)(h1:ix x0<=n):LoopOk c f p x0:=by
 refine(LI (λ x=>0<=ix x/\ix x<=n) (λ x=>(n-ix x).toNat) (λ x hI=>⟨hp x hI.1 hI.2,λ hcc=>?_⟩) ⟨h0,h1⟩).1;have:=hc x hI.1 hI.2 hcc;obtain⟨k1,k2⟩:=hI;have e:=hf x;rw[Bu (by unfold AO;omega)] at e;refine⟨by omega,by omega⟩
theorem kl{c:Int->Bool}{f:Int->Int}{n:Nat}(h:¬ Am c f 0<(n:Int))(hn:(n:Int)<=9223372036854775806)(hc:∀ i:Nat,i<=n->c i=true->i<n)(hf:∀ i:Nat,i<n->f i=iAdd .i64 i 1):∀ i:Nat,i<n->c i=true:=by
 have hv:=R9 (c:=c) (f:=f) n (λ i=>!c i) hn (λ i hi=>by
  by_cases h1:i<n
  . simp[h1]
  . cases h2:c i with
    |false=>simp[h1]
    |true=>exact absurd (hc i hi h2) h1) hf
 rw[hv] at h;have hle:=Jr (λ i=>!c i) n 0
 have e:CL (λ i=>!c i) n 0=n:=by omega
 intro i hi;have:=OP.1 e i hi;simpa using this
def Z0(_:Int×Int×Int×Int):Prop:=True
def ZbH(x:Fb):Prop:=Z0 (x.2.1,x.2.2.1,x.2.2.2.1,x.2.2.2.2)/\True
def Pe(x:Bt):Prop:=x.length<=1048576/\∀ a∈x,ZbH a
def xZ(x:G7):Prop:=x.length<=1048576/\∀ a∈x,Z0 a
def Zk(x:DQ):Prop:=x.length<=1048576/\∀ a∈x,xZ a
def Gf(x:CR):Prop:=Zk x.2/\True
theorem ae {X Y:Type} {c:X->Bool} {f:X->X} {p:X->Prop} {d:Y->Bool} {g:Y->Y} {q:Y->Prop} (R:X->Y->Prop) (m:X->Nat)
 (h:∀ x y,R x y->p x/\q y/\c x=d y/\(c x=true->R (f x) (g y)/\m (f x)<m x)) {x0:X} {y0:Y} (h0:R x0 y0) :
 LoopOk c f p x0/\LoopOk d g q y0/\R (Am c f x0) (Am d g y0)/\c (Am c f x0)=false:=by
 have go:∀ (n:Nat) (x:X) (y:Y),m x<n->R x y->∃ u v,LoopTo c f p x u/\LoopTo d g q y v/\R u v/\c u=false:=by
  intro n
  induction n with
  |zero=>intro x y hm;exact absurd hm (Xp _)
  | succ n ih=>
    intro x y hm hR;obtain⟨h1,h2,h3,h4⟩:=h x y hR
    cases hc:c x with
    |false=>exact⟨x,y,.stop h1 hc,.stop h2 (by rw[<- h3];exact hc),hR,hc⟩
    | true=>
      obtain⟨h5,h6⟩:=h4 hc;obtain⟨u,v,a1,a2,a3,a4⟩:=ih _ _ (by omega) h5;exact⟨u,v,.go h1 hc a1,.go h2 (by rw[<- h3];exact hc) a2,a3,a4⟩
 obtain⟨u,v,a1,a2,a3,a4⟩:=go _ x0 y0 (W0 _) h0
 exact⟨⟨_,a1⟩,⟨_,a2⟩,by rw[a1.val,a2.val];exact a3,by rw[a1.val];exact a4⟩
theorem Pd{X:Type}{c:X->Bool}{f:X->X}{p:X->Prop}(I:X->Prop)(m:X->Nat)(h:∀ x,I x->p x/\(c x=true->I (f x)/\m (f x)<m x)){x0:X}(h0:I x0) :
 LoopOk c f p x0/\I (Am c f x0)/\c (Am c f x0)=false:=LI I m h h0
theorem Zbm{X:Type}{c:X->Bool}{f:X->X}{p:X->Prop}(n:Nat)(st:Nat->X)(t:Nat->Bool){x0:X}(h0:st 0=x0)(hc:∀ i,i<=n->(∀ j,j<i->t j=true)->c (st i)=(decide (i<n)&&t i))(hf:∀ i,i<n->(∀ j,j<=i->t j=true)->f (st i)=st (i+1))(hp:∀ i,i<=n->(∀ j,j<i->t j=true)->p (st i)) :
 LoopOk c f p x0/\∃ k,k<=n/\Am c f x0=st k/\(k=n↔∀ i,i<n->t i=true):=by
 have hle:=Jr (λ i=>!t i) n 0
 have hno:∀ j,j<CL (λ i=>!t i) n 0->t j=true:=λ j hj=>by
  have:=Ri (λ i=>!t i) n 0 j (by omega) hj;simpa using this
 have:=Jv (c:=c) (f:=f) (p:=p) (CL (λ i=>!t i) n 0) st h0 (λ k hk=>by
  refine⟨hp k (by omega) (λ j hj=>hno j (by omega)),?_,hf k (by omega) (λ j hj=>hno j (by omega))⟩;rw[hc k (by omega) (λ j hj=>hno j (by omega)),hno k hk]
  have:k<n:=by omega
  simp[this]) ⟨hp _ (by omega) hno,by
  rw[hc _ (by omega) hno];by_cases h:CL (λ i=>!t i) n 0<n
  . have:=OU (λ i=>!t i) n 0 (by omega);simp only[Bx] at this;rw[this];simp
  . simp[h]⟩
 refine⟨this.1,_,by omega,this.2,?_⟩
 rw[OP]
 simp
theorem Jt{α:Type}(x:List α)(d:α){i:Nat}(h:i<x.length):x.take i++[x.getD i d]=x.take (i+1):=by
 rw[List.take_add_one,Ef,Bd h];rfl
theorem Z2 {α:Type} {c:Int×List α->Bool} {f:Int×List α->Int×List α} {p:Int×List α->Prop} (x:List α) (d:α) (hl:x.length<=1048576)
 (hc:∀ (i:Nat) (l:List α),c ((i:Int),l)=decide (i<x.length)) (hf:∀ (i:Nat) (l:List α),i<x.length->f ((i:Int),l)=(iAdd .i64 (i:Int) 1,l++[x.getD i d])) (hp:∀ (i:Nat) (l:List α),i<=x.length->l.length=i->p ((i:Int),l)) :
 LoopOk c f p (0,[])/\Am c f (0,[])=((x.length:Int),x):=by
 have:=Jv (c:=c) (f:=f) (p:=p) x.length (λ i=>((i:Int),x.take i)) (x0:=(0,[])) rfl (λ k hk=>by
  refine⟨hp k _ (by omega) (by rw[Eu];omega),by rw[hc];simpa using hk,?_⟩;rw[hf k _ hk,Bu (by unfold AO;omega),Jt x d hk]
  simp) ⟨hp _ _ (by omega) (by rw[Eu];omega),by rw[hc];simp⟩
 rw[HD] at this
 exact this
theorem zZ {α:Type} {c:List α×Int->Bool} {f:List α×Int->List α×Int} {p:List α×Int->Prop} (x:List α) (d:α) (hl:x.length<=1048576)
 (hc:∀ (i:Nat) (l:List α),c (l,(i:Int))=decide (i<x.length)) (hf:∀ (i:Nat) (l:List α),i<x.length->f (l,(i:Int))=(l++[x.getD i d],iAdd .i64 (i:Int) 1)) (hp:∀ (i:Nat) (l:List α),i<=x.length->l.length=i->p (l,(i:Int))) :
 LoopOk c f p ([],0)/\Am c f ([],0)=(x,(x.length:Int)):=by
 have:=Jv (c:=c) (f:=f) (p:=p) x.length (λ i=>(x.take i,(i:Int))) (x0:=([],0)) rfl (λ k hk=>by
  refine⟨hp k _ (by omega) (by rw[Eu];omega),by rw[hc];simpa using hk,?_⟩;rw[hf k _ hk,Bu (by unfold AO;omega),Jt x d hk]
  simp) ⟨hp _ _ (by omega) (by rw[Eu];omega),by rw[hc];simp⟩
 rw[HD] at this
 exact this
theorem mh{a b:Nat}(ha:a<9223372036854775808)(hb:b<9223372036854775808):iAnd .i64 (a:Int) (b:Int)=((a &&& b:Nat):Int):=by
 have e:(BitVec.ofInt 64 (a:Int) &&& BitVec.ofInt 64 (b:Int)).toNat=a &&& b:=by
  rw[BitVec.ofInt_natCast,BitVec.ofInt_natCast,BitVec.toNat_and,BitVec.toNat_ofNat,BitVec.toNat_ofNat,Nat.mod_eq_of_lt (by omega),Nat.mod_eq_of_lt (by omega)]
 have h:a &&& b<=a:=Nat.and_le_left;rw[bQ];show IntKind.i64.wrap ((BitVec.ofInt 64 (a:Int) &&& BitVec.ofInt 64 (b:Int)).toNat:Int)=_;rw[e];exact KK (by unfold AO;omega)
theorem Si{a b:Nat}(ha:a<4611686018427387904)(hb:b<4611686018427387904):iOr .i64 (a:Int) (b:Int)=((a ||| b:Nat):Int):=by
 have e:(BitVec.ofInt 64 (a:Int) ||| BitVec.ofInt 64 (b:Int)).toNat=a ||| b:=by
  rw[BitVec.ofInt_natCast,BitVec.ofInt_natCast,BitVec.toNat_or,BitVec.toNat_ofNat,BitVec.toNat_ofNat,Nat.mod_eq_of_lt (by omega),Nat.mod_eq_of_lt (by omega)]
 have h:a ||| b<2^62:=Nat.or_lt_two_pow (by omega) (by omega)
 rw[nX];show IntKind.i64.wrap ((BitVec.ofInt 64 (a:Int) ||| BitVec.ofInt 64 (b:Int)).toNat:Int)=_;rw[e];exact KK (by unfold AO;omega)
theorem Zci(a k:Nat)(h:k<=64):iShr .i64 (a:Int) (k:Int)=((a / 2^k:Nat):Int):=by
 rw[nD];show Int.fdiv (a:Int) (2^min (k:Int).toNat 64)=_;rw[Bl,Nat.min_eq_left h,Int.fdiv_eq_ediv_of_nonneg _ (by exact_mod_cast Gq _)];norm_cast
theorem RG{a k:Nat}(hk:k<=64)(h:a*2^k<9223372036854775808):iShl .i64 (a:Int) (k:Int)=((a*2^k:Nat):Int):=by
 rw[mT];show IntKind.i64.wrap ((a:Int)*2^min (k:Int).toNat 64)=_;rw[Bl,Nat.min_eq_left hk]
 have:((a:Int)*2^k)=((a*2^k:Nat):Int):=by norm_cast
 rw[this];exact KK (by unfold AO;omega)
def Bytes(x:Bg):Prop:=∀ a∈x,0<=a/\a<256
theorem Bytes.get{x:List Int}(h:Bytes x)(i:Nat):∃ n:Nat,n<256/\x.getD i 0=(n:Int):=by
 by_cases hi:i<x.length
 . obtain⟨h0,h1⟩:=h _ (DY x i 0 hi);exact⟨(x.getD i 0).toNat,by omega,by omega⟩
 . exact⟨0,by omega,by rw[Ef,BT (by omega)];rfl⟩
theorem Bytes.of{x:List Int}(h:CT.wf (.sl (.one (.int .u8))) x):Bytes x:=by
 intro a ha;have:=h.2 a ha;simp only[RT.wf,CT.wf] at this
 have h:IntKind.u8.min<=a/\a<=IntKind.u8.max:=by simpa [Lit.wf] using this
 have e1:IntKind.u8.min=0:=by decide
 have e2:IntKind.u8.max=255:=by decide
 rw[e1,e2] at h;omega
theorem zg(k:Int)(x:DQ)(hs:Gf (k,x)):Ux (k,x)/\QY (k,x)=(k,x):=by
 rw[ti,uq]
 obtain⟨a1,a2⟩:=Z2 (c:=TN (k,x)) (f:=TW (k,x)) (p:=YC (k,x)) x [] hs.1.1 (λ i l=>by simp[TN,Aq,As])
  (λ i l _=>by simp[TW,BA,A7,Ax]) (λ i l hi hl=>by
   simp only[YC,Aq,As,Ap];refine⟨λ h=>?_,λ _=>trivial⟩
   have e:lGet x (iNat (i:Int)) []=x.getD i []:=by rw[A7,Ax,Bl]
   have h1:(x.getD i []).length<=1048576:=(hs.1.2 _ (DY x i [] (by omega))).1;have h2:x.length<=1048576:=hs.1.1;rw[e]
   refine⟨⟨by omega,h⟩,by rw[Ax];omega,by unfold Av;simp only[AK];omega,by unfold Av;simp only[AG,AK];omega⟩)
 exact⟨a1,by rw[a2]⟩
theorem gp(k:Int)(x:DQ)(hs:Gf (k,x)):Qd (k,x)/\H4 (k,x)=(k,x):=by
 rw[pF,px]
 obtain⟨a1,a2⟩:=Z2 (c:=Tn (k,x)) (f:=Tm (k,x)) (p:=X6 (k,x)) x [] hs.1.1 (λ i l=>by simp[Tn,Aq,As])
  (λ i l _=>by simp[Tm,BA,A7,Ax]) (λ i l hi hl=>by
   simp only[X6,Aq,As,Ap];refine⟨λ h=>?_,λ _=>trivial⟩
   have e:lGet x (iNat (i:Int)) []=x.getD i []:=by rw[A7,Ax,Bl]
   have h1:(x.getD i []).length<=1048576:=(hs.1.2 _ (DY x i [] (by omega))).1;have h2:x.length<=1048576:=hs.1.1;rw[e]
   refine⟨⟨by omega,h⟩,by rw[Ax];omega,by unfold Av;omega,by unfold Av;simp only[AG,AK];omega⟩)
 exact⟨a1,by rw[a2]⟩
theorem Lz(x:CE):D9 x=Bo x:=by
 simp only[r9,QA,Zc,Ur,UF,YJ,AF,AE,AZ,LU,BB,BC,C8,Aq,Ee,C0,CG,nS,mP,As,HM,A7,mw,Iz,Wg,BA,lR,Ax,lO];rw[JN]
 repeat' split
 all_goals simp only[Ah,Cm,Bx,CI,F2,B8,Ap,Bm,Gv,IV,AY,JA] at *
 all_goals omega
theorem Tz(x:CE):Mx x:=by
 have h:∀ y,Ea y:=λ y=>by rw[OL];trivial
 rw[rU];simp[h]
theorem Qe(x:CE):Mz x:=by
 have h1:∀ y,Ol y:=λ y=>by rw[uA];trivial
 have h2:∀ y,ME y:=λ y=>by rw[uE];trivial
 have h3:∀ y,QD y:=λ y=>by rw[sM];trivial
 rw[rC];simp[h1,h2,h3]
theorem FW(a b c:Int):BF (a,b,c)=(decide (b<=a)&&decide (a<=c)):=by rw[Zc];simp only[AE,CG,Ee]
theorem Pw (x):Ea x:=by rw[OL];trivial
theorem Zp (x):N2 x:=by rw[ql];exact Tz _
theorem O2(x:Bt):EE x=Cp x:=by
 rw[uB,Uu]
 have:∀ {c c':Int×Int->Bool} {f:Int×Int->Int×Int} {a:Int×Int} {n:Int},(∀ x,c x=c' x)->bNot (iLt (Am c f a).2 n)=bNot (iLt (Am c' f a).2 n):=by
  intro c c' f a n h;rw[funext h]
 apply this;intro st;rw[JN];simp only[Yi,Lz,FW,VB,AF,AE,AZ,BC,Aq,C0,Ah,Cm,Bx,CI,F2,B8,Ap,Bm,Gv,IV,AY,JA];generalize Bo _=A;cases A<;>simp<;>omega
theorem TX(x:Bt)(h:x.length<=1048576):MG x:=by
 rw[th];refine IH (λ st=>st.2) x.length (by omega) (λ st _ _ hc=>?_) (λ st=>rfl) (λ st h0 h1=>?_) (by simp) (by simp)
 . simp only[AE,Aq,As,Ah,Ap] at hc;exact hc.1
 . refine⟨λ hlt=>?_,λ _=>trivial⟩;simp only[Aq,As,Ap] at hlt
   have h3:st.2.toNat<x.length:=by omega
   simp only[FW,Ax,h3,h0,hlt,Pw,Zp,Tz,Hr,implies_true,Jy,AF,AZ,Ah,Cm,Bx,CI,F2,B8,Ap,Bm,Gv,IV,AY,JA,CI,B8];exact⟨λ hh=>hh.1,λ hh=>hh.1.1⟩
theorem TT(x:Bt)(h:x.length<=1048576):MD x:=by
 rw[tW];refine IH (λ st=>st.2) x.length (by omega) (λ st _ _ hc=>?_) (λ st=>rfl) (λ st h0 h1=>?_) (by simp) (by simp)
 . simp only[AE,Aq,As,Ah,Ap] at hc;exact hc.1
 . refine⟨λ hlt=>?_,λ _=>trivial⟩;simp only[Aq,As,Ap] at hlt
   have h3:st.2.toNat<x.length:=by omega
   simp only[iy,Ax,h3,h0,hlt,Qe,Hr,implies_true,Jy,Aq,C0,AF,AZ,Ah,Cm,Bx,CI,F2,B8,Ap,Bm,Gv,IV,AY,JA,CI,B8];refine⟨λ h4 h5=>by omega,λ h4 h5=>by omega⟩
def Xb(h:Fb):Prop:=0<=h.1/\h.1<=31/\Bo h.2=true/\h.2.1≠1/\h.2.1≠6/\h.2.1≠7
theorem Rk{x:List Fb}(hl:x.length<=1048576)(h:Cp x=true):∀ a∈x,Xb a:=by
 rw[Uu,AF,Bx,Aq _ (lLen x),Bm] at h
 have key:=MO (c:=λ x0:Int×Int=>(bAnd (iLt x0.2 (lLen x)) (bAnd (bNot (bOr (iLt (lGet x (iNat x0.2) (0,0,0,0,0)).1 0) (bOr (iGt (lGet x (iNat x0.2) (0,0,0,0,0)).1 31) (bOr (iEq (Eo (x0.1,(lGet x (iNat x0.2) (0,0,0,0,0)).1)) 1) (bNot (Bo ((lGet x (iNat x0.2) (0,0,0,0,0)).2.1,(lGet x (iNat x0.2) (0,0,0,0,0)).2.2.1,(lGet x (iNat x0.2) (0,0,0,0,0)).2.2.2.1,(lGet x (iNat x0.2) (0,0,0,0,0)).2.2.2.2))))))) (bNot (bOr (iEq (lGet x (iNat x0.2) (0,0,0,0,0)).2.1 1) (bOr (iEq (lGet x (iNat x0.2) (0,0,0,0,0)).2.1 6) (iEq (lGet x (iNat x0.2) (0,0,0,0,0)).2.1 7)))))))
  (f:=λ x0=>((iOr .i64 x0.1 (iShl .i64 1 (lGet x (iNat x0.2) (0,0,0,0,0)).1)),(iAdd .i64 x0.2 1)))
  (λ st=>∃ i:Nat,st.2=i/\i<=x.length/\∀ j,j<i->Xb (x.getD j (0,0,0,0,0))) (λ st=>x.length-st.2.toNat) (λ st hI hc=>?_) (x0:=(0,0)) ⟨0,rfl,Gq _,λ j hj=>by omega⟩
 . obtain⟨⟨i,k1,k2,k3⟩,_⟩:=key;rw[k1,As] at h
   have:i=x.length:=by omega
   subst this;intro a ha;obtain⟨j,hj,rfl⟩:=IM ha;have:=k3 j hj;rw[Ef,Bd hj] at this;exact this
 . obtain⟨i,k1,k2,k3⟩:=hI;obtain⟨s,j⟩:=st;simp only at k1;subst k1;simp only[AE,AF,AZ,Aq,C0,BC,As,A7,Ax,Bl,Ah,Bx,B8,Ap,Bm,CI] at hc;obtain⟨c1,⟨c2,c3,_,c5⟩,c6,c7,c8⟩:=hc;refine⟨⟨i+1,?_,by omega,λ j hj=>?_⟩,?_⟩
   . simp only;rw[Bu (by unfold AO;omega)];omega
   . by_cases hji:j=i
     . subst hji;exact⟨by omega,by omega,c5,c6,c7,c8⟩
     . exact k3 j (by omega)
   . simp only;rw[Bu (by unfold AO;omega)];omega
theorem iB{a:Int×Int×Int×Int}(h:Bo a=true)(hk:a.1=3):a.2.1=0/\a.2.2.1=0/\1<=a.2.2.2/\a.2.2.2<=3:=by
 rw[QA] at h;simp only[YJ,Ur,UF,hk,AF,AE,AZ,LU,BB,BC,C8,Aq,Ee,C0,CG,nS,mP,As,HM,A7,mw,Iz,Wg,BA,lR,Ax,lO] at h;simp at h;omega
theorem iH(f:Int)(x:Bt):QN (f,x)=D8 (f,x):=by
 rw[qZ,rL]
 have e:BF (f,0,15)=bAnd (iGe f 0) (iLe f 15):=by rw[FW,AE,CG,Ee]
 simp only[O2,e]
 cases h:Cp x with
 | true=>
   rw[show bNot true=false from by rw[AF];rfl,CQ]
   have:∀ a:Bool,bAnd a true=a:=λ a=>by rw[AE,Nu]
   simp only[this]
 | false=>
   rw[show bNot false=true from by rw[AF];rfl,Dm];rw[yy (by rw[AE,Bool.and_false])]
theorem pN(f:Int)(x:Bt)(h:x.length<=1048576):TZ (f,x):=by
 rw[qP];refine⟨Pw _,?_⟩;refine IH (λ st=>st.2) x.length (by omega) (λ st _ _ hc=>?_) (λ st=>rfl) (λ st h0 h1=>?_) (by simp) (by simp)
 . simp only[AE,Aq,As,Ah,Ap] at hc;exact hc.1
 . refine⟨⟨λ _=>TX x h,λ _=>trivial⟩,λ hlt=>?_,λ _=>trivial⟩;simp only[AE,Aq,As,Ah,Ap,O2] at hlt;obtain⟨hlt,hh⟩:=hlt
   have h3:st.2.toNat<x.length:=by omega
   simp only[Ax,A7,h3,h0,hlt,Hr,implies_true,Jy,BC,Ap];intro hk;have:=Rk h hh _ (DY x st.2.toNat (0,0,0,0,0) h3);have:=iB this.2.2.1 hk;omega
theorem dM(f:Int)(x:Bt)(h:x.length<=1048576):Qp (f,x):=by
 rw[rY];refine⟨TT x h,λ _=>trivial,λ hh=>?_⟩
 have hh:Cp x=true:=by simpa [AF] using hh
 refine IH (λ st=>st.2) x.length (by omega) (λ st _ _ hc=>?_) (λ st=>rfl) (λ st h0 h1=>?_) (by simp) (by simp)
 . simp only[Aq,As,Ap] at hc;exact hc
 . refine⟨λ hlt=>?_,λ _=>trivial⟩;simp only[Aq,As,Ap] at hlt
   have h3:st.2.toNat<x.length:=by omega
   simp only[Ax,A7,h3,h0,hlt,Hr,implies_true,Jy,BC,Ap];intro hk;have:=Rk h hh _ (DY x st.2.toNat (0,0,0,0,0) h3);have:=iB this.2.2.1 hk;omega
theorem Zh(x:CR):GI x=D7 x:=by
 rw[q9,Yy,FW,FW]
 have inner:∀ (i a n:Int) (A B:Bool),bNot (bOr A (bSel (iEq a 1) (bOr (iEq i 0) B) B))=bNot (bOr A (bSel (iEq i 0) (bOr (iEq a 1) B) B)):=by
  intro i a n A B;simp only[AF,AZ,BB,BC];by_cases h1:a=1<;>by_cases h2:i=0<;>simp[h1,h2]
 simp only[Lz,λ i a A B=>inner i a 0 A B];generalize bNot (iLt (Am _ _ _) (lLen x.2))=L;rw[JN];simp only[AE,AF,AZ,Aq,C0,As,Ah,Cm,Bx,CI,F2,B8,Ap,Bm,Gv,IV,AY,JA];cases L<;>simp<;>omega
theorem gK(x:CR)(h:Gf x):Qt x/\Qv x:=by
 obtain⟨k,x⟩:=x;have h:Zk x:=h.1;rw[rj,sd]
 have inl:∀ i:Int,0<=i->i<x.length->(lGet x (iNat i) []).length<=1048576:=λ i h0 hi=>by
  rw[A7,Ax];exact(h.2 _ (DY x i.toNat [] (by omega))).1
 refine⟨⟨?_,λ _=>trivial,λ _=>⟨Pw _,λ _=>Pw _,λ _=>trivial⟩⟩,λ _=>trivial,λ _=>?_⟩
 all_goals
  refine IH (λ st=>st) x.length (by have:=h.1;omega) (λ st _ _ hc=>?_) (λ st=>rfl) (λ st h0 h1=>?_) (by simp) (by simp)
  . rw[AE,Aq st,As,Ah,Ap] at hc
    exact hc.1
  . refine⟨λ hlt=>?_,λ _=>trivial⟩
    rw[Aq,As,Ap] at hlt;have hlt:st<(x.length:Int):=hlt
    have h3:iNat st<x.length:=by rw[Ax];omega
    have hl:=inl st h0 hlt;refine⟨⟨h0,hlt⟩,h3,λ _=>trivial,λ _=>?_⟩;refine IH (λ st=>st) (lGet x (iNat st) []).length (by omega) (λ j _ _ hc=>?_) (λ st=>rfl) (λ j j0 j1=>?_) (by simp) (by simp)
    . rw[AE,Aq j,As,Ah,Ap] at hc;exact hc.1
    . have fin:iLt j (lLen (lGet x (iNat st) []))=true->j<((lGet x (iNat st) []).length:Int)/\iNat j<(lGet x (iNat st) []).length:=λ hj=>by
       rw[Aq,As,Ap] at hj;exact⟨hj,by rw[Ax];omega⟩
      first
       |exact⟨⟨h0,hlt⟩,h3,λ hj=>⟨⟨h0,hlt⟩,h3,⟨j0,(fin hj).1⟩,(fin hj).2,Tz _⟩,λ _=>trivial⟩
       |exact⟨λ hj=>⟨⟨j0,(fin hj).1⟩,(fin hj).2,Qe _⟩,λ _=>trivial⟩
structure MapOk (k:Int) (x:DQ):Prop where
 k1:1<=k
 k2:k<=32
 l1:1<=x.length
 l2:x.length<=4
 row:∀ i:Nat,i<x.length->((x.getD i []).length:Int)=k
 act:∀ i j:Nat,i<x.length->j<(x.getD i []).length->Bo ((x.getD i []).getD j (0,0,0,0))=true/\(i=0->((x.getD i []).getD j (0,0,0,0)).1≠1)/\(((x.getD i []).getD j (0,0,0,0)).1≠9->((x.getD i []).getD j (0,0,0,0)).2.2.2<x.length)
theorem GQ{k:Int}{x:List G7}(hs:Gf (k,x))(h:D7 (k,x)=true):MapOk k x:=by
 rw[Yy,AE,Ah] at h;obtain⟨h1,h2⟩:=h;simp only[AF,AZ,Aq,C0,As,Ah,Cm,Bx,CI,F2,B8,Ap,Bm,Gv,IV,AY,JA] at h1;rw[AF,Bx,Aq _ (lLen _),As,Bm] at h2;have hs:Zk x:=hs.1
 have all:=kl h2 (by show (x.length:Int)<=_;omega) (λ i hi hc=>by
  rw[AE,Aq (i:Int),As,Ah,Ap] at hc
  have:=hc.1;show i<x.length;simp only at this;omega) (λ i hi=>rfl)
 have row:∀ i:Nat,i<x.length->((x.getD i []).length:Int)=k/\∀ j:Nat,j<(x.getD i []).length->Bo ((x.getD i []).getD j (0,0,0,0))=true/\(i=0->((x.getD i []).getD j (0,0,0,0)).1≠1)/\(((x.getD i []).getD j (0,0,0,0)).1≠9->((x.getD i []).getD j (0,0,0,0)).2.2.2<x.length):=by
  intro i hi;have hc:=all i hi;rw[AE,AE,Ah,Ah] at hc;obtain⟨_,c1,c2⟩:=hc;simp only[AF,C8,As,A7,Ax,Bl,Sb,Ap] at c1;rw[AF,Bx,Aq _ (lLen _),As,Bm] at c2;have hli:=(hs.2 _ (DY x i [] hi)).1
  have hin:(lGet x (iNat (i:Int)) [])=x.getD i []:=by rw[A7,Ax,Bl]
  have all2:=kl c2 (by show ((lGet x (iNat (i:Int)) []).length:Int)<=_;rw[hin];omega) (λ j hj hc=>by
   simp only[AE,Aq,As,Ah,Ap] at hc
   have:=hc.1;show j<(lGet x (iNat (i:Int)) []).length;omega) (λ j hj=>rfl)
  refine⟨c1,λ j hj=>?_⟩;have hc:=all2 j (by show j<(lGet x (iNat (i:Int)) []).length;rw[hin];exact hj);simp only[hin] at hc;simp only[AE,AF,AZ,BB,BC,C8,CG,As,A7,Ax,Bl,Ah,Bx,B8,CI] at hc;obtain⟨_,d1,d2⟩:=hc;refine⟨d1,λ hz=>?_,λ h9=>?_⟩
  . subst hz;simp only[Int.ofNat_zero,Int.natCast_zero,decide_true,AM,B8,Bm] at d2;exact d2.1
  . split at d2
    . simp only[B8,F2,Bm,CI,Ap] at d2;rcases d2.2 with d2|d2
      . exact absurd d2 h9
      . omega
    . simp only[F2,Bm,CI,Ap] at d2;rcases d2 with d2|d2
      . exact absurd d2 h9
      . omega
 exact⟨by omega,by omega,by omega,by omega,λ i hi=>(row i hi).1,λ i j hi hj=>(row i hi).2 j hj⟩
theorem ji(k:Int)(x:DQ)(on key:Int)(hs:Gf (k,x)):FO ((k,x),on,key)=BU ((k,x),on,key):=by
 rw[sB,Uc,YM];simp only[Zh,VB,FW]
 cases h:D7 (k,x) with
 |false=>simp only[AF,AZ];simp[BB]
 | true=>
   have m:=GQ hs h;rw[EF (by unfold AO;have:=m.k1;have:=m.k2;omega)]
   have:bOr (bNot true) (bNot (decide (0<=key)&&decide (key<=k-1)))=bOr (bNot true) (bOr (iLt key 0) (iGe key k)):=by
    rw[JN];simp only[AF,AZ,Aq,CG,Ah,Cm,Bx,CI,F2,B8,Ap,Bm,Gv,IV,AY,JA];simp;omega
   rw[this]
theorem jn(k:Int)(x:DQ)(on key:Int)(hs:Gf (k,x)):Um ((k,x),on,key)/\Ul ((k,x),on,key):=by
 obtain⟨o1,o2⟩:=gK (k,x) hs
 have loop:∀ {c:Int->Bool} {f:Int->Int} {p:Int->Prop},D7 (k,x)=true->(∀ st,c st=true->0<st)->(∀ st,f st=iSub .i64 st 1)->(∀ st:Int,0<=st->st<x.length->p st)->LoopOk c f p (iSub .i64 (lLen x) 1):=by
  intro c f p h hc hf hp;have m:=GQ hs h
  have:=m.l1;have:=m.l2
  rw[As,EF (by unfold AO;omega)];refine(LI (λ st:Int=>0<=st/\st<x.length) (λ st=>st.toNat) (λ st hI=>⟨hp st hI.1 hI.2,λ hcc=>?_⟩) (by omega)).1;have:=hc st hcc;rw[hf,EF (by unfold AO;omega)];omega
 have cell:D7 (k,x)=true->0<=key->key<k->∀ st:Int,0<=st->st<x.length->iNat st<x.length/\key<((lGet x (iNat st) []).length:Int)/\iNat key<(lGet x (iNat st) []).length:=by
  intro h h0 h1 st s0 s1;have m:=GQ hs h;have:=m.row st.toNat (by omega);rw[A7,Ax,Ax];omega
 rw[sL,fD];simp only[Zh];refine⟨⟨⟨o1,λ _=>trivial,λ _=>Pw _⟩,λ _=>trivial,λ hb=>?_⟩,o2,λ _=>trivial,λ hb=>?_⟩
 . simp only[FW,AF,AZ,B8,CI,Ah,Ap] at hb;obtain⟨h,h0,h1⟩:=hb;have m:=GQ hs h;rw[EF (by unfold AO;have:=m.k1;have:=m.k2;omega)] at h1;refine loop h (λ st hc=>?_) (λ st=>rfl) (λ st s0 s1=>?_)
   . rw[AE,C0,Ah,Ap] at hc;exact hc.1
   . obtain⟨e1,e2,e3⟩:=cell h h0 (by omega) st s0 s1;exact⟨λ _=>⟨s0,λ _=>⟨⟨s0,s1⟩,e1,⟨h0,e2⟩,e3⟩,λ _=>trivial⟩,λ _=>trivial⟩
 . simp only[Aq,CG,AF,AZ,B8,CI,Bm] at hb;obtain⟨h,h0,h1⟩:=hb;have hk0:0<=key:=Int.not_lt.mp h0;rw[sW];refine loop h (λ st hc=>?_) (λ st=>rfl) (λ st s0 s1=>?_)
   . rw[AE,C0,Ah,Ap] at hc;exact hc.1
   . obtain⟨e1,e2,e3⟩:=cell h (by omega) (by omega) st s0 s1;exact⟨λ _=>⟨by rw[iy];exact s0,λ _=>⟨⟨s0,s1⟩,e1,⟨hk0,e2⟩,e3⟩,λ _=>trivial⟩,λ _=>trivial⟩
def ZbZ(_:Int×Int×Int):Prop:=True
def Zai(x:CS):Prop:=x.length<=1048576/\∀ a∈x,ZbZ a
def MU(x:C9):Prop:=x.length<=1048576/\∀ a∈x,Zai a
def FT(x:Ce):Prop:=Gf (x.1,x.2.1)/\MU x.2.2.1/\Pe x.2.2.2.2.1/\True
def Bh(h:Fb):Int×Int:=(h.2.2.1,h.2.2.2.1)
theorem ke(dn:Bt)(i:Nat):(dn.map Bh).getD i (0,0)=Bh (dn.getD i (0,0,0,0,0)):=by
 rw[Ef,Ef,HF];cases dn[i]?<;>rfl
theorem Zcu{c:Int->Bool}{f:Int->Int}(n:Int)(h0:0<=n)(hn:n<=9223372036854775806)(hc:∀ st:Int,c st=true->st<n)(hf:∀ st,f st=iAdd .i64 st 1):0<=Am c f 0:=
 (MO (λ st=>0<=st/\st<=n) (λ st=>(n-st).toNat) (λ st hI h=>by
  have:=hc st h
  rw[hf,Bu (by constructor<;>omega)]
  exact⟨by omega,by omega⟩) ⟨by omega,h0⟩).1.1
theorem M5(dn:Bt)(k c m:Int):B5 (dn,k,c,m)=Bf (dn.map Bh,c,m):=by
 rw[tU,YW];simp only[A7,ke,As,Ba,Bh]
theorem Ws(dm:NH)(q:A5)(h:dm.length<=1048576):Bf (dm,q)=-1\/(0<=Bf (dm,q)/\Bf (dm,q)<dm.length):=by
 rw[YW,BB,Aq,As];split
 . rename_i hlt;rw[Ap] at hlt;refine .inr ⟨Zcu dm.length (by omega) (by omega) (λ st hc=>?_) (λ _=>rfl),hlt⟩;rw[AE,Aq,Ah,Ap] at hc;exact hc.1
 . exact .inl rfl
theorem aV(dn:Bt)(q:CN)(h:dn.length<=1048576):MF (dn,q):=by
 rw[u5];refine IH (λ st=>st) dn.length (by omega) (λ st _ _ h=>?_) (λ _=>rfl) (λ st h0 h1=>⟨λ hlt=>?_,λ _=>trivial⟩) (by simp) (by simp)
 . rw[AE,Aq,As,Ah,Ap] at h;exact h.1
 . rw[Aq,As,Ap] at hlt;have a:(0:Int)<=st/\st<(dn.length:Int):=⟨h0,hlt⟩
   have b:iNat st<dn.length:=by rw[Ax];omega
   exact⟨a,b,λ _=>⟨a,b⟩,λ _=>trivial⟩
theorem mM(dm:NH)(q:A5)(h:dm.length<=1048576):Oj (dm,q):=by
 rw[uo];refine IH (λ st=>st) dm.length (by omega) (λ st _ _ h=>?_) (λ _=>rfl) (λ st h0 h1=>⟨λ hlt=>?_,λ _=>trivial⟩) (by simp) (by simp)
 . rw[AE,Aq,As,Ah,Ap] at h;exact h.1
 . rw[Aq,As,Ap] at hlt;exact⟨⟨h0,hlt⟩,by rw[Ax];omega⟩
theorem iF(dn:Bt)(p:Int)(h0:0<=p)(h1:p<dn.length) :
 (Dg (dn,p)).map Bh=lApp (lTake (dn.map Bh) (lN (lSub (dn.map Bh) 0 (iNat p)))) (lSub (dn.map Bh) (iNat (iAdd .i64 p 1)) (lN (dn.map Bh))):=by
 have hm:min p.toNat dn.length=p.toNat:=by omega
 rw[Qm]
 simp only[BA,Wg,HM,Iz,Ax,G1,L5,Eu,Gt,Xh,List.map_drop,Ba,CP,hm]
theorem iz(dn:Bt)(p:Int)(h0:0<=p)(h1:p<dn.length)(h:dn.length<=1048576):(Dg (dn,p)).length<=dn.length:=by
 rw[Qm];simp only[BA,HM,Iz,Ax,G1,L5,Eu,Nf,Cw,CP];rw[Bu (by constructor<;>omega)];omega
theorem Z8(K p:Int)(A:Bool):bNot (bOr (bNot (BF (K,0,2))) (bOr (bNot A) (bNot (bIff (iEq K 2) (iGe p 0)))))=
 bAnd (bNot (bNot A)) (bSel (bOr (iEq K 0) (iEq K 1)) (bNot (iGe p 0)) (bAnd (iEq K 2) (bNot (iLt p 0)))):=by
 have hp:decide (p<0)=!decide (0<=p):=by simp only[<- decide_not,Int.not_le]
 rw[Zc]
 simp only[AE,AF,AZ,LU,BB,BC,CG,Ee,Aq,hp]
 generalize decide (0<=p)=P
 have h:K=0\/K=1\/K=2\/(¬ (0<=K/\K<=2)):=by omega
 rcases h with h|h|h|h
 . subst h;cases A<;>cases P<;>decide
 . subst h;cases A<;>cases P<;>decide
 . subst h;cases A<;>cases P<;>decide
 . have e0:K≠0:=by omega
   have e1:K≠1:=by omega
   have e2:K≠2:=by omega
   have e3:(decide (0<=K)&&decide (K<=2))=false:=by rw[<- Bool.decide_and];exact Es h
   simp only[e3,e0,e1,e2,decide_false];cases A<;>rfl
theorem Zao {l:List CN} {cs:List Fb×Int->Bool} {fs} {ci:List A5×Int->Bool} {fi}
 (h:∀ (dn:Bt) (i:Int),0<=i->i<=l.length->dn.length<=i->cs (dn,i)=ci (dn.map Bh,i)/\(cs (dn,i)=true->i<l.length/\∃ dn':List Fb,fs (dn,i)=(dn',i+1)/\fi (dn.map Bh,i)=(dn'.map Bh,i+1)/\dn'.length<=i+1)) :
 bAnd (bNot (iLt (Am cs fs ([],0)).2 (lLen l))) (bAnd (iLe (lLen l) 8) (iEq (lLen (Am cs fs ([],0)).1) 0))=
 bAnd (bNot (iGt (lLen l) 8)) (bAnd (bNot (iLt (Am ci fi ([],0)).2 (lLen l))) (iEq (lLen (Am ci fi ([],0)).1) 0)):=by
 have go:∀ (n:Nat) (dn:Bt) (i:Int),0<=i->i<=l.length->dn.length<=i->(l.length-i).toNat<n ->
  ∃ (en:Bt) (j:Int),LoopTo cs fs (λ _=>True) (dn,i) (en,j)/\LoopTo ci fi (λ _=>True) (dn.map Bh,i) (en.map Bh,j):=by
  intro n
  induction n with
  |zero=>intro _ _ _ _ _ hm;exact absurd hm (Xp _)
  | succ n ih=>
    intro dn i h0 h1 h2 hm;obtain⟨a,b⟩:=h dn i h0 h1 h2
    cases hc:cs (dn,i) with
    |false=>exact⟨dn,i,.stop trivial hc,.stop trivial (by rw[<- a,hc])⟩
    | true=>
      obtain⟨c1,dn',c2,c3,c4⟩:=b hc;obtain⟨en,j,d1,d2⟩:=ih dn' (i+1) (by omega) (by omega) c4 (by omega);exact⟨en,j,.go trivial hc (by rw[c2];exact d1),.go trivial (by rw[<- a,hc]) (by rw[c3];exact d2)⟩
 obtain⟨en,j,d1,d2⟩:=go _ [] 0 (by omega) (by omega) (by simp) (W0 _)
 have d2:LoopTo ci fi (λ _=>True) ([],0) (en.map Bh,j):=d2
 rw[d1.val,d2.val]
 simp only[AE,AF,Ee,C0,As,Ba,<- decide_not,Int.not_lt]
 exact Bool.and_left_comm ..
theorem ZS (dn:Bt) (K c m p i:Int) (t:Bool) (n:Int) (hp:p=-1\/(0<=p/\p<dn.length)) (hd:dn.length<=i) (hi:i<n) (hn:n<=1048576)
 (hc:bSel (bOr (iEq K 0) (iEq K 1)) (bNot (iGe p 0)) (bAnd (iEq K 2) (bNot (iLt p 0)))=true) :
 bSel (bOr (iEq K 0) (iEq K 1)) (bSel (iEq K 1) (lApp (dn.map Bh) [(c,m)]) (dn.map Bh)) (lApp (lTake (dn.map Bh) (lN (lSub (dn.map Bh) 0 (iNat p)))) (lSub (dn.map Bh) (iNat (iAdd .i64 p 1)) (lN (dn.map Bh))))=
  (bSel (iEq K 1) (lApp dn [(0,2,c,m,0)]) (bSel (iEq K 2) (Dg (dn,p)) dn)).map Bh /\
 ((bSel (iEq K 1) (lApp dn [(0,2,c,m,0)]) (bSel (iEq K 2) (Dg (dn,p)) dn)).length:Int)<=i+1:=by
 simp only[BB,AZ,AE,AF,BC,CG,Aq,Cm,Ap] at hc ⊢
 by_cases k1:K=1
 . subst k1
   simp[BA,Bh];omega
 . by_cases k0:K=0
   . subst k0;simp;omega
   . simp only[k0,k1,or_self,AP,Ah,Ap,Bx,Bm] at hc ⊢
     have h0:0<=p:=by omega
     have h1:p<dn.length:=by omega
     rw[Ac hc.1];refine⟨(iF dn p h0 h1).symm,?_⟩;have:=iz dn p h0 h1 (by omega);omega
theorem Zz(x:CS)(h:x.length<=1048576):Gb x=Ij x:=by
 rw[YO,sw];refine Zao (λ dn i h0 h1 h2=>?_);have hr:=Ws (dn.map Bh) ((lGet x (iNat i) (0,0,0)).2.1,(lGet x (iNat i) (0,0,0)).2.2) (by rw[Ba];omega);rw[Ba] at hr;simp only[M5,Lz,MA,Z8];generalize Bf (dn.map Bh,(lGet x (iNat i) (0,0,0)).2.1,(lGet x (iNat i) (0,0,0)).2.2)=p at hr ⊢;refine⟨trivial,λ hc=>?_⟩;rw[AE,AE,Aq,As,Ah,Ah,Ap] at hc;obtain⟨hc1,hc2,hc3⟩:=hc;obtain⟨s1,s2⟩:=ZS dn (lGet x (iNat i) (0,0,0)).1 (lGet x (iNat i) (0,0,0)).2.1 (lGet x (iNat i) (0,0,0)).2.2 p i true x.length hr h2 hc1 (by omega) hc3;rw[Bu (a:=i) (b:=1) (by constructor<;>omega)];exact⟨hc1,_,rfl,by rw[s1],s2⟩
theorem MV{k w:Nat}(h:k<=1048577)(hw:w<=1000):Av (k*w):=by
 unfold Av;exact JG (Nat.mul_le_mul h hw) (by decide)
theorem VS(dn:Bt)(p:Int)(h0:0<=p)(h1:p<dn.length)(h:dn.length<=1048576):Mv (dn,p):=by
 rw[qE,Bu (a:=p) (b:=1) (by constructor<;>omega)];simp only[Ax,HM,BA,Iz,G1,L5,Eu,Nf,Cw,AK,CP];refine⟨⟨h0,by omega,by omega,by omega⟩,⟨by omega,by omega,by omega,by omega⟩,MV (by omega) (by omega),MV (by omega) (by omega)⟩
theorem fP(x:CS)(h:x.length<=1048576):Og x:=by
 rw[sE];refine(LI (λ st:List Fb×Int=>0<=st.2/\st.2<=(x.length:Int)/\(st.1.length:Int)<=st.2) (λ st=>((x.length:Int)-st.2).toNat) (λ st hI=>?_) ⟨by simp,by simp,by simp⟩).1;obtain⟨dn,i⟩:=st;obtain⟨i0,i1,i2⟩:=hI;simp only at i0 i1 i2;have hr:=Ws (dn.map Bh) ((lGet x (iNat i) (0,0,0)).2.1,(lGet x (iNat i) (0,0,0)).2.2) (by rw[Ba];omega);rw[Ba] at hr;have hf:=aV dn ((lGet x (iNat i) (0,0,0)).1,(lGet x (iNat i) (0,0,0)).2.1,(lGet x (iNat i) (0,0,0)).2.2) (by omega);simp only[M5,Lz,MA,Z8,Tz,eQ,OL];generalize Bf (dn.map Bh,(lGet x (iNat i) (0,0,0)).2.1,(lGet x (iNat i) (0,0,0)).2.2)=p at hr ⊢;refine⟨⟨λ hlt=>?_,λ _=>trivial⟩,λ hc=>?_⟩
 . rw[Aq,As,Ap] at hlt;refine⟨⟨i0,hlt⟩,by rw[Ax];omega,hf,⟨trivial,λ _=>trivial,λ _=>⟨trivial,trivial⟩⟩,λ _=>trivial,λ hc=>⟨λ _=>⟨trivial,MV (by simp only[AG,AK];omega) (by omega)⟩,λ k1=>⟨λ k2=>?_,λ _=>trivial⟩⟩⟩;have hc:=congrArg bNot hc;rw[Z8] at hc;simp only[BB,AZ,AE,AF,BC,CG,Aq,Ap] at hc k1 k2;simp[k2] at hc;exact VS dn p (by omega) (by omega) (by omega)
 . rw[AE,AE,Aq,As,Ah,Ah,Ap] at hc;obtain⟨hc1,hc2,hc3⟩:=hc;obtain⟨s1,s2⟩:=ZS dn (lGet x (iNat i) (0,0,0)).1 (lGet x (iNat i) (0,0,0)).2.1 (lGet x (iNat i) (0,0,0)).2.2 p i true x.length hr i2 hc1 (by omega) hc3;rw[Bu (a:=i) (b:=1) (by constructor<;>omega)];exact⟨⟨by show 0<=i+1;omega,by show i+1<=_;omega,s2⟩,by show (_-(i+1)).toNat<_;omega⟩
theorem fV(x:CS)(h:x.length<=1048576):Oh x:=by
 rw[ss];refine⟨λ _=>trivial,λ _=>?_⟩;refine(LI (λ st:List A5×Int=>0<=st.2/\st.2<=(x.length:Int)/\∃ dn:List Fb,st.1=dn.map Bh/\(dn.length:Int)<=st.2) (λ st=>((x.length:Int)-st.2).toNat) (λ st hI=>?_) ⟨by simp,by simp,[],rfl,by simp⟩).1;obtain⟨dm,i⟩:=st;obtain⟨i0,i1,dn,rfl,i2⟩:=hI;simp only at i0 i1 i2;have hr:=Ws (dn.map Bh) ((lGet x (iNat i) (0,0,0)).2.1,(lGet x (iNat i) (0,0,0)).2.2) (by rw[Ba];omega);have hf:=mM (dn.map Bh) ((lGet x (iNat i) (0,0,0)).2.1,(lGet x (iNat i) (0,0,0)).2.2) (by rw[Ba];omega);rw[Ba] at hr;simp only[Qe];generalize Bf (dn.map Bh,(lGet x (iNat i) (0,0,0)).2.1,(lGet x (iNat i) (0,0,0)).2.2)=p at hr ⊢;refine⟨⟨λ hlt=>?_,λ _=>trivial⟩,λ hc=>?_⟩
 . rw[Aq,As,Ap] at hlt;refine⟨⟨i0,hlt⟩,by rw[Ax];omega,hf,trivial,λ _=>trivial,λ _=>⟨λ _=>⟨λ _=>trivial,λ _=>⟨λ _=>MV (by simp only[Ba,AG,AK];omega) (by omega),λ _=>trivial⟩⟩,λ _=>⟨λ _=>⟨λ _=>trivial,λ hp=>?_⟩,λ _=>trivial⟩⟩⟩;rw[Aq,Bm] at hp
   have h0:0<=p:=by omega
   have h1:p<dn.length:=by omega
   rw[Bu (a:=p) (b:=1) (by constructor<;>omega)];simp only[Ax,HM,Iz,G1,L5,Eu,Nf,Ba];exact⟨⟨h0,by omega,by omega,by omega⟩,⟨by omega,by omega,by omega,by omega⟩,by omega,by omega,MV (by omega) (by omega)⟩
 . rw[AE,AE,Aq,As,Ah,Ah,Ap] at hc;obtain⟨hc1,hc2,hc3⟩:=hc;obtain⟨s1,s2⟩:=ZS dn (lGet x (iNat i) (0,0,0)).1 (lGet x (iNat i) (0,0,0)).2.1 (lGet x (iNat i) (0,0,0)).2.2 p i true x.length hr i2 hc1 (by omega) hc3;rw[Bu (a:=i) (b:=1) (by constructor<;>omega)];exact⟨⟨by show 0<=i+1;omega,by show i+1<=_;omega,_,s1,s2⟩,by show (_-(i+1)).toNat<_;omega⟩
abbrev Cn:=Int×DQ×C9×Int×Bt×Int×Bool
theorem kQ{c c':Int->Bool}{f:Int->Int}{p q:Int->Prop}(n:Nat)(hn:n<=1048576)(hc:∀ i:Nat,i<n->c i=c' i)(hlt:∀ i:Nat,c i=true->i<n)(hlt':∀ i:Nat,c' i=true->i<n)(hf:∀ i,f i=iAdd .i64 i 1)(hp:∀ i:Nat,i<=n->p i/\q i) :
 LoopOk c f p 0/\LoopOk c' f q 0/\Am c f 0=Am c' f 0/\0<=Am c f 0/\Am c f 0<=n:=by
 obtain⟨b1,b2,⟨k,h1,h2,h3⟩,b4⟩:=ae (c:=c) (f:=f) (p:=p) (d:=c') (g:=f) (q:=q) (x0:=0) (y0:=0) (λ x y=>∃ k:Nat,k<=n/\x=k/\y=k) (λ x=>n-x.toNat) (by
  rintro x y ⟨k,hk,rfl,rfl⟩
  refine⟨(hp k hk).1,(hp k hk).2,?_,λ h=>?_⟩
  . by_cases hkn:k<n
    . exact hc k hkn
    . have e1:c (k:Int)=false:=by cases h:c (k:Int) with
       |false=>rfl
       |true=>exact absurd (hlt k h) hkn
      have e2:c' (k:Int)=false:=by cases h:c' (k:Int) with
       |false=>rfl
       |true=>exact absurd (hlt' k h) hkn
      rw[e1,e2]
  . have hkn:=hlt k h
    have e:f (k:Int)=((k+1:Nat):Int):=by rw[hf,Bu (by unfold AO;omega)];omega
    exact⟨⟨k+1,hkn,e,e⟩,by rw[e];omega⟩) ⟨0,by omega,rfl,rfl⟩
 exact⟨b1,b2,by rw[h2,h3],by omega,by omega⟩
theorem Q6(x:Cn)(hs:FT x):N5 x/\N9 x/\D6 x=Ga x:=by
 obtain⟨keys,layers,macros,fixed,held,once,caps⟩:=x;have hk:Gf (keys,layers):=hs.1;have hm:MU macros:=hs.2.1;have hh:Pe held:=hs.2.2.1;obtain⟨a1,a2⟩:=gK (keys,layers) hk
 have l1:=kQ (c:=Mt (keys,layers,macros,fixed,held,once,caps)) (c':=J2 (keys,layers,macros,fixed,held,once,caps)) (f:=HZ) (p:=Yf (keys,layers,macros,fixed,held,once,caps)) (q:=Ya (keys,layers,macros,fixed,held,once,caps)) macros.length hm.1
  (λ i hi=>by
   simp only[Mt,J2]
   rw[A7,Ax,Bl,Zz _ (hm.2 _ (DY macros i [] hi)).1])
  (λ i h=>by simp only[Mt,AE,Ah,Aq,As,Ap] at h;omega)
  (λ i h=>by simp only[J2,AE,Ah,Aq,As,Ap] at h;omega) (λ i=>rfl)
  (λ i hi=>by
   have k:(i:Int)<macros.length->Og (lGet macros (iNat (i:Int)) [])/\Oh (lGet macros (iNat (i:Int)) []):=λ h=>by
    rw[A7,Ax,Bl];have:=(hm.2 _ (DY macros i [] (by omega))).1;exact⟨fP _ this,fV _ this⟩
   simp only[Yf,Ya,Aq,As,Ap]
   refine⟨⟨λ h=>⟨⟨by omega,h⟩,by rw[Ax];omega,(k h).1⟩,λ _=>trivial⟩,⟨λ h=>⟨⟨by omega,h⟩,by rw[Ax];omega,(k h).2⟩,λ _=>trivial⟩⟩)
 have l2:=kQ (c:=NY (keys,layers,macros,fixed,held,once,caps)) (c':=Lc (keys,layers,macros,fixed,held,once,caps)) (f:=HZ) (p:=Yb (keys,layers,macros,fixed,held,once,caps)) (q:=Ye (keys,layers,macros,fixed,held,once,caps)) held.length hh.1
  (λ i hi=>rfl)
  (λ i h=>by simp only[NY,AE,Ah,Aq,As,Ap] at h;omega)
  (λ i h=>by simp only[Lc,AE,Ah,Aq,As,Ap] at h;omega) (λ i=>rfl)
  (λ i hi=>by
   simp only[Yb,Ye,Aq,As,Ap]
   have k:(i:Int)<held.length->iNat (i:Int)<held.length:=λ h=>by rw[Ax];omega
   refine⟨⟨λ h=>⟨⟨by omega,h⟩,k h,λ _=>trivial,λ _=>⟨⟨by omega,h⟩,k h,λ _=>⟨⟨by omega,h⟩,k h⟩,λ _=>trivial⟩⟩,λ _=>trivial⟩,⟨λ h=>⟨⟨by omega,h⟩,k h⟩,λ _=>trivial⟩⟩)
 have ef:HY=HZ:=rfl;rw[rm,rM,r6,eO,ef];obtain⟨p1,p2,p3,_⟩:=l1;obtain⟨q1,q2,q3,_⟩:=l2;simp only[<- p3,<- q3,Zh,O2]
 have hl:(0:Int)<=lLen layers:=by rw[As];omega
 refine⟨?_,?_,?_⟩
 . simp only[a1,TX held hh.1,Pw,p1,q1,hl];simp
 . simp only[a2,TT held hh.1,p2,q2,hl];simp
 . cases hv:D7 (keys,layers) with
   |false=>simp[AZ,AF,AE]
   | true=>
     have hm:=GQ hk hv
     have e1:iShl .i64 1 (lLen layers)=((2^layers.length:Nat):Int):=by
      have h2:2^layers.length<=2^4:=Nat.pow_le_pow_right (by omega) hm.l2;rw[As];have:=RG (a:=1) (k:=layers.length) (by have:=hm.l2;omega) (by omega);rw[Gu] at this;exact this
     have h2:2^layers.length<=2^4:=Nat.pow_le_pow_right (by omega) hm.l2;generalize (2^layers.length:Nat)=M at e1 h2;have e2:iSub .i64 (M:Int) 1=(M:Int)-1:=EF (by unfold AO;omega);rw[e1,e2,FW,FW];generalize iLt (Am _ _ _) (lLen macros)=A;generalize iLt (Am _ _ _) (lLen held)=B;rw[JN];simp only[AZ,AF,AE,C0,Aq,CG,BC,Ah,B8,Bx,Ap,Bm,Gs];constructor
     . rintro⟨⟨_,h1,h3,h4,h5⟩,h6,h7,h8,h9,h10⟩;exact⟨⟨trivial,h1,h3⟩,h6,h7,⟨h8,by omega⟩,h9,by omega,by omega⟩
     . rintro⟨⟨_,h1,h3⟩,h6,h7,⟨h8,h9⟩,h10,h11,h12⟩;exact⟨⟨trivial,h1,h3,by omega,by omega⟩,h6,h7,h8,h10,by omega⟩
theorem gu(x:C9)(hs:MU x):Qh x/\Mw x=x:=by
 rw[p5,pI]
 obtain⟨a1,a2⟩:=zZ (c:=Tl x) (f:=To x) (p:=X7 x) x [] hs.1 (λ i l=>by simp[Tl,Aq,As])
  (λ i l _=>by simp[To,BA,A7,Ax]) (λ i l hi hl=>by
   simp only[X7,Aq,As,Ap];refine⟨λ h=>?_,λ _=>trivial⟩
   have e:lGet x (iNat (i:Int)) []=x.getD i []:=by rw[A7,Ax,Bl]
   have:=(hs.2 _ (DY x i [] (by omega))).1;have:=hs.1;rw[e]
   refine⟨⟨by omega,h⟩,by rw[Ax];omega,by unfold Av;omega,by unfold Av;simp only[AG,AK];omega⟩)
 exact⟨a1,by rw[a2]⟩
theorem Wa(x:Cn)(hs:FT x):Oq x/\DH x=x:=by
 obtain⟨keys,layers,macros,fixed,held,once,caps⟩:=x;have hm:MU macros:=hs.2.1;have hh:Pe held:=hs.2.2.1;obtain⟨c1,c2⟩:=zg keys layers hs.1;rw[uP,ui]
 obtain⟨a1,a2⟩:=Z2 (c:=T0 (keys,layers,macros,fixed,held,once,caps)) (f:=T6 (keys,layers,macros,fixed,held,once,caps)) (p:=YD (keys,layers,macros,fixed,held,once,caps)) macros [] hm.1 (λ i l=>by simp[T0,Aq,As])
  (λ i l _=>by simp[T6,BA,A7,Ax]) (λ i l hi hl=>by
   simp only[YD,Aq,As,Ap];refine⟨λ h=>?_,λ _=>trivial⟩
   have e:lGet macros (iNat (i:Int)) []=macros.getD i []:=by rw[A7,Ax,Bl]
   have:=(hm.2 _ (DY macros i [] (by omega))).1;have:=hm.1;rw[e]
   refine⟨⟨by omega,h⟩,by rw[Ax];omega,by unfold Av;simp only[AK];omega,by unfold Av;simp only[AG,AK];omega⟩)
 have hl:=hh.1;refine⟨⟨c1,a1,by unfold Av;simp only[AK];omega⟩,?_⟩;rw[a2];simp only[c2,BA,CP]
theorem vh(k:Int)(x:DQ)(m:C9)(hk:Gf (k,x))(hm:MU m) :
 TH ((k,x),m)/\dX ((k,x),m)/\eU ((k,x),m)=N8 ((k,x),m)/\FT (N8 ((k,x),m)).1:=by
 have hh:Pe []:=⟨by simp,by simp⟩
 have hs:FT (k,x,m,0,[],0,false):=⟨hk,hm,hh,trivial⟩
 have hz:FT (0,[],[],0,[],0,false):=⟨⟨⟨by simp,by simp⟩,trivial⟩,⟨by simp,by simp⟩,hh,trivial⟩
 obtain⟨a1,a2⟩:=gp k x hk
 obtain⟨b1,b2⟩:=gu m hm
 obtain⟨c1,c2,c3⟩:=Q6 _ hs
 obtain⟨d1,d2⟩:=Wa _ hs
 rw[qJ,dX,ed,eU]
 simp only[a2,b2,c3,d2,a1,b1,c1,c2,d1]
 refine⟨by simp,by simp,trivial,?_⟩
 rw[BB];split
 . exact hz
 . exact hs
theorem G0{α:Type}(x:List α)(d:α){i:Nat}(h:i<x.length):x.getD i d=x[i]:=by
 rw[Ef,Bd h];rfl
abbrev BL:=List Fb
theorem kK(m p:Nat)(hm:m<4611686018427387904)(hp:p<=64):Eo ((m:Int),(p:Int))=if m.testBit p then 1 else 0:=by
 rw[VB];simp only;rw[Zci m p hp];have hd:m / 2^p<=m:=Nat.div_le_self _ _;have:=mh (a:=m / 2^p) (b:=1) (by omega) (by omega);rw[show ((1:Nat):Int)=1 from rfl] at this;rw[this,Nat.and_one_is_mod,Nat.testBit_eq_decide_div_mod_eq];simp only[Ap];split<;>omega
theorem y8{x:BL}(hl:x.length<=1048576)(h:∀ a∈x,Xb a)(hd:x.Pairwise (λ a b=>a.1≠b.1)):Cp x=true:=by
 rw[Uu,AF,Bx]
 have key:=MO (c:=λ x0:Int×Int=>(bAnd (iLt x0.2 (lLen x)) (bAnd (bNot (bOr (iLt (lGet x (iNat x0.2) (0,0,0,0,0)).1 0) (bOr (iGt (lGet x (iNat x0.2) (0,0,0,0,0)).1 31) (bOr (iEq (Eo (x0.1,(lGet x (iNat x0.2) (0,0,0,0,0)).1)) 1) (bNot (Bo ((lGet x (iNat x0.2) (0,0,0,0,0)).2.1,(lGet x (iNat x0.2) (0,0,0,0,0)).2.2.1,(lGet x (iNat x0.2) (0,0,0,0,0)).2.2.2.1,(lGet x (iNat x0.2) (0,0,0,0,0)).2.2.2.2))))))) (bNot (bOr (iEq (lGet x (iNat x0.2) (0,0,0,0,0)).2.1 1) (bOr (iEq (lGet x (iNat x0.2) (0,0,0,0,0)).2.1 6) (iEq (lGet x (iNat x0.2) (0,0,0,0,0)).2.1 7)))))))
  (f:=λ x0=>((iOr .i64 x0.1 (iShl .i64 1 (lGet x (iNat x0.2) (0,0,0,0,0)).1)),(iAdd .i64 x0.2 1)))
  (λ st=>∃ i m:Nat,st=((m:Int),(i:Int))/\i<=x.length/\m<4294967296/\∀ p:Nat,m.testBit p=true->∃ j,j<i/\(x.getD j (0,0,0,0,0)).1=(p:Int)) (λ st=>x.length-st.2.toNat) (λ st hI hc=>?_) (x0:=(0,0)) ⟨0,0,rfl,Gq _,by omega,λ p hp=>by simp at hp⟩
 . obtain⟨⟨i,m,k1,k2,k3,k4⟩,k5⟩:=key;rw[k1] at k5 ⊢;rw[Aq,As,Bm];intro hlt
   have hi:i<x.length:=by simpa using hlt
   obtain⟨h1,h2,h3,h4,h5,h6⟩:=h _ (DY x i (0,0,0,0,0) hi)
   have hb:Eo ((m:Int),(x.getD i (0,0,0,0,0)).1)≠1:=by
    obtain⟨p,hp⟩:=Int.eq_ofNat_of_zero_le h1;rw[hp,kK m p (by omega) (by omega)];split
    . next hb=>
      obtain⟨j,hj,e⟩:=k4 p hb;have:=List.pairwise_iff_getElem.1 hd j i (by omega) hi hj;rw[<- G0 x (0,0,0,0,0) hi,<- G0 x (0,0,0,0,0) (by omega:j<x.length),e,hp] at this;exact absurd rfl this
    . decide
   have h3':Bo ((x.getD i (0,0,0,0,0)).2.1,(x.getD i (0,0,0,0,0)).2.2.1,(x.getD i (0,0,0,0,0)).2.2.2.1,(x.getD i (0,0,0,0,0)).2.2.2.2)=true:=h3;simp only[AE,AF,AZ,Aq,C0,BC,As,A7,Ax,Bl,h3',hb,h4,h5,h6] at k5;simp[-List.getD_eq_getElem?_getD] at k5;omega
 . obtain⟨i,m,rfl,k2,k3,k4⟩:=hI;simp only[AE,Aq,As,Ah,Ap] at hc
   have hi:i<x.length:=by omega
   obtain⟨h1,h2,_⟩:=h _ (DY x i (0,0,0,0,0) hi);obtain⟨p,hp⟩:=Int.eq_ofNat_of_zero_le h1
   have hpl:p<32:=by omega
   have h2p:2^p<=2^31:=Nat.pow_le_pow_right (by omega) (by omega)
   have h31:(2:Nat)^31=2147483648:=by decide
   simp only[A7,Ax,Bl,hp];have e1:=RG (a:=1) (k:=p) (by omega) (by omega);rw[show ((1:Nat):Int)=1 from rfl,Gu] at e1;rw[e1,Si (a:=m) (b:=2^p) (by omega) (by omega)];refine⟨⟨i+1,m ||| 2^p,by rw[Bu (by unfold AO;omega)];simp,by omega,?_,λ q hq=>?_⟩,by rw[Bu (by unfold AO;omega)];omega⟩
   . have:=Nat.or_lt_two_pow (x:=m) (y:=2^p) (n:=32) (by omega) (by omega);simpa using this
   . rw[Nat.testBit_or,Cm] at hq;rcases hq with hq|hq
     . obtain⟨j,hj,e⟩:=k4 q hq;exact⟨j,by omega,e⟩
     . rw[Nat.testBit_two_pow] at hq
       have:p=q:=by simpa using hq
       exact⟨i,by omega,by rw[hp,this]⟩
theorem zA{x:BL}(hl:x.length<=1048576)(h:Cp x=true):x.Pairwise (λ a b=>a.1≠b.1):=by
 have hall:=Rk hl h;rw[Uu,AF,Bx] at h
 have key:=MO (c:=λ x0:Int×Int=>(bAnd (iLt x0.2 (lLen x)) (bAnd (bNot (bOr (iLt (lGet x (iNat x0.2) (0,0,0,0,0)).1 0) (bOr (iGt (lGet x (iNat x0.2) (0,0,0,0,0)).1 31) (bOr (iEq (Eo (x0.1,(lGet x (iNat x0.2) (0,0,0,0,0)).1)) 1) (bNot (Bo ((lGet x (iNat x0.2) (0,0,0,0,0)).2.1,(lGet x (iNat x0.2) (0,0,0,0,0)).2.2.1,(lGet x (iNat x0.2) (0,0,0,0,0)).2.2.2.1,(lGet x (iNat x0.2) (0,0,0,0,0)).2.2.2.2))))))) (bNot (bOr (iEq (lGet x (iNat x0.2) (0,0,0,0,0)).2.1 1) (bOr (iEq (lGet x (iNat x0.2) (0,0,0,0,0)).2.1 6) (iEq (lGet x (iNat x0.2) (0,0,0,0,0)).2.1 7)))))))
  (f:=λ x0=>((iOr .i64 x0.1 (iShl .i64 1 (lGet x (iNat x0.2) (0,0,0,0,0)).1)),(iAdd .i64 x0.2 1)))
  (λ st=>∃ i m:Nat,st=((m:Int),(i:Int))/\i<=x.length/\m<4294967296/\(∀ j,j<i->∀ p:Nat,(x.getD j (0,0,0,0,0)).1=(p:Int)->m.testBit p=true)/\∀ j k,j<k->k<i->(x.getD j (0,0,0,0,0)).1≠(x.getD k (0,0,0,0,0)).1) (λ st=>x.length-st.2.toNat) (λ st hI hc=>?_) (x0:=(0,0)) ⟨0,0,rfl,Gq _,by omega,λ j hj=>absurd hj (by omega),λ j k _ hk=>absurd hk (by omega)⟩
 . obtain⟨⟨i,m,k1,k2,k3,k4,k5⟩,_⟩:=key;rw[k1,Aq,As,Bm] at h;simp only at h
   have hi:i=x.length:=by omega
   subst hi;rw[List.pairwise_iff_getElem];intro j k hj hk hjk;have:=k5 j k hjk hk;rwa [G0 x _ hj,G0 x _ hk] at this
 . obtain⟨i,m,rfl,k2,k3,k4,k5⟩:=hI;simp only[AE,Aq (i:Int),As,Ah,Ap] at hc;obtain⟨c1,c2,_⟩:=hc
   have hi:i<x.length:=by omega
   obtain⟨h1,h2,_⟩:=hall _ (DY x i (0,0,0,0,0) hi);obtain⟨p,hp⟩:=Int.eq_ofNat_of_zero_le h1
   have hpl:p<32:=by omega
   have h2p:2^p<=2^31:=Nat.pow_le_pow_right (by omega) (by omega)
   have h31:(2:Nat)^31=2147483648:=by decide
   simp only[A7,Ax,Bl,hp,AF,AZ,Bx,B8,BC,Bm] at c2
   have hb:m.testBit p=false:=by
    have:=c2.2.2.1;rw[kK m p (by omega) (by omega)] at this
    cases hb:m.testBit p with
    |false=>rfl
    |true=>rw[hb] at this;exact absurd rfl this
   simp only[A7,Ax,Bl,hp];have e1:=RG (a:=1) (k:=p) (by omega) (by omega);rw[show ((1:Nat):Int)=1 from rfl,Gu] at e1;rw[e1,Si (a:=m) (b:=2^p) (by omega) (by omega)];refine⟨⟨i+1,m ||| 2^p,by rw[Bu (by unfold AO;omega)];simp,by omega,?_,λ j hj q hq=>?_,λ j k hjk hk=>?_⟩,by rw[Bu (by unfold AO;omega)];omega⟩
   . have:=Nat.or_lt_two_pow (x:=m) (y:=2^p) (n:=32) (by omega) (by omega);simpa using this
   . rw[Nat.testBit_or,Cm];rcases BI j i with h|h
     . exact .inl (k4 j h q hq)
     . have:j=i:=by omega
       subst this;rw[hp] at hq
       have:p=q:=by omega
       right;rw[this,Nat.testBit_two_pow_self]
   . rcases BI k i with h|h
     . exact k5 j k hjk h
     . have:k=i:=by omega
       subst this;intro e;have:=k4 j hjk p (by rw[e];exact hp);rw[hb] at this;cases this
theorem OY{x:BL}(hl:x.length<=1048576):Cp x=true↔(∀ a∈x,Xb a)/\x.Pairwise (λ a b=>a.1≠b.1):=
 ⟨λ h=>⟨Rk hl h,zA hl h⟩,λ h=>y8 hl h.1 h.2⟩
theorem Z4{x:BL}(hl:x.length<=1048576)(h:Cp x=true):x.length<=32:=by
 obtain⟨h1,h2⟩:=(OY hl).1 h
 have hn:(x.map λ a=>a.1.toNat).Nodup:=by
  rw[List.nodup_iff_pairwise_ne,List.pairwise_map]
  refine h2.imp_of_mem λ {a b} ha hb hab e=>hab ?_
  have:=(h1 a ha).1;have:=(h1 b hb).1
  omega
 have hs:(x.map λ a=>a.1.toNat) ⊆ List.range 32:=λ q hq=>by
  obtain⟨a,ha,rfl⟩:=List.mem_map.1 hq
  have:=(h1 a ha).1;have:=(h1 a ha).2.1
  rw[List.mem_range];omega
 have:=hn.length_le_of_subset hs;simpa using this
section
set_option maxRecDepth 20000
theorem lk{c:Int->Bool}{f:Int->Int}(n:Nat)(t:Nat->Bool)(hn:(n:Int)<=9223372036854775806)(hc:∀ i:Nat,i<=n->c i=(decide (i<n)&&!t i))(hf:∀ i:Nat,i<n->f i=iAdd .i64 i 1):iLt (Am c f 0) (n:Int)=false↔∀ i,i<n->t i=false:=by
 rw[R9 n t hn hc hf,Aq,Bm,<- OP];have:=Jr t n 0;omega
structure EngOk (x:Cn):Prop where
 map:D7 (x.1,x.2.1)=true
 mac:x.2.2.1.length<=4
 macs:∀ m∈x.2.2.1,Ij m=true
 held:Cp x.2.2.2.2.1=true
 hk:∀ a∈x.2.2.2.2.1,a.1<x.1/\(a.2.1≠9->a.2.2.2.2<x.2.1.length)
 on0:0<=x.2.2.2.2.2.1
 on1:x.2.2.2.2.2.1<=15
 f0:0<=x.2.2.2.1
 f2:x.2.2.2.1 % 2=0
 f1:x.2.2.2.1<((2^x.2.1.length:Nat):Int)
theorem lW(n:Nat)(h:n<=40):iShl .i64 1 (n:Int)=((2^n:Nat):Int):=by
 have hp:2^n<=2^40:=Nat.pow_le_pow_right (by omega) h;have e:=RG (a:=1) (k:=n) (by omega) (by rw[Gu];exact Nat.lt_of_le_of_lt hp (by decide));rwa [Gu] at e
theorem Vw(x:Cn)(hs:FT x):D6 x=true↔EngOk x:=by
 obtain⟨k,l,mc,fx,hd,on,cp⟩:=x;have hmc:mc.length<=1048576:=hs.2.1.1;have hhd:hd.length<=1048576:=hs.2.2.1.1
 have s1:=lk (c:=J2 (k,l,mc,fx,hd,on,cp)) (f:=HY) mc.length (λ i=>!Ij (mc.getD i [])) (by omega)
  (λ i hi=>by simp only[J2,AE,Aq,As,AF,A7,Ax,Bl,G2]) (λ i hi=>rfl)
 have s2:=lk (c:=Lc (k,l,mc,fx,hd,on,cp)) (f:=HY) hd.length (λ i=>decide (k<=(hd.getD i (0,0,0,0,0)).1)||(!decide ((hd.getD i (0,0,0,0,0)).2.1=9)&&decide ((l.length:Int)<=(hd.getD i (0,0,0,0,0)).2.2.2.2))) (by omega)
  (λ i hi=>by simp only[Lc,AE,AZ,Aq,CG,C8,As,AF,A7,Ax,Bl,G2]) (λ i hi=>rfl)
 have m1:(∀ i,i<mc.length->(!Ij (mc.getD i []))=false)↔∀ m∈mc,Ij m=true:=by
  constructor
  . intro h m hm;obtain⟨i,hi,rfl⟩:=IM hm;have:=h i hi;rw[G0 mc [] hi] at this;simpa using this
  . intro h i hi;have:=h _ (DY mc i [] hi);simpa using this
 have m2:(∀ i,i<hd.length->(decide (k<=(hd.getD i (0,0,0,0,0)).1)||(!decide ((hd.getD i (0,0,0,0,0)).2.1=9)&&decide ((l.length:Int)<=(hd.getD i (0,0,0,0,0)).2.2.2.2)))=false)↔∀ a∈hd,a.1<k/\(a.2.1≠9->a.2.2.2.2<l.length):=by
  have one:∀ a:Int×Int×Int×Int×Int,(decide (k<=a.1)||(!decide (a.2.1=9)&&decide ((l.length:Int)<=a.2.2.2.2)))=false↔a.1<k/\(a.2.1≠9->a.2.2.2.2<l.length):=by
   intro a;simp only[B8,F2,CI,Ap,Bm];constructor
   . rintro⟨h1,h2⟩;exact⟨by omega,λ h9=>by rcases h2 with h|h;exact absurd h h9;omega⟩
   . rintro⟨h1,h2⟩;refine⟨by omega,?_⟩;by_cases h9:a.2.1=9
     . exact .inl h9
     . exact .inr (by have:=h2 h9;omega)
  constructor
  . intro h a ha;obtain⟨i,hi,rfl⟩:=IM ha;have:=h i hi;rw[G0 hd _ hi] at this;exact(one _).1 this
  . intro h i hi;exact(one _).2 (h _ (DY hd i _ hi))
 rw[eO];simp only;rw[As mc,As hd,As l];simp only[AE,AF,AZ,Ah,Bx,B8,CI,s1.trans m1,s2.trans m2];constructor
 . rintro⟨⟨a1,a2,a3,a4,a5⟩,b1,b2,b3,b4,b5⟩;have hl:l.length<=4:=(GQ hs.1 a1).l2;rw[lW _ (by omega),Aq,Ap] at b5;rw[CG,Ap] at b3;rw[BC,Ap,WD b3] at b4;rw[C0,Bm] at a2 a5;rw[Aq,Bm] at a4;exact⟨a1,by simp only;omega,b1,a3,b2,by simp only;omega,by simp only;omega,b3,b4,b5⟩
 . rintro⟨a1,a2,a3,a4,a5,a6,a7,a8,a9,a10⟩;simp only at a1 a2 a3 a4 a5 a6 a7 a8 a9 a10;have hl:l.length<=4:=(GQ hs.1 a1).l2;refine⟨⟨a1,by rw[C0,Bm];omega,a4,by rw[Aq,Bm];omega,by rw[C0,Bm];omega⟩,a3,a5,by rw[CG,Ap];exact a8,by rw[BC,Ap,WD a8];exact a9,by rw[lW _ (by omega),Aq,Ap];exact a10⟩
end
def B3(c:Cz):Prop:=0<=c.2.1/\c.2.1<=c.1.length/\c.1.length<=1048576
theorem W6(x:Int):0<=iAnd .i64 x 255/\iAnd .i64 x 255<=255:=by
 rw[bQ]
 have h:(BitVec.ofInt IntKind.i64.bits x &&& BitVec.ofInt IntKind.i64.bits 255).toNat<=255:=by
  rw[BitVec.toNat_and];exact Nat.and_le_right
 have:IntKind.i64.wrap ((BitVec.ofInt IntKind.i64.bits x &&& BitVec.ofInt IntKind.i64.bits 255).toNat:Int)=((BitVec.ofInt IntKind.i64.bits x &&& BitVec.ofInt IntKind.i64.bits 255).toNat:Int):=KK (by unfold AO;omega);rw[this];omega
theorem WE(c:Cz)(h:B3 c):Im c/\0<=(BV c).1/\(BV c).1<=255/\B3 (c.1,(BV c).2):=by
 obtain⟨h1,h2,h3⟩:=h;rw[fS,gg];simp only[BB,Aq,As,Ax,Ap,Bm];refine⟨⟨by omega,by omega,λ _=>by omega,λ _=>trivial⟩,?_,?_,?_⟩
 . split
   . exact(W6 _).1
   . exact(W6 _).1
 . split
   . exact(W6 _).2
   . exact(W6 _).2
 . unfold B3;simp only;split
   . rw[Bu (by unfold AO;omega)];omega
   . omega
theorem Fu(c:Cz)(n:Int)(h:B3 c):DW (c,n)/\B3 (c.1,(Ar (c,n)).2)/\(n<=0->(Ar (c,n)).1=0)/\(0<n->0<=(Ar (c,n)).1/\(Ar (c,n)).1<n):=by
 rw[e6,fq];obtain⟨a1,a2,a3,a4⟩:=WE c h;obtain⟨b1,b2,b3,b4⟩:=WE _ a4;obtain⟨c1,c2,c3,c4⟩:=WE _ b4;obtain⟨d1,d2,d3,d4⟩:=WE _ c4;simp only at b1 b2 b3 b4 c1 c2 c3 c4 d1 d2 d3 d4 ⊢;simp only[BB,Ee,Ap,Bm];by_cases hn:n<=0
 . simp only[Ac hn];exact⟨⟨λ _=>trivial,λ h=>absurd hn h⟩,h,λ _=>trivial,λ h=>by omega⟩
 . simp only[Ae hn];by_cases hm:n<=256
   . simp only[Ac hm];refine⟨⟨λ h=>absurd h hn,λ _=>⟨λ _=>⟨a1,by omega⟩,λ h=>absurd hm h⟩⟩,a4,λ h=>absurd h hn,λ _=>?_⟩;rw[WD a2];exact⟨Int.emod_nonneg _ (by omega),Int.emod_lt_of_pos _ (by omega)⟩
   . simp only[Ae hm];refine⟨⟨λ h=>absurd h hn,λ _=>⟨λ h=>absurd h hm,λ _=>⟨a1,b1,c1,d1,by omega⟩⟩⟩,d4,λ h=>absurd h hn,λ _=>?_⟩;generalize (BV c).1=p at a2 a3;generalize (BV (c.1,(BV c).2)).1=q at b2 b3;generalize (BV (c.1,(BV (c.1,(BV c).2)).2)).1=r at c2 c3;generalize (BV (c.1,(BV (c.1,(BV (c.1,(BV c).2)).2)).2)).1=s at d2 d3;rw[ax (a:=p) (by unfold AO;omega),ax (a:=q) (by unfold AO;omega),ax (a:=r) (by unfold AO;omega),Bu (a:=p*16777216) (by unfold AO;omega),Bu (a:=p*16777216+q*65536) (by unfold AO;omega),Bu (a:=p*16777216+q*65536+r*256) (by unfold AO;omega),WD (by omega)];exact⟨Int.emod_nonneg _ (by omega),Int.emod_lt_of_pos _ (by omega)⟩
theorem WU(c:Cz)(n:Int)(h:B3 c):Ku (c,n)/\B3 (c.1,(Cq (c,n)).2):=by
 obtain⟨a1,a2,_⟩:=Fu c n h;rw[fU,fG];exact⟨a1,a2⟩
theorem ZbA(c:Cz)(l:Bg)(hl:0<l.length)(h:B3 c):N0 (c,l)/\B3 (c.1,(Dh (c,l)).2)/\(Dh (c,l)).1∈l:=by
 obtain⟨a1,a2,_,a4⟩:=Fu c (lLen l) h;rw[qL,qk];have a4:=a4 (by rw[As];omega);simp only;generalize (Ar (c,lLen l)).1=i at a4 ⊢;rw[As] at a4;refine⟨⟨a1,a4,by rw[Ax];omega⟩,a2,?_⟩;rw[A7,Ax];exact DY l _ _ (by omega)
theorem Zcx(x:Bg)(h:x.length<=1048576):OB x/\B3 (KD x)/\(KD x).1=x:=by
 rw[vL,vi];refine⟨?_,⟨by simp,by simp,h⟩,rfl⟩;refine IH (λ st=>st.2) x.length (by omega) (λ st _ _ hc=>?_) (λ _=>rfl) (λ st h0 h1=>?_) (by simp) (by simp)
 . unfold YH at hc;simp only[AE,Aq,As,Ah,Ap] at hc;exact hc.1
 . unfold fp;refine⟨λ hc=>?_,λ _=>trivial⟩;simp only[AE,Aq,As,Ah,Ap] at hc;rw[Ax];omega
theorem ZcI(x:Bg):OW x=decide (1048576<x.length)/\Vz x:=by
 rw[xE,xJ];refine⟨?_,trivial⟩;rw[C0,As];congr 1;exact propext (by omega)
def P1(a:CE):Prop:=Bo a=true/\a.1≠1
theorem Dl(k c m n:Int):Bo (k,c,m,n)=true ↔
 ((k=0\/k=1\/k=10)/\c=0/\m=0/\n=0)\/(k=2/\n=0/\0<=c/\c<=56/\0<=m/\m<=15/\(c≠0\/m≠0))\/((k=3\/k=4)/\c=0/\m=0/\1<=n/\n<=3)\/((k=5\/k=9)/\c=0/\m=0/\0<=n/\n<=3) \/
 (k=6/\1<=c/\c<=56/\1<=m/\m<=15/\n=0)\/(k=7/\1<=c/\c<=56/\m=0/\1<=n/\n<=3)\/(k=8/\c=0/\1<=m/\m<=15/\n=0):=by
 rw[QA]
 simp only[BB,AZ,AE,BC,C8,Ur,UF,YJ,CG,Ee]
 repeat' split
 all_goals simp only[Ah,Cm,Bx,CI,F2,B8,Ap,Bm,Gv,IV,AY,JA,Hw,Gv,decide_not] at *
 all_goals omega
theorem Zb8(c:Cz)(n:Int)(h:B3 c)(n1:1<=n)(n4:n<=4):Ot (c,n)/\B3 (c.1,(Ck (c,n)).2)/\P1 (Ck (c,n)).1/\((Ck (c,n)).1.1≠9->(Ck (c,n)).1.2.2.2<n):=by
 rw[uj,uS]
 obtain⟨m,em,m1,m3,mn⟩:∃ m,iMax 1 (iSub .i64 n 1)=m/\1<=m/\m<=3/\(1<n->m=n-1):=by
  refine⟨_,rfl,?_⟩;rw[EF (by unfold AO;omega),bX];split<;>omega
 have em':iMax 1 n=n:=by rw[bX];split<;>omega
 obtain⟨a1,a2,_,a4⟩:=Fu c 56 h;have a4:=a4 (by omega);obtain⟨b1,b2,_,b4⟩:=Fu _ 15 a2;have b4:=b4 (by omega);change B3 (c.1,(Hl (c,n)).2) at b2;change 0<=(Hl (c,n)).1/\(Hl (c,n)).1<15 at b4;obtain⟨c1,c2⟩:=WU _ 2 b2;change B3 (c.1,(CB (c,n)).2) at c2
 have hc2:B3 (c.1,(bSel (CB (c,n)).1 (CB (c,n)).2.1 (CB (c,n)).2.1),(bSel (CB (c,n)).1 (CB (c,n)).2.2 (CB (c,n)).2.2)):=by
  simp only[BB,ite_self];exact c2
 obtain⟨d1,d2,_,d4⟩:=Fu _ (iMax 1 (iSub .i64 n 1)) hc2;change B3 (c.1,(Ei (c,n)).2) at d2
 have d4:0<=(Ei (c,n)).1/\(Ei (c,n)).1<m:=by
  have:=d4 (by rw[em];omega);rw[em] at this
  have e:Ei (c,n)=Ar ((c.1,(bSel (CB (c,n)).1 (CB (c,n)).2.1 (CB (c,n)).2.1),(bSel (CB (c,n)).1 (CB (c,n)).2.2 (CB (c,n)).2.2)),m):=by unfold Ei;rw[em]
  rw[e];exact this
 obtain⟨e1,e2,_,e4⟩:=Fu _ 16 d2;have e4:=e4 (by omega);change B3 (c.1,(AR (c,n)).2) at e2;change 0<=(AR (c,n)).1/\(AR (c,n)).1<16 at e4;obtain⟨f1,f2,_,f4⟩:=Fu _ 4 e2;have f4:=f4 (by omega);change B3 (c.1,(N6 (c,n)).2) at f2;change 0<=(N6 (c,n)).1/\(N6 (c,n)).1<4 at f4;obtain⟨g1,g2,_,g4⟩:=Fu _ 3 e2;have g4:=g4 (by omega);change B3 (c.1,(Kg (c,n)).2) at g2;change 0<=(Kg (c,n)).1/\(Kg (c,n)).1<3 at g4;obtain⟨i1,i2,_,i4⟩:=Fu _ (iMax 1 n) e2;have i4:=i4 (by rw[em'];omega);change B3 (c.1,(Oa (c,n)).2) at i2;change 0<=(Oa (c,n)).1/\(Oa (c,n)).1<iMax 1 n at i4;rw[em'] at i4
 have hM:1<=bSel (CB (c,n)).1 2 (iAdd .i64 1 (Hl (c,n)).1)/\bSel (CB (c,n)).1 2 (iAdd .i64 1 (Hl (c,n)).1)<=15:=by
  rw[BB,Bu (by unfold AO;omega)];split<;>omega
 have hC:1<=iAdd .i64 1 (Ar (c,56)).1/\iAdd .i64 1 (Ar (c,56)).1<=56:=by rw[Bu (by unfold AO;omega)];omega
 have hN:1<=iAdd .i64 1 (Ei (c,n)).1/\iAdd .i64 1 (Ei (c,n)).1<=m:=by rw[Bu (by unfold AO;omega)];omega
 refine⟨?_,?_⟩
 . refine⟨a1,b1,c1,d1,e1,λ _=>trivial,λ _=>⟨λ _=>trivial,λ _=>⟨λ _=>trivial,λ _=>⟨λ _=>trivial,λ _=>⟨λ _=>f1,λ _=>⟨λ _=>trivial,λ _=>⟨λ _=>i1,λ _=>⟨λ _=>⟨λ _=>⟨g1,?_,?_⟩,λ _=>trivial⟩,λ _=>trivial⟩⟩⟩⟩⟩⟩⟩⟩
   . simp only[AG,AK];omega
   . simp only[AG,AK,Ax];omega
 generalize bSel (CB (c,n)).1 2 (iAdd .i64 1 (Hl (c,n)).1)=M at hM ⊢;generalize iAdd .i64 1 (Ar (c,56)).1=C at hC ⊢;generalize iAdd .i64 1 (Ei (c,n)).1=N at hN ⊢;generalize Oa (c,n)=s7 at i2 i4 ⊢;generalize Kg (c,n)=s6 at g2 g4 ⊢;generalize N6 (c,n)=s5 at f2 f4 ⊢;generalize AR (c,n)=s4 at e2 e4 ⊢
 have hL:1<n->P1 (lGet [(3,0,0,N),(4,0,0,N),(7,C,0,N)] (iNat s6.1) (0,0,0,0))/\(lGet [(3,0,0,N),(4,0,0,N),(7,C,0,N)] (iNat s6.1) (0,0,0,0):Int×Int×Int×Int).2.2.2<n:=by
  intro hn;have:=mn hn;rw[A7,Ax]
  have:s6.1=0\/s6.1=1\/s6.1=2:=by omega
  rcases this with e|e|e
  . rw[e];exact⟨⟨(Dl 3 0 0 N).2 (by omega),by simp⟩,by show N<n;omega⟩
  . rw[e];exact⟨⟨(Dl 4 0 0 N).2 (by omega),by simp⟩,by show N<n;omega⟩
  . rw[e];exact⟨⟨(Dl 7 C 0 N).2 (by omega),by simp⟩,by show N<n;omega⟩
 generalize lGet [(3,0,0,N),(4,0,0,N),(7,C,0,N)] (iNat s6.1) (0,0,0,0)=L at hL ⊢
 have g:∀ (b:Bool) (p q:CE×A5),(B3 (c.1,p.2)/\P1 p.1/\(p.1.1≠9->p.1.2.2.2<n))->(b=false->B3 (c.1,q.2)/\P1 q.1/\(q.1.1≠9->q.1.2.2.2<n))->B3 (c.1,(bSel b p q).2)/\P1 (bSel b p q).1/\((bSel b p q).1.1≠9->(bSel b p q).1.2.2.2<n):=λ b p q hp hq=>by
  rw[BB];cases b
  . exact hq rfl
  . exact hp
 have hA:∀ (k c m z:Int),Bo (k,c,m,z)=true->k≠1->(k≠9->z<n)->P1 (k,c,m,z)/\(k≠9->z<n):=λ k c m z h1 h2 h3=>⟨⟨h1,h2⟩,h3⟩
 refine g _ _ _ ⟨?_,hA _ _ _ _ ((Dl _ _ _ _).2 (by omega)) (by omega) (by omega)⟩ λ q0=>g _ _ _ ⟨e2,hA _ _ _ _ ((Dl _ _ _ _).2 (by omega)) (by omega) (by omega)⟩ λ q1=>g _ _ _ ⟨e2,hA _ _ _ _ ((Dl _ _ _ _).2 (by omega)) (by omega) (by omega)⟩ λ q2=>g _ _ _ ⟨e2,hA _ _ _ _ ((Dl _ _ _ _).2 (by omega)) (by omega) (by omega)⟩ λ q3=>g _ _ _ ⟨e2,hA _ _ _ _ ((Dl _ _ _ _).2 (by omega)) (by omega) (by omega)⟩ λ q4=>g _ _ _ ⟨f2,hA _ _ _ _ ((Dl _ _ _ _).2 (by omega)) (by omega) (λ h=>absurd rfl h)⟩ λ q5=>g _ _ _ ⟨e2,hA _ _ _ _ ((Dl _ _ _ _).2 (by omega)) (by omega) (by omega)⟩ λ q6=>g _ _ _ ⟨i2,hA _ _ _ _ ((Dl _ _ _ _).2 (by omega)) (by omega) (by omega)⟩ λ q7=>?_
 . simp only[BB,ite_self];exact e2
 . have hn:1<n:=by
    simp only[AE,AF,q1,q2,q3,q4,q5,q6,q7,Bool.not_false,Nl,AZ,C0,B8,CI,Ap] at q0;exact q0.2
   exact⟨g2,(hL hn).1,λ _=>(hL hn).2⟩
section
set_option maxRecDepth 20000
abbrev ET:=Int×Int×Int×Int
abbrev dE:=Int×DQ×C9×Int×Bt×Int×Bool
theorem Zcq{a b:Nat}(ha:a<4611686018427387904)(hb:b<4611686018427387904):iXor .i64 (a:Int) (b:Int)=((a ^^^ b:Nat):Int):=by
 have e:(BitVec.ofInt 64 (a:Int) ^^^ BitVec.ofInt 64 (b:Int)).toNat=a ^^^ b:=by
  rw[BitVec.ofInt_natCast,BitVec.ofInt_natCast,BitVec.toNat_xor,BitVec.toNat_ofNat,BitVec.toNat_ofNat,Nat.mod_eq_of_lt (by omega),Nat.mod_eq_of_lt (by omega)]
 have h:a ^^^ b<2^62:=Nat.xor_lt_two_pow (by omega) (by omega);rw[nu];show IntKind.i64.wrap ((BitVec.ofInt 64 (a:Int) ^^^ BitVec.ofInt 64 (b:Int)).toNat:Int)=_;rw[e];exact KK (by unfold AO;omega)
def Eh(a b:Nat):Nat:=a &&& (15-b)
theorem yt:∀ a b:Fin 16,(BitVec.ofInt 64 (a.val:Int) &&& ~~~BitVec.ofInt 64 (b.val:Int)).toNat=Eh a.val b.val:=by decide +kernel
theorem mK(a b:Nat):Eh a b<=a:=Nat.and_le_left
theorem ZC{a b:Nat}(ha:a<16)(hb:b<16):iAndNot .i64 (a:Int) (b:Int)=((Eh a b:Nat):Int):=by
 have e:(BitVec.ofInt 64 (a:Int) &&& ~~~BitVec.ofInt 64 (b:Int)).toNat=Eh a b:=yt ⟨a,ha⟩ ⟨b,hb⟩;have h:=mK a b;rw[jV];show IntKind.i64.wrap ((BitVec.ofInt 64 (a:Int) &&& ~~~BitVec.ofInt 64 (b:Int)).toNat:Int)=_;rw[e];exact KK (by unfold AO;omega)
theorem z8{n:Nat}(h:n<=40):iShl .i64 1 (n:Int)=((2^n:Nat):Int):=by
 have hp:2^n<=2^40:=Nat.pow_le_pow_right (by omega) h;have e:=RG (a:=1) (k:=n) (by omega) (by rw[Gu];exact Nat.lt_of_le_of_lt hp (by decide));rwa [Gu] at e
theorem iA(c:Int):Jf c=Ez c:=by
 rw[pX,dN,FW];simp only[BB,AZ,BC,CG,Ee];by_cases h:1<=c
 . simp[h]
 . simp[h]
def Pp(w:Bool)(c:Int)(m on:Nat)(cp:Bool):Nat:=if (cp=true/\w=true)/\c<=26/\Eh (m ||| on) 2=0 then 2 else m ||| on
def CK(w:Bool)(x:dE)(a:ET):ET×dE:=
 if a.1=2 then
  if 0<a.2.1 then ((a.1,a.2.1,((Pp w a.2.1 a.2.2.1.toNat x.2.2.2.2.2.1.toNat x.2.2.2.2.2.2:Nat):Int),a.2.2.2),x.1,x.2.1,x.2.2.1,x.2.2.2.1,x.2.2.2.2.1,0,(x.2.2.2.2.2.2&&w))
  else (a,x)
 else if a.1=4 then (a,x.1,x.2.1,x.2.2.1,((x.2.2.2.1.toNat ^^^ 2^a.2.2.2.toNat:Nat):Int),x.2.2.2.2)
 else if a.1=5 then (a,x.1,x.2.1,x.2.2.1,((Eh (2^a.2.2.2.toNat) 1:Nat):Int),x.2.2.2.2)
 else if a.1=8 then (a,x.1,x.2.1,x.2.2.1,x.2.2.2.1,x.2.2.2.2.1,((if x.2.2.2.2.2.1.toNat &&& a.2.2.1.toNat=a.2.2.1.toNat then Eh x.2.2.2.2.2.1.toNat a.2.2.1.toNat else x.2.2.2.2.2.1.toNat ||| a.2.2.1.toNat:Nat):Int),x.2.2.2.2.2.2)
 else if a.1=10 then (a,x.1,x.2.1,x.2.2.1,x.2.2.2.1,x.2.2.2.2.1,x.2.2.2.2.2.1,!x.2.2.2.2.2.2)
 else (a,x)
theorem yW(x:dE)(a:ET)(ha:Bo a=true)(f0:0<=x.2.2.2.1)(f1:x.2.2.2.1<=15)(o0:0<=x.2.2.2.2.2.1)(o1:x.2.2.2.2.2.1<=15) :
 N3 (x,a,a)/\Ow (x,a,a)/\Od (x,a,a)=CK (Ez a.2.1) x a/\OH (x,a,a)=CK (Ez a.2.1) x a:=by
 obtain⟨k,L,mc,f,hd,on,cp⟩:=x
 obtain⟨kd,c,m,n⟩:=a
 have h:=(Dl kd c m n).1 ha
 simp only at f0 f1 o0 o1
 obtain⟨F,rfl⟩:=Int.eq_ofNat_of_zero_le f0
 obtain⟨O,rfl⟩:=Int.eq_ofNat_of_zero_le o0
 obtain⟨M,rfl⟩:=Int.eq_ofNat_of_zero_le (show 0<=m by omega)
 obtain⟨P,rfl⟩:=Int.eq_ofNat_of_zero_le (show 0<=n by omega)
 have hM:M<16:=by omega
 have hO:O<16:=by omega
 have hP:P<=3:=by omega
 have hor:M ||| O<2^4:=Nat.or_lt_two_pow (by omega) (by omega)
 have h24:(2:Nat)^4=16:=by decide
 have e2:((2:Nat):Int)=2:=rfl
 have h2P:2^P<=2^3:=Nat.pow_le_pow_right (by omega) hP
 have h23:(2:Nat)^3=8:=by decide
 have x1:iOr .i64 (M:Int) (O:Int)=((M ||| O:Nat):Int):=Si (by omega) (by omega)
 have x2:iAndNot .i64 ((M ||| O:Nat):Int) 2=((Eh (M ||| O) 2:Nat):Int):=ZC (b:=2) (by omega) (by omega)
 have x3:iShl .i64 1 (P:Int)=((2^P:Nat):Int):=z8 (by omega)
 have x4:iXor .i64 (F:Int) ((2^P:Nat):Int)=((F ^^^ 2^P:Nat):Int):=Zcq (by omega) (by omega)
 have x5:iAndNot .i64 ((2^P:Nat):Int) 1=((Eh (2^P) 1:Nat):Int):=ZC (b:=1) (by omega) (by omega)
 have x6:iAnd .i64 (O:Int) (M:Int)=((O &&& M:Nat):Int):=mh (by omega) (by omega)
 have x7:iAndNot .i64 (O:Int) (M:Int)=((Eh O M:Nat):Int):=ZC hO hM
 have x8:iOr .i64 (O:Int) (M:Int)=((O ||| M:Nat):Int):=Si (by omega) (by omega)
 have z0:((Eh (M ||| O) 2:Nat):Int)=0↔Eh (M ||| O) 2=0:=by omega
 have z1:((O &&& M:Nat):Int)=(M:Int)↔O &&& M=M:=by omega
 refine⟨?_,?_,?_,?_⟩
 . rw[rf]
   simp only[vA,qa];exact⟨λ _=>⟨λ _=>by rw[OL];trivial,λ _=>trivial⟩,λ _=>⟨λ _=>by omega,λ _=>⟨λ _=>by omega,λ _=>trivial⟩⟩⟩
 . rw[tP]
   simp only[dQ];exact⟨λ _=>⟨λ _=>trivial,λ _=>⟨λ _=>trivial,λ _=>trivial⟩⟩,λ _=>⟨λ _=>by omega,λ _=>⟨λ _=>by omega,λ _=>trivial⟩⟩⟩
 . rw[rr,vj]
   unfold CK Pp;simp only[x1,x2,x3,x4,x5,x6,x7,x8,Bl];generalize Ez c=w;simp only[BB,AZ,AF,AE,BC,C0,Ee,z0,z1];by_cases k2:kd=2
   . by_cases hc:0<c
     . simp only[k2,hc,decide_true,Gs,Bool.or_false,AJ,AP,AM,Sb];by_cases hw:(cp=true/\w=true)/\c<=26/\Eh (M ||| O) 2=0
       . rw[Ac hw,Ac (by obtain⟨⟨a1,a2⟩,a3,a4⟩:=hw;simp[a1,a2,a3,a4])];obtain⟨⟨a1,a2⟩,a3,a4⟩:=hw;simp[a1,a2]
       . rw[Ae hw,Ae (by intro hh;apply hw;simp at hh;exact⟨⟨hh.1.2,hh.1.1⟩,hh.2⟩)];rw[Bool.and_comm]
     . simp only[k2,hc,decide_true,Gs,decide_false,Bool.not_false,Bool.or_true,AM,AP]
   . simp only[k2,decide_false,Bool.not_false,Bool.true_or,AM,AP,AJ];by_cases k4:kd=4
     . simp only[k4,decide_true,AM]
     . simp only[k4,decide_false,AP,AJ];by_cases k5:kd=5
       . simp only[k5,decide_true,AM]
       . simp only[k5,decide_false,AP,AJ];by_cases k8:kd=8
         . simp only[k8,decide_true,AM,Ap];split<;>rfl
         . simp only[k8,decide_false,AP,AJ];by_cases k10:kd=10
           . simp only[k10,decide_true,AM]
           . simp only[k10,decide_false,AP,AJ]
 . rw[ub]
   unfold CK Pp;simp only[iA,x1,x2,x3,x4,x5,x6,x7,x8,Bl];generalize Ez c=w;simp only[BB,AZ,AF,AE,BC,C0,Ee,z0,z1];by_cases k2:kd=2
   . by_cases hc:0<c
     . have hc':¬ c=0:=by omega
       simp only[k2,hc,hc',decide_true,decide_false,Gs,Bool.not_false,Bool.or_true,Bool.or_false,AJ,AP,AM,Sb,ite_self];by_cases hw:(cp=true/\w=true)/\c<=26/\Eh (M ||| O) 2=0
       . rw[Ac hw,Ac (by obtain⟨⟨a1,a2⟩,a3,a4⟩:=hw;simp[a1,a2,a3,a4])];rfl
       . rw[Ae hw,Ae (by intro hh;apply hw;simpa using hh)]
     . have hc':c=0:=by omega
       simp only[k2,hc',decide_true,Gs,Bool.or_false,AJ,AP,AM];simp
   . simp only[k2,decide_false,Bool.not_false,Bool.true_or,AM,AP,AJ];by_cases k4:kd=4
     . simp only[k4,decide_true,AM]
     . simp only[k4,decide_false,AP,AJ];by_cases k5:kd=5
       . simp only[k5,decide_true,AM]
       . simp only[k5,decide_false,AP,AJ];by_cases k8:kd=8
         . simp only[k8,decide_true,AM,Ap];split<;>rfl
         . simp only[k8,decide_false,AP,AJ];by_cases k10:kd=10
           . simp only[k10,decide_true,AM]
           . simp only[k10,decide_false,AP,AJ]
theorem ZbL:∀ F:Fin 16,∀ P l:Fin 5,F.val % 2=0->1<=P.val->P.val<l.val->F.val<2^l.val->(F.val ^^^ 2^P.val) % 2=0/\F.val ^^^ 2^P.val<2^l.val:=by decide +kernel
theorem ZcJ:∀ P l:Fin 5,P.val<l.val->(Eh (2^P.val) 1) % 2=0/\Eh (2^P.val) 1<2^l.val:=by decide +kernel
end
theorem vG(x:SL):N1 x=Jg x:=by
 rw[pr,dO,eW];generalize bNot (iLt (Am _ _ _) _)=L;simp only[AE,AF,AZ,C8,BC];by_cases h:x.1.1=x.2.1<;>simp[h]
theorem gz(a b:DU)(h:a.2.length<=1048576):Tt (a,b)/\Tx (a,b):=by
 obtain⟨m,a⟩:=a;obtain⟨n,b⟩:=b;rw[p9,pK,qM];have h:a.length<=1048576:=h
 have lp:∀ {c:Int->Bool} {f:Int->Int} {p:Int->Prop},(∀ st,c st=true->st<a.length)->(∀ st,f st=iAdd .i64 st 1)->(∀ st:Int,0<=st->st<=a.length->p st)->LoopOk c f p 0:=λ hc hf hp=>
  IH (λ st=>st) a.length (by omega) (λ st _ _ h=>hc st h) hf hp (by simp) (by simp)
 have cc:∀ {st:Int} {t:Bool},bAnd (iLt st (lLen a)) t=true->st<a.length:=λ {st t} h=>by
  rw[AE,Aq,As,Ah,Ap] at h;exact h.1
 have pp:a.length=b.length->∀ st:Int,0<=st->iLt st (lLen a)=true->(((0:Int)<=st/\st<(a.length:Int))/\iNat st<a.length/\((0:Int)<=st/\st<(b.length:Int))/\iNat st<b.length):=λ hl st h0 h1=>by
  rw[Aq,As,Ap] at h1;rw[Ax];omega
 refine⟨⟨λ _=>trivial,λ hb=>?_⟩,λ _=>⟨λ _=>trivial,λ hb=>?_⟩,λ _=>trivial⟩
 . simp only[AZ,C8,As,B8,CI,Ap] at hb;exact lp (λ st hc=>cc hc) (λ _=>rfl) (λ st h0 h1=>⟨pp (by omega) st h0,λ _=>trivial⟩)
 . simp only[C8,As,CI,Ap] at hb;exact lp (λ st hc=>cc hc) (λ _=>rfl) (λ st h0 h1=>⟨pp (by omega) st h0,λ _=>trivial⟩)
section
set_option maxRecDepth 20000
abbrev Ds:=Int×List Int
theorem uF(a b:Ds)(h:a.2.length<=1048576):Jg (a,b)=decide (a=b):=by
 obtain⟨m,x⟩:=a;obtain⟨n,y⟩:=b;simp only at h;rw[dO,eW];simp only
 rw[R9 (c:=λ x0=>bAnd (iLt x0 (lLen x)) (bNot (iNe (lGet x (iNat x0) 0) (lGet y (iNat x0) 0)))) (f:=λ x0=>iAdd .i64 x0 1) x.length (λ i=>!decide (x.getD i 0=y.getD i 0)) (by omega)
  (λ i hi=>by simp only[AE,AF,C8,Aq,As,A7,Ax,Bl,G2,Sb]) (λ i hi=>rfl)]
 have hall:=OP (t:=λ i=>!decide (x.getD i 0=y.getD i 0)) (n:=x.length);have hle:=Jr (λ i=>!decide (x.getD i 0=y.getD i 0)) x.length 0;generalize CL (λ i=>!decide (x.getD i 0=y.getD i 0)) x.length 0=q at hall hle;simp only[AE,AF,C8,BC,Aq,As,Sb];rw[JN];simp only[Ah,Bx,Ap,Bm,Al];constructor
 . rintro⟨h1,h2,h3⟩;refine⟨h1,bV (by omega) λ i hi hj=>?_⟩;have:=(hall.1 (by omega)) i hi;rw[CI,Ap,G0 x 0 hi,G0 y 0 hj] at this;exact this
 . rintro⟨rfl,rfl⟩
   have:=hall.2 λ i hi=>by simp
   refine⟨rfl,rfl,by omega⟩
theorem lu {α S T:Type} {c:S×Int×T->Bool} {f:S×Int×T->S×Int×T} {p:S×Int×T->Prop} (x:List α) (d:α) (g:S×T->α->S×T) (s0:S×T) (hl:x.length<=2097152)
 (hc:∀ (s:S×T) (i:Nat),i<=x.length->c (s.1,(i:Int),s.2)=decide (i<x.length)) (hf:∀ (i:Nat),i<x.length->f (((x.take i).foldl g s0).1,(i:Int),((x.take i).foldl g s0).2)=((g ((x.take i).foldl g s0) (x.getD i d)).1,iAdd .i64 (i:Int) 1,(g ((x.take i).foldl g s0) (x.getD i d)).2))
 (hp:∀ (i:Nat),i<=x.length->p (((x.take i).foldl g s0).1,(i:Int),((x.take i).foldl g s0).2)) :
 LoopOk c f p (s0.1,0,s0.2)/\Am c f (s0.1,0,s0.2)=((x.foldl g s0).1,(x.length:Int),(x.foldl g s0).2):=by
 have:=Jv (c:=c) (f:=f) (p:=p) x.length (λ i=>(((x.take i).foldl g s0).1,(i:Int),((x.take i).foldl g s0).2)) (x0:=(s0.1,0,s0.2)) rfl (λ k hk=>by
  refine⟨hp k (by omega),by rw[hc _ k (by omega)];simpa using hk,?_⟩;rw[hf k hk,Bu (by unfold AO;omega),<- Jt x d hk,List.foldl_append]
  simp) ⟨hp _ (by omega),by rw[hc _ _ (by omega)];simp⟩
 refine⟨this.1,?_⟩
 rw[this.2,HD]
def F4(s:List Ds×Ds)(r:Ds):List Ds×Ds:=(if s.2=r then s.1 else s.1++[r],r)
def NM(p:Ds)(l:List Ds):List Ds:=(l.foldl F4 ([],p)).1
theorem Zar(P:Ds->Prop)(p:Ds)(hp:P p)(l:List Ds)(h:∀ r∈l,P r):(l.foldl F4 ([],p)).1.length<=l.length/\(∀ r∈(l.foldl F4 ([],p)).1,P r)/\P (l.foldl F4 ([],p)).2:=by
 have go : ∀ (l:List Ds) (s:List Ds×Ds),(∀ r∈l,P r)->(∀ r∈s.1,P r)->P s.2->(l.foldl F4 s).1.length<=s.1.length+l.length/\(∀ r∈(l.foldl F4 s).1,P r)/\P (l.foldl F4 s).2:=by
  intro l
  induction l with
  |nil=>intro s _ h2 h3;exact⟨by simp,h2,h3⟩
  | cons a l ih=>
    intro s h1 h2 h3;have ha:=h1 a G4
    have:=ih (F4 s a) (λ r hr=>h1 r (List.mem_cons_of_mem _ hr)) (by
     intro r hr
     unfold F4 at hr
     simp only at hr
     split at hr
     . exact h2 r hr
     . rw[CC,List.mem_singleton] at hr
       rcases hr with hr|rfl
       . exact h2 r hr
       . exact ha) ha
    refine⟨?_,this.2⟩;have h4:=this.1
    have h5:(F4 s a).1.length<=s.1.length+1:=by
     unfold F4;simp only;split
     . omega
     . simp
    rw[List.foldl_cons,AG];omega
 have:=go l ([],p) h (by simp) hp;exact⟨by simpa using this.1,this.2⟩
def JZ(r:Ds):Prop:=r.2.length<=1048576
theorem iE(p:Ds)(l:List Ds)(hp:JZ p)(hl:l.length<=2097152)(h:∀ r∈l,JZ r) :
 Qk (p,l)/\Qb (p,l)/\Qq (p,l)=NM p l/\Qc (p,l)=NM p l:=by
 have g1:∀ i:Nat,lGet l (iNat (i:Int)) (0,[])=l.getD i (0,[]):=λ i=>by rw[A7,Ax,Bl]
 have inv:=λ i:Nat=>Zar JZ p hp (l.take i) λ r hr=>h r (KQ hr)
 have len:∀ i:Nat,(l.take i).length<=2097152:=λ i=>by rw[Eu];omega
 have cp:∀ r:Ds,QV r=r:=λ r=>by rw[uX,BA,CP]
 have fs:∀ (s:List Ds×Ds) (r:Ds),JZ s.2->bSel (bNot (Jg (s.2,r))) (s.1++[r]) s.1=(F4 s r).1:=λ s r hs=>by
  rw[uF _ _ hs,BB,AF];unfold F4;by_cases e:s.2=r
  . simp[e]
  . simp[e]
 obtain⟨a1,a2⟩:=lu (c:=Tp (p,l)) (f:=Tq (p,l)) (p:=X8 (p,l)) l (0,[]) F4 ([],p) hl
  (λ s i hi=>by simp only[Tp,Aq,As,G2])
  (λ i hi=>by
   obtain⟨_,_,i3⟩:=inv i;have:=fs _ (l.getD i (0,[])) i3;simp only[Tq,g1,vG,cp,BA]
   rw[this];rfl) (λ i hi=>by
   obtain⟨i1,_,i3⟩:=inv i;have li:=len i;simp only[X8,g1,Aq,As,Ap];refine⟨λ hlt=>?_,λ _=>trivial⟩;have hm:=h _ (DY l i (0,[]) (by omega));have hb:((0:Int)<=(i:Int)/\(i:Int)<(l.length:Int))/\iNat (i:Int)<l.length:=⟨⟨by omega,hlt⟩,by rw[Ax];omega⟩;refine⟨⟨hb.1,hb.2,(gz _ _ i3).1,⟨λ _=>⟨hb.1,hb.2,?_,?_⟩,λ _=>trivial⟩⟩,hb⟩
   . rw[tw];unfold Av JZ at *;simp only[AK];omega
   . unfold Av;simp only[AG,AK];omega)
 obtain⟨b1,b2⟩:=lu (c:=Te (p,l)) (f:=Td (p,l)) (p:=X5 (p,l)) l (0,[]) F4 ([],p) hl
  (λ s i hi=>by simp only[Te,Aq,As,G2])
  (λ i hi=>by
   obtain⟨_,_,i3⟩:=inv i;have:=fs _ (l.getD i (0,[])) i3;simp only[Td,g1,BA];rw[this]
   simp only[BB,ite_self];rfl) (λ i hi=>by
   obtain⟨i1,_,i3⟩:=inv i;have li:=len i;simp only[X5,g1,Aq,As,Ap];refine⟨λ hlt=>?_,λ _=>trivial⟩;refine⟨⟨by omega,hlt⟩,by rw[Ax];omega,(gz _ _ i3).2,λ _=>?_,λ _=>trivial⟩
   unfold Av;simp only[AG,AK];omega)
 rw[qt,oT,qp,oX]
 exact⟨a1,b1,by rw[a2];rfl,by rw[b2];rfl⟩
end
theorem VZ (x):Fs x=B1 x:=by rw[uH,fY]
theorem V0(x:HN)(h:x.1.2.2.2.2.1.length<=1048576):QQ x/\Lt x:=by
 rw[uQ,tH]
 have:∀ {c:Int->Bool} {f:Int->Int} {p:Int->Prop},(∀ st,c st=true->st<x.1.2.2.2.2.1.length)->(∀ st,f st=iAdd .i64 st 1)->(∀ st:Int,0<=st->st<=x.1.2.2.2.2.1.length->p st)->LoopOk c f p 0:=λ hc hf hp=>
  IH (λ st=>st) x.1.2.2.2.2.1.length (by omega) (λ st _ _ h=>hc st h) hf hp (by simp) (by simp)
 constructor
 all_goals
  refine this (λ st hc=>?_) (λ _=>rfl) (λ st h0 h1=>⟨λ hlt=>?_,λ _=>trivial⟩)
  . rw[AE,Aq,As,Ah,Ap] at hc;exact hc.1
  . rw[Aq,As,Ap] at hlt
    exact⟨⟨h0,hlt⟩,by rw[Ax];omega⟩
theorem vZ(k:Int)(x:DQ)(on key:Int)(hs:Gf (k,x))(h:¬ BU ((k,x),on,key)<0) :
 MapOk k x/\D7 (k,x)=true/\0<=key/\key<k/\0<=BU ((k,x),on,key)/\BU ((k,x),on,key)<x.length:=by
 rw[Uc,BB] at h ⊢
 by_cases hb:bOr (bNot (D7 (k,x))) (bOr (iLt key 0) (iGe key k))=true
 . rw[Ac hb] at h;exact absurd (by decide) h
 . rw[Ae hb] at h ⊢
   simp only[Aq,CG,AF,AZ,Gv,B8,CI,Bm] at hb;obtain⟨hk,h0,h1⟩:=hb;have m:=GQ hs hk;refine⟨m,hk,by omega,by omega,by omega,?_⟩;rw[YM]
   have:=m.l1;have:=m.l2
   have hv:∀ {c:Int->Bool} {f:Int->Int},(∀ st,c st=true->0<st)->(∀ st,f st=iSub .i64 st 1)->bSel (iGt (Am c f (iSub .i64 (lLen x) 1)) 0) (Am c f (iSub .i64 (lLen x) 1)) 0<x.length:=by
    intro c f hc hf
    have:=(MO (c:=c) (f:=f) (λ st:Int=>0<=st/\st<x.length) (λ st=>st.toNat) (λ st hI hcc=>by
     have:=hc st hcc;rw[hf,EF (by unfold AO;omega)]
     omega) (x0:=iSub .i64 (lLen x) 1) (by rw[As,EF (by unfold AO;omega)];omega)).1
    rw[BB];split<;>omega
   exact hv (λ st hc=>by rw[AE,C0,Ah,Ap] at hc;exact hc.1) (λ st=>rfl)
theorem xa(k:Int)(x:DQ)(on key:Int)(hs:Gf (k,x)):Up ((k,x),on,key)=Hm ((k,x),on,key):=by
 rw[sg,eE];simp only[ji k x on key hs]
theorem iD(k:Int)(x:DQ)(on key:Int)(hs:Gf (k,x)):TJ ((k,x),on,key)/\TO ((k,x),on,key):=by
 obtain⟨o1,o2⟩:=jn k x on key hs;rw[rG,rX];simp only[ji k x on key hs]
 have fin:iLt (BU ((k,x),on,key)) 0=false->(((0:Int)<=BU ((k,x),on,key)/\BU ((k,x),on,key)<(x.length:Int))/\iNat (BU ((k,x),on,key))<x.length/\((0:Int)<=key/\key<((lGet x (iNat (BU ((k,x),on,key))) []).length:Int))/\iNat key<(lGet x (iNat (BU ((k,x),on,key))) []).length):=by
  intro h;rw[Aq,Bm] at h;obtain⟨m,_,h0,h1,h2,h3⟩:=vZ k x on key hs h;have:=m.row (BU ((k,x),on,key)).toNat (by omega);rw[A7,Ax,Ax];omega
 exact⟨⟨o1,λ _=>trivial,fin⟩,o2,λ _=>trivial,fin⟩
theorem jK{c:Int->Bool}{f:Int->Int}{n:Nat}(hn:n<=1048576)(h1:∀ i:Nat,i<n->c i=true)(h2:c n=false)(h3:∀ i:Int,f i=iAdd .i64 i 1):Am c f 0=(n:Int):=
 (Jv (p:=λ _=>True) n (λ i=>(i:Int)) rfl (λ i hi=>⟨trivial,h1 i hi,by rw[h3,Bu (by unfold AO;omega)];omega⟩) ⟨trivial,h2⟩).2
theorem km{k:Int}{x:List G7}(h:MapOk k x):D7 (k,x)=true:=by
 obtain⟨k1,k2,l1,l2,row,act⟩:=h;rw[Yy];rw[jK (n:=x.length) (by omega) ?_ ?_ λ _=>rfl]
 . simp only[AE,AF,AZ,Aq,C0,As];simp;omega
 . intro i hi
   have e:lGet x (iNat (i:Int)) []=x.getD i []:=by rw[A7,Ax,Bl]
   have hr:=row i hi;rw[jK (n:=(x.getD i []).length) (by omega) ?_ ?_ λ _=>rfl]
   . simp only[e,AE,AF,Aq,C8,As,hr];simp;omega
   . intro j hj;have hact:=act i j hi hj
     have e2:lGet (x.getD i []) (iNat (j:Int)) (0,0,0,0)=(x.getD i []).getD j (0,0,0,0):=by rw[A7,Ax,Bl]
     simp only[e,e2,AE,AF,AZ,BB,Aq,BC,C8,CG,As];generalize (x.getD i []).getD j (0,0,0,0)=a at hact ⊢;obtain⟨a1,a2,a3⟩:=hact;rw[a1]
     have hj':(j:Int)<((x.getD i []).length:Int):=by omega
     simp only[hj',decide_true,Nl,Gs,Bool.false_or]
     have h10:(!decide (a.1=9)&&decide ((x.length:Int)<=a.2.2.2))=false:=by
      by_cases h9:a.1=9
      . rw[Hs h9];rfl
      . have:=a3 h9;rw[Es (by omega:¬ (x.length:Int)<=a.2.2.2),Bool.and_false]
     by_cases hz:i=0
     . have:=a2 hz;rw[h10,Es this];simp
     . rw[h10];simp[hz]
   . simp only[e,AE,Aq,As];simp
 . simp only[AE,Aq,As];simp
def Zc6(n:Int)(i:Int)(a:CE):Prop:=Bo a=true/\(i=0->a.1≠1)/\(a.1≠9->a.2.2.2<n)
def Xw(k n:Int)(i:Int)(r:G7):Prop:=(r.length:Int)=k/\∀ a∈r,Zc6 n i a
def Sj(k n:Int)(x:DQ):Prop:=∀ i:Nat,i<x.length->Xw k n i (x.getD i [])
theorem ZaB{k:Int}{x:List G7}(k1:1<=k)(k2:k<=32)(l1:1<=x.length)(l2:x.length<=4)(h:Sj k x.length x):MapOk k x:=
 ⟨k1,k2,l1,l2,λ i hi=>(h i hi).1,λ i j hi hj=>by
  obtain⟨a,b,c⟩:=(h i hi).2 _ (DY _ j (0,0,0,0) hj)
  exact⟨a,λ e=>b (by omega),c⟩⟩
theorem ze{k n:Int}{x:List G7}{r:List CE}(h:Sj k n x)(hr:Xw k n x.length r):Sj k n (x++[r]):=by
 intro i hi;simp only[Cw,AG,AK] at hi;by_cases hl:i<x.length
 . rw[Ef,Bw hl,<- Ef];exact h i hl
 . have:i=x.length:=by omega
   subst this;rw[Ef,Dc (BP _)];simpa using hr
theorem zc(c:Cz)(k:Int)(x0:Nr)(h:B3 (c.1,x0.2.2))(k0:0<=k)(k2:k<=32)(hn:1<=iAdd .i64 1 (Ar (c,4)).1/\iAdd .i64 1 (Ar (c,4)).1<=4) :
 LoopOk (H9 (c,k)) (Jh (c,k) x0) (TR (c,k) x0) ([],0,x0.2.2) /\
 Xw k (iAdd .i64 1 (Ar (c,4)).1) x0.1 (Am (H9 (c,k)) (Jh (c,k) x0) ([],0,x0.2.2)).1 /\
 B3 (c.1,(Am (H9 (c,k)) (Jh (c,k) x0) ([],0,x0.2.2)).2.2):=by
 have key:=LI (c:=H9 (c,k)) (f:=Jh (c,k) x0) (p:=TR (c,k) x0)
  (λ st=>B3 (c.1,st.2.2)/\0<=st.2.1/\st.2.1<=k/\Xw st.2.1 (iAdd .i64 1 (Ar (c,4)).1) x0.1 st.1) (λ st=>(k-st.2.1).toNat) (λ st hI=>by
  obtain⟨r,j,cu⟩:=st
  obtain⟨i0,i1,i2,i3,i4⟩:=hI
  simp only at i0 i1 i2 i3 i4
  have s1:iAdd .i64 j 1=j+1:=Bu (by unfold AO;omega)
  unfold TR Jh H9
  simp only[s1,BA,Aq,C0,AE,Ap]
  generalize iAdd .i64 1 (Ar (c,4)).1=n at hn i4 ⊢
  obtain⟨d1,d2,d3,d4⟩:=Zb8 (c.1,cu) n i0 hn.1 hn.2
  generalize Ck ((c.1,cu),n)=D at d2 d3 d4 ⊢
  obtain⟨o1,o2⟩:=WU (c.1,D.2) 3 d2
  simp only at o2
  generalize Cq ((c.1,D.2),3)=O at o2 ⊢
  refine⟨⟨λ hc=>⟨d1,⟨λ _=>o1,λ _=>trivial⟩,?_⟩,λ _=>trivial⟩,λ hc=>⟨⟨?_,by omega,by omega,by simp only[Cw,AG,AK];omega,?_⟩,by omega⟩⟩
  . unfold Av;simp only[AG,AK];omega
  . simp only[BB]
    by_cases hx:0<x0.1
    . simp only[hx,decide_true,AM,Nl,ite_self];exact o2
    . simp only[hx,decide_false,Bool.false_and,AJ,AP];exact d2
  . intro a ha
    rw[CC,List.mem_singleton] at ha;rcases ha with ha|rfl
    . exact i4 a ha
    . simp only[BB];split
      . rename_i hb;rw[Ah,Ap] at hb;exact⟨(Dl 1 0 0 0).2 (by omega),λ h=>by omega,λ _=>by simp only;omega⟩
      . exact⟨d3.1,λ _=>d3.2,d4⟩) (x0:=([],0,x0.2.2)) ⟨h,by simp,k0,by simp,by simp⟩
 obtain⟨q1,⟨q2,q3,q4,q5⟩,q6⟩:=key
 refine⟨q1,?_,q2⟩
 generalize Am (H9 (c,k)) (Jh (c,k) x0) ([],0,x0.2.2)=st at *
 unfold H9 at q6
 simp only[Aq,Bm] at q6
 have:st.2.1=k:=by omega
 rw[this] at q5
 exact q5
theorem Zbg(c:Cz)(k:Int)(h:B3 c)(k0:1<=k)(k2:k<=32) :
 Ou (c,k)/\B3 (c.1,(Iq (c,k)).2)/\MapOk k (Iq (c,k)).1.2/\(Iq (c,k)).1.1=k:=by
 rw[tx,tn]
 obtain⟨b1,b2,_,b4⟩:=Fu c 4 h
 have b4:=b4 (by omega)
 have hn:1<=iAdd .i64 1 (Ar (c,4)).1/\iAdd .i64 1 (Ar (c,4)).1<=4:=by rw[Bu (by unfold AO;omega)];omega
 have key:=LI (c:=MB (c,k)) (f:=Oc (c,k)) (p:=YA (c,k))
  (λ st=>B3 (c.1,st.2.2)/\0<=st.1/\st.1<=iAdd .i64 1 (Ar (c,4)).1/\(st.2.1.length:Int)=st.1/\Sj k (iAdd .i64 1 (Ar (c,4)).1) st.2.1) (λ st=>(iAdd .i64 1 (Ar (c,4)).1-st.1).toNat) (λ st hI=>by
  obtain⟨i,x,cu⟩:=st
  obtain⟨i0,i1,i2,i3,i4⟩:=hI
  simp only at i0 i1 i2 i3 i4
  have s1:iAdd .i64 i 1=i+1:=Bu (by unfold AO;omega)
  obtain⟨r1,r2,r3⟩:=zc c k (i,x,cu) i0 (by omega) k2 hn
  unfold YA Oc MB
  simp only[s1,BA,Aq,Ap] at r1 r2 r3 ⊢
  refine⟨⟨λ hc=>⟨r1,?_⟩,λ _=>trivial⟩,λ hc=>⟨⟨r3,by omega,by omega,by simp only[Cw,AG,AK];omega,ze i4 (by rw[i3];exact r2)⟩,by omega⟩⟩
  unfold Av;simp only[AG,AK];omega) (x0:=(0,[],(Ar (c,4)).2)) ⟨b2,by simp,by simp only;omega,by simp,λ i hi=>by simp at hi⟩
 obtain⟨q1,⟨q2,q3,q4,q5,q6⟩,q7⟩:=key
 generalize Am (MB (c,k)) (Oc (c,k)) (0,[],(Ar (c,4)).2)=st at *
 unfold MB at q7
 simp only[Aq,Bm] at q7
 have e:st.1=iAdd .i64 1 (Ar (c,4)).1:=by omega
 have l1:1<=st.2.1.length:=by omega
 have l2:st.2.1.length<=4:=by omega
 refine⟨⟨b1,q1⟩,q2,ZaB k0 k2 l1 l2 ?_,rfl⟩
 show Sj k (st.2.1.length:Int) st.2.1
 rw[q5,e];exact q6
theorem kf(x:Bg)(k:Int)(h:x.length<=1048576):MC (x,k)/\B3 (Jo (x,k)):=by
 rw[tL,tC];obtain⟨n1,n2,n3⟩:=Zcx x h;exact⟨n1,n2⟩
theorem vU(x:Bg)(p n:Int)(h:x.length<=1048576)(hn:0<n):TA (x,p,n)/\0<=GF (x,p,n)/\GF (x,p,n)<n:=by
 rw[p8,pC];obtain⟨a1,a2⟩:=kf x p h;obtain⟨b1,b2,_,b4⟩:=Fu _ n a2;exact⟨⟨a1,b1⟩,b4 hn⟩
theorem ZcW{k:Int}{x:List G7}(h:MapOk k x):Gf (k,x):=by
 have:=h.k2;have:=h.l2;refine⟨⟨by show x.length<=1048576;omega,λ r hr=>?_⟩,trivial⟩;obtain⟨i,hi,rfl⟩:=List.mem_iff_getElem.1 hr;have:=h.row i hi;rw[Ef,Bd hi,HA] at this;exact⟨by omega,λ a _=>by simp[Z0]⟩
theorem yU(T:Int->Bool){c:Int->Bool}{f:Int->Int}{n:Nat}(h1:1<=n)(h2:n<=4)(hc:∀ st,c st=(decide (0<st)&&!T st))(hf:∀ st,f st=iSub .i64 st 1) :
 0<=Am c f ((n:Int)-1)/\Am c f ((n:Int)-1)<n/\(0<Am c f ((n:Int)-1)->T (Am c f ((n:Int)-1))=true)/\∀ p:Int,Am c f ((n:Int)-1)<p->p<n->T p=false:=by
 have key:=MO (c:=c) (f:=f) (λ st:Int=>0<=st/\st<n/\∀ p:Int,st<p->p<n->T p=false) (λ st=>st.toNat) (λ st hI hcc=>by
  obtain⟨i1,i2,i3⟩:=hI;rw[hc,Ah,Ap,Bx] at hcc;rw[hf,EF (by unfold AO;omega)];refine⟨⟨by omega,by omega,λ p p1 p2=>?_⟩,by omega⟩;by_cases e:p=st
  . rw[e];exact hcc.2
  . exact i3 p (by omega) p2) (x0:=(n:Int)-1) ⟨by omega,by omega,λ p p1 p2=>by omega⟩
 obtain⟨⟨k1,k2,k3⟩,k4⟩:=key
 refine⟨k1,k2,λ h0=>?_,k3⟩
 rw[hc,Hs h0,Nl,CI] at k4
 exact k4
theorem hU{k:Int}{x:List G7}(hm:MapOk k x)(on key:Int)(h0:0<=key)(h1:key<k) :
 0<=BU ((k,x),on,key)/\BU ((k,x),on,key)<x.length /\
 (0<BU ((k,x),on,key)->iAnd .i64 (iShr .i64 on (BU ((k,x),on,key))) 1=1/\((x.getD (BU ((k,x),on,key)).toNat []).getD key.toNat (0,0,0,0)).1≠1) /\
 ∀ p:Int,BU ((k,x),on,key)<p->p<x.length->¬ (iAnd .i64 (iShr .i64 on p) 1=1/\((x.getD p.toNat []).getD key.toNat (0,0,0,0)).1≠1):=by
 have l1:=hm.l1
 have l2:=hm.l2
 rw[Uc,BB,km hm]
 have hb:bOr (bNot true) (bOr (iLt key 0) (iGe key k))=false:=by
  rw[AZ,AZ,AF,Aq,CG,Es (by omega),Es (by omega)];rfl
 simp only[hb,AJ,AP]
 rw[YM]
 simp only
 rw[As,EF (by unfold AO;omega)]
 obtain⟨q1,q2,q3,q4⟩:=yU (n:=x.length) (λ st=>decide (iAnd .i64 (iShr .i64 on st) 1=1)&&!decide (((x.getD st.toNat []).getD key.toNat (0,0,0,0)).1=1)) (c:=fun(x0:Int)=>(bAnd (iGt x0 0) (bNot (bAnd (iEq (Eo (on,x0)) 1) (iNe (lGet (lGet x (iNat x0) []) (iNat key) (0,0,0,0)).1 1))))) (f:=fun(x0:Int)=>(iSub .i64 x0 1)) l1 l2
  (λ st=>by simp only[AE,AF,C0,BC,C8,VB,A7,Ax]) (λ st=>rfl)
 generalize Am _ _ ((x.length:Int)-1)=st at *
 have e:bSel (iGt st 0) st 0=st:=by rw[BB,C0];split<;>simp_all<;>omega
 rw[e]
 simp only[Ah,Bx,Ap,Bm,F2,CI] at q3 q4
 refine⟨q1,q2,q3,λ p p1 p2 h=>?_⟩
 rcases q4 p p1 p2 with h4|h4
 . exact h4 h.1
 . exact h.2 h4
theorem mu{a b:List Int}(ha:a.Pairwise (· < ·))(hb:b.Pairwise (· < ·))(h:∀ x,x∈a↔x∈b):a=b:=by
 induction a generalizing b with
 | nil=>
   cases b with
   |nil=>rfl
   |cons y b=>exact absurd ((h y).2 G4) List.not_mem_nil
 | cons x a ih=>
   cases b with
   |nil=>exact absurd ((h x).1 G4) List.not_mem_nil
   | cons y b=>
     obtain⟨a1,a2⟩:=List.pairwise_cons.1 ha;obtain⟨b1,b2⟩:=List.pairwise_cons.1 hb
     have e:x=y:=by
      rcases Cv.1 ((h x).1 G4) with e|e
      . exact e
      . rcases Cv.1 ((h y).2 G4) with g|g
        . exact g.symm
        . have:=a1 _ g;have:=b1 _ e;omega
     subst e;congr 1
     refine ih a2 b2 λ z=>⟨λ hz=>?_,λ hz=>?_⟩
     . rcases Cv.1 ((h z).1 (List.mem_cons_of_mem _ hz)) with e|e
       . subst e;have:=a1 _ hz;omega
       . exact e
     . rcases Cv.1 ((h z).2 (List.mem_cons_of_mem _ hz)) with e|e
       . subst e;have:=b1 _ hz;omega
       . exact e
theorem lL {α:Type} {c:Int->Bool} {f:Int->Int} {p:Int->Prop} (x:List α) (d:α) (q:α->Bool) (hl:x.length<=1048576)
 (hc:∀ i:Nat,i<=x.length->c (i:Int)=(decide (i<x.length)&&!q (x.getD i d))) (hf:∀ i:Nat,i<x.length->f (i:Int)=iAdd .i64 (i:Int) 1) (hp:∀ i:Nat,i<=x.length->p (i:Int)) :
 LoopOk c f p 0/\iLt (Am c f 0) (lLen x)=x.any q:=by
 obtain⟨h1,k,hk,h2,h3⟩:=Zbm (c:=c) (f:=f) (p:=p) (x0:=0) x.length (λ i=>(i:Int)) (λ i=>!q (x.getD i d)) rfl (λ i hi _=>hc i hi) (λ i hi _=>by rw[hf i hi,Bu (by unfold AO;omega)];simp) (λ i hi _=>hp i hi)
 refine⟨h1,?_⟩
 rw[h2,Aq,As,JN,Ap,List.any_eq_true]
 constructor
 . intro h
   have h4:¬ ∀ i,i<x.length->(!q (x.getD i d))=true:=λ hh=>by have:=h3.2 hh;omega
   simp only[Classical.not_forall,Bx,IV] at h4;obtain⟨i,hi,g⟩:=h4;exact⟨_,DY x i d hi,g⟩
 . rintro⟨a,ha,g⟩
   obtain⟨i,hi,rfl⟩:=IM ha
   have h5:k≠x.length:=λ e=>by
    have:=h3.1 e i hi;rw[G0 x d hi,g] at this;exact absurd this (by decide)
   omega
theorem zy(l:Bg)(v:Int)(hl:l.length<=1048576):UD (l,v)/\Oz (l,v)=decide (v∈l):=by
 rw[tj,uR]
 obtain⟨h1,h2⟩:=lL (c:=T9 (l,v)) (f:=YE) (p:=Yx (l,v)) l 0 (λ a=>decide (a=v)) hl
  (λ i hi=>by simp only[T9,AE,Aq,As,AF,BC,A7,Ax,Bl,G2])
  (λ i hi=>rfl) (λ i hi=>by
   simp only[Yx,Aq,As,Ax,Bl,Ap]
   exact⟨λ h=>⟨⟨by omega,by omega⟩,by omega⟩,λ _=>trivial⟩)
 refine⟨h1,?_⟩;rw[h2,JN,List.any_eq_true,Ap];constructor
 . rintro⟨a,ha,g⟩;rw[Ap] at g;exact g▸ha
 . intro h;exact⟨v,h,by simp⟩
def Zb0(C l:Bg):Prop:=l.Pairwise (· < ·)/\∀ z,z∈l↔(z∈C/\z≠0)
theorem Zae{α:Type}(x:List α)(d:α){i:Nat}(h:i<x.length)(z:α):z∈x.take (i+1)↔z∈x.take i\/z=x.getD i d:=by
 rw[<- Jt x d h,CC,List.mem_singleton]
theorem ZbJ{α:Type}(x:List α){i:Nat}{z:α}(h:z∈x.take i):∃ j,∃ (hj:j<x.length),j<i/\z=x[j]:=by
 obtain⟨j,hj,rfl⟩:=IM h;rw[Eu] at hj;exact⟨j,by omega,by omega,List.getElem_take ..⟩
theorem jv(C:Bg)(hl:C.length<=1048576):QM C/\Zb0 C (Lm C)/\(Lm C).length<=C.length:=by
 rw[sr,sA];simp only[eJ,TU,DMk.ok]
 have hs:(DX C 0).1=Dp C:=by rw[gI]
 have hsl:=ZT C
 have hso:(Dp C).Pairwise (λ a b=>a<=b):=by
  have:=List.pairwise_mergeSort (le:=λ x y:Int=>decide (x<=y)) (by simp;intros;omega) (by simp;intros;omega) C;exact this.imp (by simp)
 have hmem:∀ z,z∈Dp C↔z∈C:=λ z=>(List.mergeSort_perm C _).mem_iff
 generalize Dp C=S at hs hsl hso hmem
 have key := Pd (c:=Qn C) (f:=TG C) (p:=Yj C) (x0:=([],0))
  (λ st=>∃ i:Nat,st.2=(i:Int)/\i<=S.length/\st.1.length<=i/\st.1.Pairwise (· < ·)/\∀ z,z∈st.1↔(z∈S.take i/\z≠0)) (λ st=>S.length-st.2.toNat) (by
  rintro⟨l,n⟩ ⟨i,h1,hi,hli,hp,hm⟩
  simp only at h1 hli hp hm
  subst h1
  simp only[Qn,TG,Yj,TU,hs,Aq,As,A7,Ax,Bl,Ap]
  generalize hv:S.getD i 0=v
  obtain⟨g1,g2⟩:=zy l v (by omega)
  have r1:Av ((l.length+[v].length)*1):=by unfold Av;simp only[AG,AK];omega
  refine⟨⟨λ h=>⟨⟨by omega,by omega⟩,by omega,⟨λ _=>g1,λ _=>trivial⟩,⟨λ _=>r1,λ _=>trivial⟩⟩,λ _=>trivial⟩,λ h=>?_⟩
  have hi':i<S.length:=by omega
  refine⟨⟨i+1,by rw[Bu (by unfold AO;omega)];simp,by omega,?_,?_,?_⟩,by rw[Bu (by unfold AO;omega)];omega⟩
  . rw[BB,BA];split
    . simp only[Cw,AG,AK];omega
    . omega
  . rw[BB,BA];split
    . next hb=>
      rw[AE,AF,g2,Ah,C8] at hb;obtain⟨b1,b2⟩:=hb;simp only[Bx,Bm] at b2;refine List.pairwise_append.2 ⟨hp,List.pairwise_singleton _ _,λ a ha b hb=>?_⟩;rw[List.mem_singleton] at hb;subst hb;obtain⟨j,hj,hji,e⟩:=ZbJ S ((hm a).1 ha).1;have hle:=List.pairwise_iff_getElem.1 hso j i hj hi' hji;rw[<- G0 S 0 hi',hv] at hle
      have:a≠b:=λ e=>b2 (e▸ha)
      omega
    . exact hp
  . intro z
    rw[Zae S 0 hi',hv,BB,BA];split
    . next hb=>
      rw[AE,AF,g2,Ah,C8] at hb;obtain⟨b1,b2⟩:=hb
      have b1:v≠0:=by simpa using b1
      rw[CC,List.mem_singleton,hm];constructor
      . rintro(⟨h3,h4⟩|e)
        . exact⟨.inl h3,h4⟩
        . exact⟨.inr e,e▸b1⟩
      . rintro⟨h3|e,h4⟩
        . exact .inl ⟨h3,h4⟩
        . exact .inr e
    . next hb=>
      rw[AE,AF,g2,Ah,C8] at hb;rw[hm];constructor
      . rintro⟨h3,h4⟩;exact⟨.inl h3,h4⟩
      . rintro⟨h3|e,h4⟩
        . exact⟨h3,h4⟩
        . subst e
          have hz:z∈l:=by
           refine Classical.byContradiction λ hn=>hb ⟨by simpa using h4,by simpa using hn⟩
          exact(hm z).1 hz) ⟨0,rfl,Gq _,BP _,List.Pairwise.nil,by simp⟩
 obtain⟨k1,⟨i,k2,k3,k4,k5,k6⟩,k7⟩:=key;simp only[Qn,TU,hs,k2,Aq,As,Bm] at k7
 have:i=S.length:=by omega
 subst this;rw[HD] at k6;refine⟨⟨by unfold Av;omega,⟨trivial,by rw[gr];show C.length<4611686018427387904;omega⟩,k1⟩,⟨k5,λ z=>by rw[k6,hmem]⟩,by omega⟩
theorem Y9{a:Int×Int×Int×Int}(h:Bo a=true):0<=a.2.1/\a.2.1<=56:=by
 rw[QA] at h;simp only[BB,AZ,AE,BC,C8,Ur,CG,Ee] at h
 repeat' split at h
 all_goals simp only[Ah,Cm,Bx,CI,F2,B8,Ap,Bm,Gv,IV,AY,JA] at *
 all_goals omega
def Cx(x:BL):List Int:=x.map λ a=>a.2.2.1
theorem iZ(x:BL){i:Nat}(h:i<x.length):(Cx x).getD i 0=(x.getD i (0,0,0,0,0)).2.2.1:=by
 rw[G0 x _ h,G0 (Cx x) 0 (by simpa [Cx] using h)];simp[Cx]
theorem lv(x:BL)(hl:x.length<=1048576) :
 LoopOk J3 (Le x) (X9 x) (1,[])/\(Am J3 (Le x) (1,[])).2.Pairwise (· < ·)/\∀ z,z∈(Am J3 (Le x) (1,[])).2↔(z∈Cx x/\1<=z/\z<=56):=by
 have inner:∀ (c:Int) (l:Bg),l.length<=60->LoopOk (NW x (c,l)) Qi (TE x (c,l)) 0/\iLt (Am (NW x (c,l)) Qi 0) (lLen x)=decide (c∈Cx x):=by
  intro c l hll
  obtain⟨h1,h2⟩:=lL (c:=NW x (c,l)) (f:=Qi) (p:=TE x (c,l)) x (0,0,0,0,0) (λ a=>decide (a.2.2.1=c)) hl
   (λ i hi=>by simp only[NW,AE,Aq,As,AF,BC,A7,Ax,Bl,G2])
   (λ i hi=>rfl) (λ i hi=>by
    have r1:Av ((l.length+[c].length)*1):=by unfold Av;simp only[AG,AK];omega
    simp only[TE,Aq,As,Ax,Bl,Ap]
    exact⟨λ h=>⟨⟨by omega,by omega⟩,by omega,λ _=>r1,λ _=>trivial⟩,λ _=>trivial⟩)
  refine⟨h1,?_⟩;rw[h2,JN,List.any_eq_true,Ap,Cx,List.mem_map];simp only[Ap]
 have key:=Pd (c:=J3) (f:=Le x) (p:=X9 x) (x0:=(1,[]))
  (λ st=>1<=st.1/\st.1<=57/\(st.2.length:Int)<st.1/\st.2.Pairwise (· < ·)/\∀ z,z∈st.2↔(z∈Cx x/\1<=z/\z<st.1)) (λ st=>57-st.1.toNat) (by
  rintro⟨c,l⟩ ⟨h1,h2,h3,h4,h5⟩
  simp only at h1 h2 h3 h4 h5
  obtain⟨i1,i2⟩:=inner c l (by omega)
  refine⟨⟨λ _=>i1,λ _=>trivial⟩,λ h=>?_⟩
  simp only[J3,Ee,Ap] at h
  have s1:iAdd .i64 c 1=c+1:=Bu (by unfold AO;omega)
  simp only[Le,s1,i2,BB,BA,Ap]
  refine⟨⟨by omega,by omega,?_,?_,λ z=>?_⟩,by omega⟩
  . split
    . simp only[Cw,AG,AK];omega
    . omega
  . split
    . refine List.pairwise_append.2 ⟨h4,List.pairwise_singleton _ _,λ a ha b hb=>?_⟩;rw[List.mem_singleton] at hb;have:=((h5 a).1 ha).2.2;omega
    . exact h4
  . split
    . next hb=>
      rw[CC,List.mem_singleton,h5];constructor
      . rintro(⟨a1,a2,a3⟩|e)
        . exact⟨a1,a2,by omega⟩
        . subst e;exact⟨hb,by omega,by omega⟩
      . rintro⟨a1,a2,a3⟩;by_cases e:z=c
        . exact .inr e
        . exact .inl ⟨a1,a2,by omega⟩
    . next hb=>
      rw[h5];constructor
      . rintro⟨a1,a2,a3⟩;exact⟨a1,a2,by omega⟩
      . rintro⟨a1,a2,a3⟩
        have:z≠c:=λ e=>hb (e▸a1)
        exact⟨a1,a2,by omega⟩) ⟨by simp,by simp,by simp,List.Pairwise.nil,by simp⟩
 obtain⟨k1,⟨k2,k3,k4,k5,k6⟩,k7⟩:=key
 simp only[J3,Ee,Bm] at k7
 refine⟨k1,k5,λ z=>?_⟩
 rw[k6]
 constructor
 . rintro⟨a,b,c⟩;exact⟨a,b,by omega⟩
 . rintro⟨a,b,c⟩;exact⟨a,b,by omega⟩
theorem Zbu(x:BL)(hl:x.length<=1048576) :
 LoopOk (Mu x) (NX x) (TD x) (0,0)/\LoopOk (J4 x) (J5 x) (Tv x) ([],0,0) /\
 (Am (J4 x) (J5 x) ([],0,0)).2.2=(Am (Mu x) (NX x) (0,0)).2/\(Am (J4 x) (J5 x) ([],0,0)).1=Cx x:=by
 obtain⟨a1,a2,⟨i,h1,h2,h3⟩,a4⟩:=ae (c:=Mu x) (f:=NX x) (p:=TD x) (d:=J4 x) (g:=J5 x) (q:=Tv x) (x0:=(0,0)) (y0:=([],0,0))
  (λ s t=>∃ i:Nat,i<=x.length/\s.1=(i:Int)/\t=((Cx x).take i,s.1,s.2)) (λ s=>x.length-s.1.toNat) (by
   rintro⟨n,m⟩ t ⟨i,hi,h1,rfl⟩
   simp only at h1
   subst h1
   have hcl:(Cx x).length=x.length:=by simp[Cx]
   have hlen:((Cx x).take i).length=i:=by rw[Eu];omega
   have s1:iAdd .i64 (i:Int) 1=(i:Int)+1:=Bu (by unfold AO;omega)
   simp only[Mu,NX,TD,J4,J5,Tv,Aq,As,Ax,Bl,Ap,s1,hlen,AG,AK,BA,A7]
   refine⟨⟨λ h=>⟨⟨⟨by omega,by omega⟩,by omega,λ _=>trivial,λ _=>⟨⟨by omega,by omega⟩,by omega⟩⟩,λ _=>⟨⟨by omega,by omega⟩,by omega⟩,λ _=>trivial⟩,λ _=>trivial⟩,⟨λ h=>⟨⟨by omega,by omega⟩,by omega,by unfold Av;omega⟩,λ _=>trivial⟩,trivial,λ h=>⟨⟨i+1,by omega,by omega,?_⟩,by omega⟩⟩
   have hi':i<x.length:=by omega
   rw[<- Jt (Cx x) 0 (by omega),iZ x hi']) ⟨0,by omega,rfl,rfl⟩
 refine⟨a1,a2,by rw[h3],?_⟩
 rw[h3]
 simp only[Mu,h2,Aq,As,Bm] at a4
 rw[PB]
 simp only[Cx,Ba];omega
theorem MJ(x:BL)(hl:x.length<=1048576):Lh x/\Lj x/\BS x=B0 x/\(BS x).2.length<=1048576:=by
 rw[qU,ru,eV,qW,O2];have o1:=TX x hl;have o2:=TT x hl;by_cases h:Cp x=true
 . obtain⟨m1,m2,m3,m4⟩:=Zbu x hl;obtain⟨s1,s2,s3⟩:=lv x hl
   have hcl:(Cx x).length=x.length:=by simp[Cx]
   obtain⟨c1,⟨c2,c3⟩,c4⟩:=jv (Cx x) (by omega);have hh:=Rk hl h
   have e:Lm (Cx x)=(Am J3 (Le x) (1,[])).2:=mu c2 s2 λ z=>by
    rw[c3,s3];constructor
    . rintro⟨a,b⟩;refine⟨a,?_⟩;obtain⟨k,hk,rfl⟩:=List.mem_map.1 a;have:=Y9 (hh k hk).2.2.1;omega
    . rintro⟨a,b,c⟩;exact⟨a,by omega⟩
   rw[m3,m4,<- e];refine⟨⟨o1,λ _=>trivial,λ _=>⟨m1,s1⟩⟩,⟨o2,λ _=>trivial,λ _=>⟨m2,c1⟩⟩,rfl,?_⟩;rw[BB];split
   . simp
   . simp only;omega
 . have hb:bNot (Cp x)=true:=by rw[AF];simpa using h
   rw[hb];simp[Dm,o1,o2]
theorem jG {α S:Type} {c:S×Int->Bool} {f:S×Int->S×Int} {p:S×Int->Prop} (x:List α) (d:α) (g:S->α->S) (s0:S) (hl:x.length<=1048576)
 (hc:∀ (s:S) (i:Nat),i<=x.length->c (s,(i:Int))=decide (i<x.length)) (hf:∀ (s:S) (i:Nat),i<x.length->f (s,(i:Int))=(g s (x.getD i d),iAdd .i64 (i:Int) 1)) (hp:∀ (s:S) (i:Nat),i<=x.length->p (s,(i:Int))) :
 LoopOk c f p (s0,0)/\Am c f (s0,0)=(x.foldl g s0,(x.length:Int)):=by
 have:=Jv (c:=c) (f:=f) (p:=p) x.length (λ i=>((x.take i).foldl g s0,(i:Int))) (x0:=(s0,0)) rfl (λ k hk=>by
  refine⟨hp _ k (by omega),by rw[hc _ k (by omega)];simpa using hk,?_⟩;rw[hf _ k hk,Bu (by unfold AO;omega),<- Jt x d hk,List.foldl_append]
  simp) ⟨hp _ _ (by omega),by rw[hc _ _ (by omega)];simp⟩
 refine⟨this.1,?_⟩
 rw[this.2,HD]
theorem yu {α S:Type} {c:Int×S->Bool} {f:Int×S->Int×S} {p:Int×S->Prop} (x:List α) (d:α) (g:S->α->S) (s0:S) (hl:x.length<=1048576)
 (hc:∀ (s:S) (i:Nat),i<=x.length->c ((i:Int),s)=decide (i<x.length)) (hf:∀ (s:S) (i:Nat),i<x.length->f ((i:Int),s)=(iAdd .i64 (i:Int) 1,g s (x.getD i d))) (hp:∀ (s:S) (i:Nat),i<=x.length->p ((i:Int),s)) :
 LoopOk c f p (0,s0)/\Am c f (0,s0)=((x.length:Int),x.foldl g s0):=by
 have:=Jv (c:=c) (f:=f) (p:=p) x.length (λ i=>((i:Int),(x.take i).foldl g s0)) (x0:=(0,s0)) rfl (λ k hk=>by
  refine⟨hp _ k (by omega),by rw[hc _ k (by omega)];simpa using hk,?_⟩;rw[hf _ k hk,Bu (by unfold AO;omega),<- Jt x d hk,List.foldl_append]
  simp) ⟨hp _ _ (by omega),by rw[hc _ _ (by omega)];simp⟩
 refine⟨this.1,?_⟩
 rw[this.2,HD]
theorem ko(c:Int)(x:Bg)(s:Bool):x.foldl (λ s a=>bOr s (iEq a c)) s=(s||decide (c∈x)):=by
 induction x generalizing s with
 |nil=>simp
 | cons a x ih=>
   rw[List.foldl_cons,ih,AZ,BC,Bool.or_assoc];congr 1;rw[JN];simp only[Cm,Ap,Cv];constructor
   . rintro(h|h)
     . exact .inl h.symm
     . exact .inr h
   . rintro(h|h)
     . exact .inl h.symm
     . exact .inr h
theorem bp:∀ (l:Bg) (lo hi:Int),l.Pairwise (· < ·)->(∀ z∈l,lo<=z/\z<=hi)->lo<=hi+1->(l.length:Int)<=hi-lo+1
 |[],lo,hi,_,_,h=>by simp;omega
 | a::l,lo,hi,hp,hm,h=>by
   rw[List.pairwise_cons] at hp
   have ha:=hm a (by simp)
   have:=bp l (a+1) hi hp.2 (λ z hz=>⟨by have:=hp.1 z hz;omega,(hm z (by simp[hz])).2⟩) (by omega)
   rw[AG]
   omega
section
set_option maxRecDepth 20000
theorem jT(l:BL)(hl:l.length<=1048576)(hh:Cp l=true):(BS l).2.Pairwise (· < ·)/\∀ z∈(BS l).2,1<=z/\z<=56:=by
 obtain⟨_,_,r3,_⟩:=MJ l hl;obtain⟨_,s2,s3⟩:=lv l hl;rw[r3,eV,O2,hh]
 have hb:bNot true=false:=by rw[AF];rfl
 rw[hb,CQ];exact⟨s2,λ z hz=>((s3 z).1 hz).2⟩
def X4(m:Int)(a:Fb):Int:=iOr .i64 m a.2.2.2.1
theorem yx(l dn:BL)(hl:l.length<=1048576)(hh:Cp l=true)(hd:dn.length<=1000)(hc:∀ a∈dn,0<=a.2.2.1/\a.2.2.1<=56) :
 N4 (l,dn)/\NZ (BS l,dn.map Bh)/\Kf (BS l,dn.map Bh)=Fk (l,dn)/\(Fk (l,dn)).2.Pairwise (· < ·)/\(∀ z,z∈(Fk (l,dn)).2↔(z∈(BS l).2\/z∈Cx dn/\z≠0))/\(Fk (l,dn)).1=dn.foldl X4 (BS l).1:=by
 obtain⟨o1,_,r3,_⟩:=MJ l hl
 obtain⟨b1,b2⟩:=jT l hl hh
 have b3:=bp _ 1 56 b1 b2 (by omega)
 have hcd:(Cx dn).length=dn.length:=by simp[Cx]
 obtain⟨m1,m2⟩:=yu (c:=TC (l,dn)) (f:=TB (l,dn)) (p:=Yc (l,dn)) dn (0,0,0,0,0) X4 (B0 l).1 (by omega)
  (λ s i hi=>by simp only[TC,Aq,As,G2])
  (λ s i hi=>by simp only[TB,X4,A7,Ax,Bl])
  (λ s i hi=>by
   simp only[Yc,Aq,As,Ax,Bl,Ap]
   exact⟨λ h=>⟨⟨by omega,by omega⟩,by omega⟩,λ _=>trivial⟩)
 have in4:∀ (st:Eg),LoopOk (Je (l,dn)) (Jd (l,dn) st) (Tu (l,dn)) (false,0)/\(Am (Je (l,dn)) (Jd (l,dn) st) (false,0)).1=decide (st.2∈(BS l).2):=by
  intro st;rw[r3] at b3
  obtain⟨k1,k2⟩:=jG (c:=Je (l,dn)) (f:=Jd (l,dn) st) (p:=Tu (l,dn)) (B0 l).2 0 (λ s a=>bOr s (iEq a st.2)) false (by omega)
   (λ s i hi=>by simp only[Je,Aq,As,G2])
   (λ s i hi=>by simp only[Jd,A7,Ax,Bl])
   (λ s i hi=>by
    simp only[Tu,Aq,As,Ax,Bl,Ap]
    exact⟨λ h=>⟨λ _=>trivial,λ _=>⟨⟨by omega,by omega⟩,by omega⟩⟩,λ _=>trivial⟩)
  refine⟨k1,?_⟩;rw[k2,ko,r3,Bool.false_or]
 have in3:∀ (st:Eg) (b:Bool),LoopOk (Ld (l,dn)) (Lf (l,dn) st) (TF (l,dn)) (b,0)/\(Am (Ld (l,dn)) (Lf (l,dn) st) (b,0)).1=(b||decide (st.2∈Cx dn)):=by
  intro st b
  obtain⟨k1,k2⟩:=jG (c:=Ld (l,dn)) (f:=Lf (l,dn) st) (p:=TF (l,dn)) dn (0,0,0,0,0) (λ s a=>bOr s (iEq a.2.2.1 st.2)) b (by omega)
   (λ s i hi=>by simp only[Ld,Aq,As,G2])
   (λ s i hi=>by simp only[Lf,A7,Ax,Bl])
   (λ s i hi=>by
    simp only[TF,Aq,As,Ax,Bl,Ap]
    exact⟨λ h=>⟨λ _=>trivial,λ _=>⟨⟨by omega,by omega⟩,by omega⟩⟩,λ _=>trivial⟩)
  refine⟨k1,?_⟩;rw[k2];have:=ko st.2 (Cx dn) b;rw[Cx,List.foldl_map] at this;exact this
 have key:=Pd (c:=NV) (f:=Qg (l,dn)) (p:=dS (l,dn)) (x0:=([],1))
  (λ st=>1<=st.2/\st.2<=57/\(st.1.length:Int)<st.2/\st.1.Pairwise (· < ·)/\∀ z,z∈st.1↔((z∈(BS l).2\/z∈Cx dn)/\1<=z/\z<st.2)) (λ st=>57-st.2.toNat) (by
  rintro⟨ks,c⟩ ⟨h1,h2,h3,h4,h5⟩
  simp only at h1 h2 h3 h4 h5
  obtain⟨i1,i2⟩:=in4 (ks,c)
  obtain⟨j1,j2⟩:=in3 (ks,c) (Am (Je (l,dn)) (Jd (l,dn) (ks,c)) (false,0)).1
  rw[i2] at j2
  have r1:Av ((ks.length+[c].length)*1):=by unfold Av;simp only[AG,AK];omega
  refine⟨⟨λ _=>⟨i1,j1,λ _=>r1,λ _=>trivial⟩,λ _=>trivial⟩,λ h=>?_⟩
  simp only[NV,Ee,Ap] at h
  have s1:iAdd .i64 c 1=c+1:=Bu (by unfold AO;omega)
  simp only[Qg,s1,i2,j2,BB,BA,Cm,Ap]
  refine⟨⟨by omega,by omega,?_,?_,λ z=>?_⟩,by omega⟩
  . split
    . simp only[Cw,AG,AK];omega
    . omega
  . split
    . refine List.pairwise_append.2 ⟨h4,List.pairwise_singleton _ _,λ a ha b hb=>?_⟩;rw[List.mem_singleton] at hb;have:=((h5 a).1 ha).2.2;omega
    . exact h4
  . split
    . next hb=>
      rw[CC,List.mem_singleton,h5];constructor
      . rintro(⟨a1,a2,a3⟩|e)
        . exact⟨a1,a2,by omega⟩
        . subst e;exact⟨hb,by omega,by omega⟩
      . rintro⟨a1,a2,a3⟩;by_cases e:z=c
        . exact .inr e
        . exact .inl ⟨a1,a2,by omega⟩
    . next hb=>
      rw[h5];constructor
      . rintro⟨a1,a2,a3⟩;exact⟨a1,a2,by omega⟩
      . rintro⟨a1,a2,a3⟩
        have:z≠c:=λ e=>hb (e▸a1)
        exact⟨a1,a2,by omega⟩) ⟨by simp,by simp,by simp,List.Pairwise.nil,by simp⟩
 obtain⟨k1,⟨k2,k3,k4,k5,k6⟩,k7⟩:=key
 simp only[NV,Ee,Bm] at k7
 generalize hK:Am NV (Qg (l,dn)) ([],1)=K at k2 k3 k4 k5 k6 k7
 have kmem:∀ z,z∈K.1↔(z∈(BS l).2\/z∈Cx dn/\z≠0):=by
  intro z;rw[k6];constructor
  . rintro⟨a|a,b,c⟩
    . exact .inl a
    . exact .inr ⟨a,by omega⟩
  . rintro(a|⟨a,b⟩)
    . have:=b2 z a;exact⟨.inl a,by omega,by omega⟩
    . obtain⟨q,hq,rfl⟩:=List.mem_map.1 a;have:=hc q hq;exact⟨.inr a,by omega,by omega⟩
 have hp5:(dn.map Bh).length=dn.length:=Ba ..
 have cp:C4 (BS l).2=(BS l).2:=by rw[TU];try rfl
 have okc:Qw (BS l).2:=by rw[eJ];unfold Av;omega
 have W:=Jv (c:=Ms (BS l,dn.map Bh)) (f:=NT (BS l,dn.map Bh)) (p:=Ts (BS l,dn.map Bh)) dn.length
  (λ i=>((BS l).2++(Cx dn).take i,(i:Int),(dn.take i).foldl X4 (BS l).1)) (x0:=((BS l).2,0,(BS l).1)) (by simp) (λ i hi=>by
   have g1:(lGet (dn.map Bh) (iNat (i:Int)) (0,0))=Bh (dn.getD i (0,0,0,0,0)):=by rw[A7,Ax,Bl,ke]
   refine⟨?_,?_,?_⟩
   . simp only[Ts,Aq,As,hp5,Ax,Bl,Ap,Cw,Eu,AG,AK];exact⟨λ _=>⟨⟨by omega,by omega⟩,by omega,by unfold Av;omega⟩,λ _=>trivial⟩
   . simp only[Ms,Aq,As,hp5,Ap];omega
   . simp only[NT,g1,BA,Cl];rw[Bu (by unfold AO;omega),<- Jt (Cx dn) 0 (by omega),iZ dn hi,<- Jt dn (0,0,0,0,0) hi,List.foldl_append]
     rfl) (by
   refine⟨?_,?_⟩
   . simp only[Ts,Aq,As,hp5,Ap];exact⟨λ h=>absurd h (by omega),λ _=>trivial⟩
   . simp only[Ms,Aq,As,hp5];simp)
 have tk:(Cx dn).take dn.length=Cx dn:=by rw[<- hcd];exact HD ..
 obtain⟨w1,w2⟩:=W
 simp only[tk,HD] at w2
 obtain⟨c1,⟨c2,c3⟩,c4⟩:=jv ((BS l).2++Cx dn) (by rw[Cw];omega)
 have e:Lm ((BS l).2++Cx dn)=K.1:=mu c2 k5 λ z=>by
  rw[c3,kmem,CC];constructor
  . rintro⟨a|a,b⟩
    . exact .inl a
    . exact .inr ⟨a,b⟩
  . rintro(a|⟨a,b⟩)
    . have:=b2 z a;exact⟨.inl a,by omega⟩
    . exact⟨.inr a,b⟩
 rw[qV,qw,qO,qm]
 simp only[cp,w2,m2,hK]
 refine⟨⟨o1,m1,k1⟩,⟨okc,w1,c1⟩,?_,k5,kmem,by rw[r3]⟩
 rw[e,r3]
end
section
set_option maxRecDepth 20000
def mA(s:CN):Int×Int×Int×Int×Int:=(0,2,s.2.1,s.2.2,0)
def Ev(dn:BL)(s:CN):BL:=if s.1=1 then dn++[mA s] else if s.1=2 then Dg (dn,B5 (dn,s)) else dn
def La(dn:BL)(s:CN):Prop:=0<=s.1/\s.1<=2/\Bo (2,s.2.1,s.2.2,0)=true/\(s.1=2↔0<=B5 (dn,s))
def BR(x:CS)(i:Nat):BL:=(x.take i).foldl Ev []
theorem Ph(x:CS){i:Nat}(h:i<x.length):BR x (i+1)=Ev (BR x i) (x.getD i (0,0,0)):=by
 unfold BR;rw[<- Jt x (0,0,0) h,List.foldl_append];rfl
theorem Zbw {c:BL×Int->Bool} {f:BL×Int->BL×Int} (x:CS) (h1:¬ (Am c f ([],0)).2<lLen x) (hc:∀ (dn:BL) (i:Nat),c (dn,(i:Int))=true->i<x.length/\La dn (x.getD i (0,0,0)))
 (hf:∀ (dn:BL) (i:Nat),i<x.length->f (dn,(i:Int))=(Ev dn (x.getD i (0,0,0)),(i:Int)+1)):(Am c f ([],0)).1=BR x x.length/\∀ i,i<x.length->La (BR x i) (x.getD i (0,0,0)):=by
 have key:=MO (c:=c) (f:=f) (λ st=>∃ i:Nat,st=(BR x i,(i:Int))/\i<=x.length/\∀ j,j<i->La (BR x j) (x.getD j (0,0,0))) (λ st=>x.length-st.2.toNat) (λ st hI hcc=>by
  obtain⟨i,rfl,hi,hj⟩:=hI;obtain⟨g1,g2⟩:=hc _ i hcc;rw[hf _ i g1];refine⟨⟨i+1,by rw[Ph x g1];simp,by omega,λ j hj'=>?_⟩,by simp only;omega⟩;rcases BI j i with h|h
  . exact hj j h
  . have:j=i:=by omega
    subst this;exact g2) (x0:=([],0)) ⟨0,rfl,Gq _,λ j hj=>by omega⟩
 obtain⟨⟨i,e,hi,hj⟩,_⟩:=key
 rw[e,As] at h1
 rw[e]
 simp only at h1
 have:i=x.length:=by omega
 subst this
 exact⟨rfl,hj⟩
theorem xl(x:CS)(h:x.length<=1048576)(hm:Gb x=true):x.length<=8/\BR x x.length=[]/\∀ i,i<x.length->La (BR x i) (x.getD i (0,0,0)):=by
 rw[YO,AE,AE,Ah,Ah] at hm;obtain⟨h1,h2,h3⟩:=hm;rw[AF,Bx,Aq _ (lLen x),Bm] at h1;rw[Ee,As,Ap] at h2;rw[BC,As,Ap] at h3
 obtain⟨g1,g2⟩:=Zbw x h1 (λ dn i hc=>by
  simp only[As,A7,Ax,Bl,MA,Lz,FW,AE,AF,AZ,LU,Aq,BC,CG,Ah,Bx,B8,CI,Ap,AY] at hc;obtain⟨c1,⟨c2,c3⟩,c4,c5⟩:=hc;refine⟨by omega,c2,c3,c4,?_⟩;have:=congrArg (·=true) c5
  simpa using this) (λ dn i hi=>by
  simp only[A7,Ax,Bl,MA,BB,BC,Ap,BA];rw[Bu (by unfold AO;omega)]
  rfl)
 refine⟨by omega,?_,g2⟩;rw[<- g1];exact Fy (by omega)
end
section
set_option maxRecDepth 20000
theorem xp(dn:BL)(p:Int){a:Int×Int×Int×Int×Int}(h:a∈Dg (dn,p)):a∈dn:=by
 rw[Qm] at h;simp only[BA,Iz,HM,CP,CC] at h;rcases h with h|h
 . exact List.mem_of_mem_drop (KQ h)
 . exact List.mem_of_mem_drop (KQ h)
theorem Wl(dn:BL)(s:CN)(h:dn.length<=1048576):B5 (dn,s)=-1\/(0<=B5 (dn,s)/\B5 (dn,s)<dn.length):=by
 have:=Ws (dn.map Bh) (s.2.1,s.2.2) (by rw[Ba];exact h);rw[Ba] at this;have e:=M5 dn s.1 s.2.1 s.2.2;rw[show (s.1,s.2.1,s.2.2)=s from rfl] at e;rw[e];exact this
theorem gP{a:Int×Int×Int×Int}(h:Bo a=true):0<=a.2.2.1/\a.2.2.1<=15:=by
 rw[QA] at h;simp only[BB,AZ,AE,BC,C8,UF,CG,Ee] at h
 repeat' split at h
 all_goals simp only[Ah,Cm,Bx,CI,F2,B8,Ap,Bm,Gv,IV,AY,JA] at *
 all_goals omega
def XY(a:Fb):Prop:=(0<=a.2.2.1/\a.2.2.1<=56)/\0<=a.2.2.2.1/\a.2.2.2.1<=15
theorem ZbF(x:CS)(hl:x.length<=8)(hok:∀ i,i<x.length->La (BR x i) (x.getD i (0,0,0))):∀ i,i<=x.length->(BR x i).length<=i/\∀ a∈BR x i,XY a:=by
 intro i
 induction i with
 |zero=>intro _;exact⟨by simp[BR],by simp[BR]⟩
 | succ i ih=>
   intro hi;obtain⟨h1,h2⟩:=ih (by omega);obtain⟨k1,k2,k3,k4⟩:=hok i (by omega);rw[Ph x (by omega)];generalize hs:x.getD i (0,0,0)=s at k1 k2 k3 k4 ⊢;unfold Ev;split
   . refine⟨by simp only[Cw,AG,AK];omega,λ a ha=>?_⟩;rw[CC,List.mem_singleton] at ha;rcases ha with ha|rfl
     . exact h2 a ha
     . exact⟨Y9 k3,gP k3⟩
   . split
     . rename_i e2;have:=Wl (BR x i) s (by omega);have hp:0<=B5 (BR x i,s):=k4.1 e2;have hw:=iz (BR x i) (B5 (BR x i,s)) hp (by omega) (by omega);exact⟨by omega,λ a ha=>h2 a (xp _ _ ha)⟩
     . exact⟨by omega,h2⟩
theorem Zb(dm:NH)(q:A5)(h:dm.length<=1048576):Bf (dm,q)=if CL (λ i=>decide (dm.getD i (0,0)=q)) dm.length 0<dm.length then ((CL (λ i=>decide (dm.getD i (0,0)=q)) dm.length 0:Nat):Int) else -1:=by
 rw[YW]
 have e:=R9 (c:=λ x0:Int=>(bAnd (iLt x0 (lLen dm)) (bNot (bAnd (iEq (lGet dm (iNat x0) (0,0)).1 q.1) (iEq (lGet dm (iNat x0) (0,0)).2 q.2))))) (f:=λ x0=>iAdd .i64 x0 1) dm.length (λ i=>decide (dm.getD i (0,0)=q)) (by omega)
  (λ i hi=>by
   simp only[AE,Aq,As,AF,BC,A7,Ax,Bl,G2];congr 2;rw[<- Bool.decide_and]
   simp only[Prod.ext_iff]) (λ i hi=>rfl)
 simp only[e];rw[BB,Aq,As];simp only[Ap,G2]
theorem xK(dm:NH)(q:A5)(h:dm.length<=1000)(hp:Bf (dm,q)<0):Bf (dm++[q],q)=dm.length:=by
 rw[Zb _ _ (by omega)] at hp
 have hall:∀ i,i<dm.length->decide (dm.getD i (0,0)=q)=false:=by
  refine OP.1 ?_;have:=Jr (λ i=>decide (dm.getD i (0,0)=q)) dm.length 0;split at hp
  . omega
  . omega
 rw[Zb _ _ (by rw[Cw,AG,AK];omega)]
 have hl:(dm++[q]).length=dm.length+1:=by simp
 rw[hl]
 have hlast:(dm++[q]).getD dm.length (0,0)=q:=by rw[Ef];simp
 have hold:∀ i,i<dm.length->(dm++[q]).getD i (0,0)=dm.getD i (0,0):=λ i hi=>by rw[Ef,Ef,Bw hi]
 generalize hk:CL (λ i=>decide ((dm++[q]).getD i (0,0)=q)) (dm.length+1) 0=k;have a1:=Jr (λ i=>decide ((dm++[q]).getD i (0,0)=q)) (dm.length+1) 0;have a2:=Ri (λ i=>decide ((dm++[q]).getD i (0,0)=q)) (dm.length+1) 0 dm.length (by omega);have a3:=OU (λ i=>decide ((dm++[q]).getD i (0,0)=q)) (dm.length+1) 0;rw[hk] at a1 a2 a3
 have b1:¬ dm.length<k:=λ h=>by have:=a2 h;rw[hlast] at this;simp at this
 have b2:¬ k<dm.length:=λ h=>by
  have:=a3 (by omega);rw[hold k h,hall k h] at this;cases this
 have:k=dm.length:=by omega
 rw[Ac (by omega),this]
theorem ig(dn:BL)(a:Fb)(h:dn.length<=1000):Dg (dn++[a],(dn.length:Int))=dn:=by
 rw[Qm];have e:iAdd .i64 (dn.length:Int) 1=dn.length+1:=Bu (by unfold AO;omega);simp only[e,BA,Iz,HM,Ax,CP,Bl,G1,L5]
 have e2:((dn.length:Int)+1).toNat=dn.length+1:=by omega
 rw[e2,List.take_left',List.drop_eq_nil_of_le (by simp)]
 . simp
 . rfl
theorem jZ(dn:BL)(s:CN)(h:dn.length<=1000)(hp:B5 (dn,s)<0):B5 (dn++[mA s],s)=dn.length:=by
 have e:=M5 dn s.1 s.2.1 s.2.2;have e':=M5 (dn++[mA s]) s.1 s.2.1 s.2.2;rw[show (s.1,s.2.1,s.2.2)=s from rfl] at e e';rw[e] at hp;rw[e',Gt,Co,PJ];have:=xK (dn.map Bh) (s.2.1,s.2.2) (by rw[Ba];exact h) hp;rw[Ba] at this;exact this
def oK(l:BL)(r:DU):Prop:=r.2.length<=1048576/\∃ dn:BL,dn.length<=1000/\(∀ a∈dn,XY a)/\r=Fk (l,dn)
def n9(l:BL)(x:CS)(i:Nat)(out:E8):Prop:=(∀ r∈out,oK l r)/\(i=0->out=[])/\(0<i->∃ o,out=o++[Fk (l,BR x i)])
theorem sj(l:BL)(x:CS)(hl:l.length<=1048576)(hx:x.length<=1048576) :
 NR (l,x)/\NQ (l,x)/\NU (l,x)=Fj (l,x)/\((Fj (l,x)).length<=1048576/\∀ r∈Fj (l,x),r.2.length<=1048576)/\(Cp l=true->Gb x=true->n9 l x x.length (Fj (l,x))):=by
 have o1:=TX l hl
 have o2:=TT l hl
 have o3:=fP x hx
 have o4:=fV x hx
 rw[pc,o6,ph,oZ]
 simp only[O2,<- Zz x hx]
 by_cases hg:Cp l=true/\Gb x=true
 case neg=>
  have hb:bOr (bNot (Cp l)) (bNot (Gb x))=true:=by
   rw[AZ,AF,AF];cases h1:Cp l<;>cases h2:Gb x<;>simp_all
  rw[hb];simp only[Dm];refine⟨⟨⟨o1,λ _=>trivial,λ _=>o3⟩,λ _=>trivial,λ h=>by cases h⟩,⟨⟨o2,λ _=>trivial,λ _=>o4⟩,λ _=>trivial,λ h=>by cases h⟩,trivial,⟨by simp,by simp⟩,λ h1 h2=>absurd ⟨h1,h2⟩ hg⟩
 case pos=>
  obtain⟨hh,hm⟩:=hg
  have hb:bOr (bNot (Cp l)) (bNot (Gb x))=false:=by rw[AZ,AF,AF,hh,hm];rfl
  rw[hb];simp only[CQ];obtain⟨x8,_,hok⟩:=xl x hx hm;have inv:=ZbF x x8 hok;obtain⟨_,or2,_,_⟩:=MJ l hl
  have DF:∀ dn:BL,dn.length<=1000->(∀ a∈dn,XY a)->N4 (l,dn)/\NZ (BS l,dn.map Bh)/\Kf (BS l,dn.map Bh)=Fk (l,dn)/\oK l (Fk (l,dn)):=by
   intro dn h1 h2;obtain⟨a1,a2,a3,a4,a5,_⟩:=yx l dn hl hh h1 (λ a ha=>(h2 a ha).1)
   have:=bp _ 1 56 a4 (λ z hz=>by
    rcases (a5 z).1 hz with h|⟨h,hz⟩
    . exact(jT l hl hh).2 z h
    . obtain⟨q,hq,rfl⟩:=List.mem_map.1 h;have:=(h2 q hq).1
      omega) (by omega)
   exact⟨a1,a2,a3,by omega,dn,h1,h2,rfl⟩
  obtain⟨a1,a2,⟨i,hi,out,e1,e2,e3,e4⟩,a4⟩:=ae (c:=NP (l,x)) (f:=Tf (l,x)) (p:=Tg (l,x)) (d:=Tj (l,x)) (g:=Th (l,x)) (q:=Ti (l,x)) (x0:=([],[],0)) (y0:=([],[],0))
   (λ s t=>∃ i:Nat,i<=x.length/\∃ out:List DU,s=(out,BR x i,(i:Int))/\t=(out,(BR x i).map Bh,(i:Int))/\out.length<=2*i/\n9 l x i out) (λ s=>x.length-s.2.2.toNat) (by
    rintro s t ⟨i,hi,out,rfl,rfl,ho,hr⟩
    obtain⟨d1,d2⟩:=inv i hi
    have s1:iAdd .i64 (i:Int) 1=((i+1:Nat):Int):=by rw[Bu (by unfold AO;omega)];simp
    by_cases hlt:i<x.length
    case neg=>
     have hn:iLt (i:Int) (lLen x)=false:=by rw[Aq,As];simp;omega
     refine⟨?_,?_,rfl,λ h=>?_⟩
     . simp only[Tg,hn];exact⟨λ h=>(by cases h),λ _=>trivial⟩
     . simp only[Ti,hn];exact⟨λ h=>(by cases h),λ _=>trivial⟩
     . simp only[NP,hn] at h;cases h
    case pos=>
    have ht:iLt (i:Int) (lLen x)=true:=by rw[Aq,As];simp;omega
    have hk:=hok i hlt
    have hsucc:=Ph x hlt
    obtain⟨d1',d2'⟩:=inv (i+1) hlt
    have hget:lGet x (iNat (i:Int)) (0,0,0)=x.getD i (0,0,0):=by rw[A7,Ax,Bl]
    have hin:iNat (i:Int)<x.length:=by rw[Ax];simpa using hlt
    simp only[NP,Tf,Tg,Tj,Th,Ti,hget,ht,s1,MA,eQ]
    generalize hs:x.getD i (0,0,0)=s at hk hsucc
    generalize hdn:BR x i=dn at hk hsucc d1 d2
    obtain⟨K,c,m⟩:=s
    obtain⟨k1,k2,k3,k4⟩:=hk
    simp only at k1 k2 k3 k4
    have hcode:=Y9 k3
    simp only at hcode
    have Mo:∀ a∈dn++[mA (K,c,m)],XY a:=λ a ha=>by
     rw[CC,List.mem_singleton] at ha;rcases ha with ha|rfl
     . exact d2 a ha
     . exact⟨hcode,gP k3⟩
    have mapp:(dn++[mA (K,c,m)]).map Bh=lApp (dn.map Bh) [(c,m)]:=by rw[BA,Gt];rfl
    have lapp:lApp dn [(0,2,c,m,0)]=dn++[mA (K,c,m)]:=by rw[BA];rfl
    have hml:(dn.map Bh).length=dn.length:=Ba ..
    have len1:(lApp (dn.map Bh) [(c,m)]).length=dn.length+1:=by rw[<- mapp,Ba];simp
    obtain⟨p1,p2,p3,p4⟩:=DF (dn++[mA (K,c,m)]) (by rw[Cw,AG,AK];omega) Mo
    obtain⟨q1,q2,q3,q4⟩:=DF dn (by omega) d2
    rw[mapp] at p2 p3
    have lo:∀ r:Int×List Int,(lApp out [r]).length=out.length+1:=λ r=>by rw[BA];simp
    have lo2:∀ r r':Int×List Int,(lApp (lApp out [r]) [r']).length=out.length+2:=λ r r'=>by rw[BA,BA];simp
    have hlr:∀ r:Int×List Int,([r]:List DU).length=1:=λ _=>rfl
    have ro:∀ n:Nat,n<=1000->∀ w:Nat,w<=5->Av (n*w):=λ n hn w hw=>MV (by omega) (by omega)
    rcases (show K=0\/K=1\/K=2 by omega) with rfl|rfl|rfl
    ·
     have e01:iNe 0 1=true:=by rw[C8];rfl
     have e02:iNe 0 2=true:=by rw[C8];rfl
     have e00:iEq 0 0=true:=by rw[BC];rfl
     have hneg:B5 (dn,0,c,m)<0:=by
      rcases Wl dn (0,c,m) (by omega) with h|h
      . omega
      . exact absurd (k4.2 h.1) (by decide)
     have fl:=jZ dn (0,c,m) (by omega) hneg;have wl:=ig dn (mA (0,c,m)) (by omega);have okf:MF (dn++[mA (0,c,m)],0,c,m):=aV _ _ (by rw[Cw,AG,AK];omega);have okw:Mv (dn++[mA (0,c,m)],(dn.length:Int)):=VS _ _ (by omega) (by rw[Cw,AG,AK];omega) (by rw[Cw,AG,AK];omega)
     have hst:Ev dn (0,c,m)=dn:=by unfold Ev;simp
     rw[hst] at hsucc;simp only[e01,e02,e00,Dm,lapp,fl,wl,p3,q3]
     refine⟨⟨λ _=>⟨⟨by omega,by omega⟩,hin,⟨λ _=>⟨trivial,ro _ (by simp only[AG,AK];omega) _ (by omega),p1,ro _ (by rw[hlr];omega) _ (by omega)⟩,λ _=>trivial⟩,⟨λ _=>⟨okf,okw,q1,ro _ (by rw[lo,hlr];omega) _ (by omega)⟩,λ _=>trivial⟩⟩,λ _=>trivial⟩,
      ⟨λ _=>⟨⟨by omega,by omega⟩,hin,⟨λ _=>⟨ro _ (by omega) _ (by omega),ro _ (by rw[hml];simp only[AG,AK];omega) _ (by omega),p2,ro _ (by rw[hlr];omega) _ (by omega)⟩,λ h=>by cases h⟩,q2,ro _ (by rw[lo,hlr];omega) _ (by omega)⟩,λ _=>trivial⟩,trivial,λ _=>⟨⟨i+1,hlt,_,by rw[hsucc],by rw[hsucc],by rw[lo2];omega,⟨λ r hr'=>?_,λ h=>absurd h (Nat.succ_ne_zero i),λ _=>⟨_,by rw[hsucc,BA]⟩⟩⟩,by omega⟩⟩
     simp only[BA,CC,List.mem_singleton] at hr';rcases hr' with(h|rfl)|rfl
     . exact hr.1 r h
     . exact p4
     . exact q4
    ·
     have e01:iNe 1 1=false:=by rw[C8];rfl
     have e02:iNe 1 2=true:=by rw[C8];rfl
     have e00:iEq 1 0=false:=by rw[BC];rfl
     have e11:iEq 1 1=true:=by rw[BC];rfl
     have hst:Ev dn (1,c,m)=dn++[mA (1,c,m)]:=by unfold Ev;simp
     rw[hst] at hsucc;simp only[e01,e02,e00,e11,Dm,CQ,lapp,p3]
     refine⟨⟨λ _=>⟨⟨by omega,by omega⟩,hin,⟨λ _=>⟨trivial,ro _ (by simp only[AG,AK];omega) _ (by omega),p1,ro _ (by rw[hlr];omega) _ (by omega)⟩,λ _=>trivial⟩,⟨λ h=>(by cases h),λ _=>trivial⟩⟩,λ _=>trivial⟩,
      ⟨λ _=>⟨⟨by omega,by omega⟩,hin,⟨λ h=>(by cases h),λ _=>⟨λ _=>ro _ (by rw[hml];simp only[AG,AK];omega) _ (by omega),λ h=>by cases h⟩⟩,p2,ro _ (by rw[hlr];omega) _ (by omega)⟩,λ _=>trivial⟩,trivial,λ _=>⟨⟨i+1,hlt,_,by rw[hsucc],by rw[hsucc,mapp],by rw[lo];omega,⟨λ r hr'=>?_,λ h=>absurd h (Nat.succ_ne_zero i),λ _=>⟨_,by rw[hsucc,BA]⟩⟩⟩,by omega⟩⟩
     simp only[BA,CC,List.mem_singleton] at hr';rcases hr' with h|rfl
     . exact hr.1 r h
     . exact p4
    ·
     have e01:iNe 2 1=true:=by rw[C8];rfl
     have e02:iNe 2 2=false:=by rw[C8];rfl
     have e00:iEq 2 0=false:=by rw[BC];rfl
     have e11:iEq 2 1=false:=by rw[BC];rfl
     have e22:iEq 2 2=true:=by rw[BC];rfl
     have hp:0<=B5 (dn,2,c,m):=k4.1 rfl
     have hp2:B5 (dn,2,c,m)<dn.length:=by
      rcases Wl dn (2,c,m) (by omega) with h|h
      . omega
      . exact h.2
     have hst:Ev dn (2,c,m)=Dg (dn,B5 (dn,2,c,m)):=by unfold Ev;simp
     rw[hst] at hsucc;have hfe:=M5 dn 2 c m;have wm:=iF dn _ hp hp2;have okf:MF (dn,2,c,m):=aV _ _ (by omega);have okw:=VS dn _ hp hp2 (by omega);have okp:Oj (dn.map Bh,c,m):=mM _ _ (by omega);rw[hsucc] at d1' d2';obtain⟨w1,w2,w3,w4⟩:=DF _ (by omega) d2';rw[hfe] at hp hp2 okw w1 w2 w3 w4 wm hsucc;rw[wm] at w2 w3;generalize Bf (dn.map Bh,c,m)=p at hp hp2 okw w1 w2 w3 w4 wm hsucc hfe ⊢;have sp:iAdd .i64 p 1=p+1:=Bu (by unfold AO;omega);simp only[e01,e02,e00,e11,e22,Dm,CQ,hfe,w3]
     refine⟨⟨λ _=>⟨⟨by omega,by omega⟩,hin,⟨λ h=>(by cases h),λ _=>trivial⟩,⟨λ _=>⟨okf,okw,w1,ro _ (by rw[hlr];omega) _ (by omega)⟩,λ _=>trivial⟩⟩,λ _=>trivial⟩,
      ⟨λ _=>⟨⟨by omega,by omega⟩,hin,⟨λ h=>(by cases h),λ _=>⟨λ h=>(by cases h),λ _=>⟨λ _=>⟨okp,?_⟩,λ h=>by cases h⟩⟩⟩,w2,ro _ (by rw[hlr];omega) _ (by omega)⟩,λ _=>trivial⟩,trivial,λ _=>⟨⟨i+1,hlt,_,by rw[hsucc],by rw[hsucc,wm],by rw[lo];omega,⟨λ r hr'=>?_,λ h=>absurd h (Nat.succ_ne_zero i),λ _=>⟨_,by rw[hsucc,BA]⟩⟩⟩,by omega⟩⟩
     . rw[sp];simp only[Ax,HM,Iz,G1,L5,Eu,Nf,hml];exact⟨⟨hp,by omega,by omega,by omega⟩,⟨by omega,by omega,by omega,by omega⟩,by omega,by omega,MV (by omega) (by omega)⟩
     . simp only[BA,CC,List.mem_singleton] at hr';rcases hr' with h|rfl
       . exact hr.1 r h
       . exact w4) ⟨0,Gq _,[],rfl,rfl,by simp,⟨by simp,λ _=>rfl,λ h=>absurd h (by omega)⟩⟩
  refine⟨⟨⟨o1,λ _=>trivial,λ _=>o3⟩,λ h=>(by cases h),λ _=>a1⟩,⟨⟨o2,λ _=>trivial,λ _=>o4⟩,λ h=>(by cases h),λ _=>⟨or2,a2⟩⟩,by rw[e1,e2],?_⟩;rw[e1] at a4 ⊢;simp only[NP,Aq,As,Bm] at a4
  have hix:i=x.length:=by omega
  subst hix;exact⟨⟨by simp only;omega,λ r hr=>(e4.1 r hr).1⟩,λ _ _=>e4⟩
theorem qQ(l:BL)(x:CS)(hl:l.length<=1048576)(hx:x.length<=1048576) :
 NR (l,x)/\NQ (l,x)/\NU (l,x)=Fj (l,x)/\((Fj (l,x)).length<=1048576/\∀ r∈Fj (l,x),r.2.length<=1048576):=let ⟨a,b,c,d,_⟩:=sj l x hl hx;⟨a,b,c,d⟩
end
end
end Go.Ag
