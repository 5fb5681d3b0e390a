/- Part 7 of what FnOnce needs. No conditions. -/
import Derived.Test.YtbkpfpcnjpggaaaGreatLibF
namespace Go.Ag
set_option linter.unusedSimpArgs false
set_option linter.unusedVariables false
noncomputable section
section
set_option maxRecDepth 8000
def tW:DCode:=(.seq [0] (.region [oa 0 2 (.mv (.c .nils))]) (.seq [3,0] (.region [⟨0,some 7,.a false (.litSlice 3 0 [] []) (some BC),none,[]⟩,om 1 3 7]) (.seq [3] (.seq [4,3,0] (.region [om 0 8 0,op 1 9 Cb Dz E4 [(.t 8),(.c (.int .i64 3))],om 2 4 9]) (.block 0 (.loop [0,3,4] 1 (.seq [4,3,0] (.seq [11,4,3,0] (.region [om 0 10 4,oa 1 11 (.bin .gtr (.t 10) AD)]) (.cond (.t 11) .skip (.exit 0))) (.seq [4,3,0] (.block 1 (.seq [5,4,3,0] (.region [om 0 14 0,op 1 15 Cb Dz E4 [(.t 14),(.c (.int .i64 56))],oa 2 16 (.bin .add Au (.t 15)),om 3 17 0,⟨4,some 18,.a false (.litSlice 1 4 [Ab,Ab,Ab,Ab] [(0,1,AD),(1,1,AD),(2,1,(.c (.int .i64 2))),(3,1,Au)]) (some (.one (.int .i64))),none,[]⟩,⟨5,some 19,.callp true Od Qy eV [(.t 17),(.t 18)],none,[]⟩,oa 6 20 (.build [Ab,Ab,Ab] [(1,1,(.t 16)),(2,1,(.t 19))]),oa 7 5 (.allocB 0 [Ab,Ab,Ab]),os 8 (.storeB 0 3 (.t 5) (.t 20))]) (.seq [5,4,3,0] (.seq [22,5,4,3,0] (.region [om 0 21 0,op 1 22 Hq Jr VA [(.t 21),(.c (.int .i64 2))]]) (.cond (.t 22) (.seq [4,3,0] (.region [om 0 23 3,ob 1 24 (.loadB 0 (some 3) (.t 5)),⟨2,some 25,.a false (.litSlice 3 1 [Ab,Ab,Ab] [(0,3,(.t 24))]) (some BC),none,[]⟩,oa 3 26 (.app 3 (.t 23) (.t 25)),om 4 3 26]) (.exit 1)) .skip)) (.seq [5,4,3,0] (.region [oa 0 27 (.fieldA 0 (.t 5)),os 1 (.storeB 0 1 (.t 27) Au)]) (.seq [6,5,4,3,0] (.region [ob 0 28 (.loadB 0 (some 3) (.t 5)),oa 1 6 (.allocB 1 [Ab,Ab,Ab]),os 2 (.storeB 1 3 (.t 6) (.t 28))]) (.seq [6,5,4,3,0] (.region [oa 0 29 (.fieldA 0 (.t 6)),os 1 (.storeB 1 1 (.t 29) (.c (.int .i64 2)))]) (.region [ob 1 31 (.loadB 0 (some 3) (.t 5)),on 2 32 3,oa 3 33 (.len (.t 32)),om 0 30 3,oa 4 34 (.bin .sub (.c (.int .i64 60)) (.t 33)),oa 5 35 (.bin .sub (.t 34) (.c (.int .i64 10))),oa 6 36 (.build [Ab,Ab,Ab] [(1,1,(.t 35)),(2,1,(.c (.int .i64 8)))]),ob 7 37 (.loadB 1 (some 3) (.t 6)),⟨8,some 38,.a false (.litSlice 3 3 [Ab,Ab,Ab,Ab,Ab,Ab,Ab,Ab,Ab] [(0,3,(.t 31)),(3,3,(.t 36)),(6,3,(.t 37))]) (some BC),none,[]⟩,oa 9 39 (.app 3 (.t 30) (.t 38)),om 10 3 39]))))))) (.region [om 0 12 4,oa 1 13 (.bin .sub (.t 12) Au),om 2 4 13])))))) (.seq [2] (.region [om 0 40 3,om 1 2 40]) .ret))))
def Lz:DFun:=⟨1,41,2,false,[.tmp 2],tW⟩
@[irreducible] def OP:Bb:=EN Lz.er.er
@[irreducible] def Re:B9:=C9 Lz.er
theorem tV:D4 OP Re:=by unfold OP Re;exact FY (f:=Lz.er) ⟨Fs,Fs,qW,UX,trivial⟩
def Vz:List HT:=[]
def Vl:List (Ql×CT):=[(.frz,.sl (.one (.int .u8))),Ao,Ao]
def Vv:QT:=.one (.one .own (.sl BC))
@[irreducible] def Jp(x:CA):CX×A6:=(shut λ x=>HV Lz Vz Vl Vv x).1 x
@[irreducible] def Ow(x:CA):Prop:=(shut λ x=>HK Lz Vz Vl Vv x).1 x
def ib:CN:=IK Vz Vl Vv Ow Jp
theorem uJ:DR Re ib:=by unfold Re;exact KJ (f:=Lz) (hs:=Vz) (cs:=Vl) (q:=Vv) ⟨Fq,Fq,qK,Y7,trivial⟩ (by kernel_rfl) (λ x=>by kernel_rfl) (λ x h=>by unfold Ow at h;exact Eq.mp (congrFun (shut _).2 x) h) (λ x=>by unfold Jp;exact(congrFun (shut _).2 x).symm)
end
section
set_option maxRecDepth 100000
def QA(x0:CX×CS):Bool:=(iGt x0.2.1 0)
def QD(x:CA)(x0:CX×CS):(CX×CS):=((bSel (Ct ((x.1,(Dk ((x.1,(Ar ((x.1,x0.2.2),56)).2),[0,0,2,1])).2),2)).1 (lApp x0.1 [(0,(iAdd .i64 1 (Ar ((x.1,x0.2.2),56)).1),(Dk ((x.1,(Ar ((x.1,x0.2.2),56)).2),[0,0,2,1])).1)]) (lApp x0.1 [(1,(iAdd .i64 1 (Ar ((x.1,x0.2.2),56)).1),(Dk ((x.1,(Ar ((x.1,x0.2.2),56)).2),[0,0,2,1])).1),(0,(iSub .i64 (iSub .i64 60 (lLen x0.1)) 10),8),(2,(iAdd .i64 1 (Ar ((x.1,x0.2.2),56)).1),(Dk ((x.1,(Ar ((x.1,x0.2.2),56)).2),[0,0,2,1])).1)])),(iSub .i64 x0.2.1 1),(bSel (Ct ((x.1,(Dk ((x.1,(Ar ((x.1,x0.2.2),56)).2),[0,0,2,1])).2),2)).1 (Ct ((x.1,(Dk ((x.1,(Ar ((x.1,x0.2.2),56)).2),[0,0,2,1])).2),2)).2.1 (Ct ((x.1,(Dk ((x.1,(Ar ((x.1,x0.2.2),56)).2),[0,0,2,1])).2),2)).2.1),(bSel (Ct ((x.1,(Dk ((x.1,(Ar ((x.1,x0.2.2),56)).2),[0,0,2,1])).2),2)).1 (Ct ((x.1,(Dk ((x.1,(Ar ((x.1,x0.2.2),56)).2),[0,0,2,1])).2),2)).2.2 (Ct ((x.1,(Dk ((x.1,(Ar ((x.1,x0.2.2),56)).2),[0,0,2,1])).2),2)).2.2))
def YF(x:CA)(x0:CX×CS):Prop:=(((iGt x0.2.1 0)=true->((D0 ((x.1,x0.2.2),56))/\((N5 ((x.1,(Ar ((x.1,x0.2.2),56)).2),[0,0,2,1]))/\((Ks ((x.1,(Dk ((x.1,(Ar ((x.1,x0.2.2),56)).2),[0,0,2,1])).2),2))/\(((Ct ((x.1,(Dk ((x.1,(Ar ((x.1,x0.2.2),56)).2),[0,0,2,1])).2),2)).1=true->(Aw (((List.length x0.1)+(List.length [(0,(iAdd .i64 1 (Ar ((x.1,x0.2.2),56)).1),(Dk ((x.1,(Ar ((x.1,x0.2.2),56)).2),[0,0,2,1])).1)]))*3)))/\((Ct ((x.1,(Dk ((x.1,(Ar ((x.1,x0.2.2),56)).2),[0,0,2,1])).2),2)).1=false->(Aw (((List.length x0.1)+(List.length [(1,(iAdd .i64 1 (Ar ((x.1,x0.2.2),56)).1),(Dk ((x.1,(Ar ((x.1,x0.2.2),56)).2),[0,0,2,1])).1),(0,(iSub .i64 (iSub .i64 60 (lLen x0.1)) 10),8),(2,(iAdd .i64 1 (Ar ((x.1,x0.2.2),56)).1),(Dk ((x.1,(Ar ((x.1,x0.2.2),56)).2),[0,0,2,1])).1)]))*3))))))))/\((iGt x0.2.1 0)=false->True))
theorem uS (x):Jp x=((Am QA (QD x) ([],(Ar (x,3)))).1,(Am QA (QD x) ([],(Ar (x,3)))).2.2):=by unfold Jp;exact(congrFun (shut _).2 x).trans (by kernel_rfl)
theorem tX (x):Ow x=((D0 (x,3))/\(LoopOk QA (QD x) (YF x) ([],(Ar (x,3))))):=by unfold Ow;exact(congrFun (shut _).2 x).trans (by kernel_rfl)
end
section
set_option maxRecDepth 8000
def vk:DCode:=(.seq [2,1] (.region [oa 0 1 (.boxB 0 2 (.t 0)),oa 1 2 (.allocB 1 [Ab,.nils])]) (.seq [2] (.region [oa 0 3 (.fieldA 0 (.t 1)),xB 1 4 (.loadB 0 none (.t 3)) (rg 1),oa 3 6 (.fieldA 1 (.t 1)),xA 4 7 (.loadB 0 none (.t 6)) [3],⟨2,some 5,.a false (.litSlice 1 0 [] []) (some (.one (.int .i64))),none,[]⟩,xA 5 8 (.app 1 (.t 5) (.t 7)) [2,3,4],xA 6 9 (.build [Ab,.nils] [(0,1,(.t 4)),(1,1,(.t 8))]) (rg 6),xS 7 (.storeB 1 2 (.t 2) (.t 9)) (rg 7)]) .ret))
def KA:Fn:=⟨⟨1,10,2,false,[.cell 2 (some 2)],vk⟩,[.agg [Av,(.frz,.sl (.one (.int .i64)))]],.one (.agg [Ao,(.own,.sl (.one (.int .i64)))])⟩
theorem uI:KA.A:=AR trivial
def Ra:DZ->Int×List (Int):=KA.V
def Zc:DZ->Prop:=KA.O
theorem vH:KA.B:=AV trivial (by kernel_rfl) (λ x=>by kernel_rfl)
def qM:DCode:=(.seq [2,1] (.region [oa 0 2 (.boxB 0 2 (.t 0)),oa 1 4 (.mv (.c .nils))]) (.seq [5,2,1] (.region [⟨0,some 7,.a false (.litSlice 2 0 [] []) (some (.cons (.int .i64) (.one (.sl (.one (.int .i64)))))),none,[]⟩,om 1 5 7]) (.seq [5] (.seq [6,5,2,1] (.region [oi 0 6 0]) (.block 0 (.loop [1,2,5,6] 1 (.seq [6,5,2,1] (.seq [11,6,5,2,1] (.region [om 0 8 6,on 1 9 1,oa 2 10 (.len (.t 9)),oa 3 11 (.bin .lss (.t 8) (.t 10))]) (.cond (.t 11) .skip (.exit 0))) (.seq [6,5,2,1] (.block 1 (.seq [6,5,2,1] (.seq [20,6,5,2,1] (.region [oa 0 14 (.loadB 0 (some 2) (.t 2)),on 1 15 1,om 2 16 6,xA 3 17 (.indexA 2 (.t 15) (.t 16)) [1,2],xA 4 18 (.loadH (some 2) (.t 17)) [1,2,3],xF 5 19 Kg [(.t 14),(.t 18)] (rg 5),xA 6 20 (.un .not (.t 19)) (rg 6)]) (.cond (.t 20) (.region [om 0 21 5,on 1 22 1,om 2 23 6,oa 3 24 (.indexA 2 (.t 22) (.t 23)),oa 4 25 (.loadH (some 2) (.t 24)),oF 5 26 KA [(.t 25)],⟨6,some 27,.a false (.litSlice 2 1 [Ab,.nils] [(0,2,(.t 26))]) (some (.cons (.int .i64) (.one (.sl (.one (.int .i64)))))),none,[]⟩,oa 7 28 (.app 2 (.t 21) (.t 27)),om 8 5 28]) .skip)) (.region [on 0 29 1,om 1 30 6,oa 2 31 (.indexA 2 (.t 29) (.t 30)),ob 3 32 (.loadH (some 2) (.t 31)),os 4 (.storeB 0 2 (.t 2) (.t 32))]))) (.region [om 0 12 6,oa 1 13 (.bin .add (.t 12) Au),om 2 6 13])))))) (.seq [4] (.region [om 0 33 5,om 1 4 33]) .ret))))
def Ic:Fn:=⟨⟨2,34,1,false,[.tmp 4],qM⟩,[.agg [Av,(.frz,.sl (.one (.int .i64)))],.one .frz (.sl (.cons (.int .i64) (.one (.sl (.one (.int .i64))))))],.one (.one .own (.sl (.cons (.int .i64) (.one (.sl (.one (.int .i64)))))))⟩
theorem eM:Ic.A:=AR ⟨pT,uI,trivial⟩
def Qr:JQ->List DZ:=Ic.V
def Qq:JQ->Prop:=Ic.O
theorem eF:Ic.B:=AV ⟨pN,vH,trivial⟩ (by kernel_rfl) (λ x=>by kernel_rfl)
def tC:DCode:=(.seq [4,2,1] (.region [oa 0 2 (.boxB 0 7 (.t 0)),oa 1 4 (.allocB 1 [Ab,.nils,.nils,Ab,.nils,Ab,Cr]),oa 2 5 (.mv (.c .nils)),oa 3 6 (.mv An)]) (.seq [7,4,2] (.region [oa 0 9 (.loadB 0 (some 7) (.t 2)),om 1 10 1,oF 2 11 GQ [(.t 9),(.t 10)],om 3 7 11]) (.seq [7,4,2] (.seq [18,7,4,2] (.region [oa 0 12 (.loadB 0 (some 7) (.t 2)),oF 1 13 GN [(.t 12)],oa 2 14 (.un .not (.t 13)),om 3 15 14,og 4 16 (.mv (.t 7)) 15 false,og 5 17 (.bin .lss (.t 16) AD) 15 false,oa 6 18 (.pick (.t 15) AS (.t 17))]) (.cond (.t 18) (.seq [6,5,4] (.region [oa 0 19 (.build [Ab,.nils,.nils,Ab,.nils,Ab,Cr] []),⟨1,some 20,.a false (.litSlice 2 0 [] []) (some (.cons (.int .i64) (.one (.sl (.one (.int .i64)))))),none,[]⟩,os 2 (.storeB 1 7 (.t 4) (.t 19)),om 3 5 20,oa 4 6 (.mv An)]) .ret) .skip)) (.seq [8,7,4,2] (.region [oa 0 21 (.loadB 0 (some 7) (.t 2)),oF 1 22 GR [(.t 21)],oa 2 8 (.allocB 2 [Ab,.nils,.nils,Ab,.nils,Ab,Cr]),os 3 (.storeB 2 7 (.t 8) (.t 22))]) (.seq [8,4,2] (.region [oa 0 23 (.fieldA 4 (.t 8)),oa 1 24 (.loadB 2 none (.t 23)),om 2 25 7,oF 3 26 GL [(.t 24),(.t 25)],oa 4 27 (.fieldA 4 (.t 8)),os 5 (.storeB 2 1 (.t 27) (.t 26))]) (.seq [6,5,4] (.region [oa 0 28 (.loadB 2 (some 7) (.t 8)),oa 1 29 (.fieldA 4 (.t 2)),xA 2 30 (.loadB 0 none (.t 29)) [1],oa 4 32 (.fieldA 4 (.t 8)),xA 5 33 (.loadB 2 none (.t 32)) [4],xF 3 31 E1 [(.t 30)] [1,2],xF 6 34 E1 [(.t 33)] [1,2,3,4,5],⟨7,some 35,.a false (.litSlice 2 1 [Ab,.nils] [(0,2,(.t 34))]) (some (.cons (.int .i64) (.one (.sl (.one (.int .i64)))))),none,[1,2,3,4,5,6]⟩,xF 8 36 Ic [(.t 31),(.t 35)] [1,2,3,4,5,6,7],⟨9,none,.clm (.t 8) 28 (.storeB 1 7 (.t 4) (.t 28)),none,[0,1,2,3,4,5,6,7,8]⟩,xA 10 5 (.mv (.t 36)) (rg 10),xA 11 6 (.mv AS) (rg 11)]) .ret))))))
def Kw:Fn:=⟨⟨2,37,3,false,[.cell 4 (some 7),.tmp 5,.tmp 6],tC⟩,[.agg [Av,(.frz,.sl (.one (.sl Bs))),(.frz,.sl (.one (.sl BC))),Av,(.frz,.sl Bn),Av,(.frz,.bool)],.one .frz (.int .i64)],.tup [.agg [Ao,(.own,.sl (.one (.sl Bs))),(.own,.sl (.one (.sl BC))),Ao,(.own,.sl Bn),Ao,(.own,.bool)],.one .own (.sl (.cons (.int .i64) (.one (.sl (.one (.int .i64)))))),.one .own (.bool)]⟩
theorem tH:Kw.A:=AR ⟨gB,YE,Y6,YA,QG,QG,eM,trivial⟩
def QY:HI->Cf×Fe×Bool:=Kw.V
def QK:HI->Prop:=Kw.O
theorem tD:Kw.B:=AV ⟨gm,YG,Y8,Yy,QC,QC,eF,trivial⟩ (by kernel_rfl) (λ x=>by kernel_rfl)
def qk:DCode:=(.seq [2,1] (.region [oa 0 1 (.boxB 0 7 (.t 0)),oa 1 2 (.allocB 1 [Ab,.nils,.nils,Ab,.nils,Ab,Cr])]) (.seq [2,1] (.region [oa 0 3 (.fieldA 0 (.t 1)),oa 1 4 (.loadB 0 (some 2) (.t 3)),oF 2 5 Kd [(.t 4)],oa 3 6 (.fieldA 0 (.t 1)),os 4 (.storeB 0 2 (.t 6) (.t 5))]) (.seq [2,1] (.region [oa 0 7 (.fieldA 2 (.t 1)),oa 1 8 (.loadB 0 none (.t 7)),oF 2 9 Kc [(.t 8)],oa 3 10 (.fieldA 2 (.t 1)),os 4 (.storeB 0 1 (.t 10) (.t 9))]) (.seq [2,1] (.region [oa 0 11 (.fieldA 4 (.t 1)),oa 1 12 (.loadB 0 none (.t 11)),oa 2 13 (.app 5 (.c .nils) (.t 12)),oa 3 14 (.fieldA 4 (.t 1)),os 4 (.storeB 0 1 (.t 14) (.t 13))]) (.seq [2] (.region [ob 0 15 (.loadB 0 (some 7) (.t 1)),os 1 (.storeB 1 7 (.t 2) (.t 15))]) .ret)))))
def H5:Fn:=⟨⟨1,16,2,false,[.cell 2 (some 7)],qk⟩,[.agg [Av,(.frz,.sl (.one (.sl Bs))),(.frz,.sl (.one (.sl BC))),Av,(.frz,.sl Bn),Av,(.frz,.bool)]],.one (.agg [Ao,(.own,.sl (.one (.sl Bs))),(.own,.sl (.one (.sl BC))),Ao,(.own,.sl Bn),Ao,(.own,.bool)])⟩
theorem eE:H5.A:=AR ⟨qf,qm,trivial⟩
def B4:Cf->Int×DX×Dg×Int×Bw×Int×Bool:=H5.V
def Qm:Cf->Prop:=H5.O
theorem ez:H5.B:=AV ⟨pX,ql,trivial⟩ (by kernel_rfl) (λ x=>by kernel_rfl)
def px:DCode:=(.seq [2,1] (.region [oa 0 2 (.boxB 0 2 (.t 0)),oa 1 4 (.mv (.c .nils))]) (.seq [5,2,1] (.region [oa 0 5 (.mv (.c .nils))]) (.seq [5] (.seq [10,9,8,5,2] (.region [on 0 8 1,oa 1 9 (.len (.t 8)),oi 2 10 0]) (.block 0 (.loop [2,5,8,9,10] 1 (.seq [11,10,9,8,5,2] (.region [oa 0 11 (.bin .lss (.t 10) (.t 9))]) (.seq [10,9,8,5,2] (.cond (.t 11) .skip (.exit 0)) (.seq [10,9,8,5,2] (.block 1 (.seq [10,9,8,7,5,2] (.region [oa 0 12 (.indexA 2 (.t 8) (.t 10)),ob 1 13 (.loadH (some 2) (.t 12)),oa 2 7 (.allocB 1 [Ab,.nils]),os 3 (.storeB 1 2 (.t 7) (.t 13))]) (.seq [10,9,8,7,5,2] (.seq [17,10,9,8,7,5,2] (.region [oa 0 14 (.loadB 0 (some 2) (.t 2)),oa 1 15 (.loadB 1 (some 2) (.t 7)),oF 2 16 Ke [(.t 14),(.t 15)],oa 3 17 (.un .not (.t 16))]) (.cond (.t 17) (.region [om 0 18 5,ob 1 19 (.loadB 1 (some 2) (.t 7)),⟨2,some 20,.a false (.litSlice 2 1 [Ab,.nils] [(0,2,(.t 19))]) (some (.cons (.int .i64) (.one (.slf (.one (.int .i64)))))),none,[]⟩,oa 3 21 (.app 2 (.t 18) (.t 20)),om 4 5 21]) .skip)) (.region [ob 0 22 (.loadB 1 (some 2) (.t 7)),os 1 (.storeB 0 2 (.t 2) (.t 22))])))) (.region [oa 0 23 (.bin .add (.t 10) Au),om 1 10 23]))))))) (.seq [4] (.region [om 0 24 5,om 1 4 24]) .ret))))
def FQ:Fn:=⟨⟨2,25,2,false,[.tmp 4],px⟩,[.agg [Av,(.frz,.sl (.one (.int .i64)))],.one .frz (.sl (.cons (.int .i64) (.one (.sl (.one (.int .i64))))))],.one (.one .own (.sl (.cons (.int .i64) (.one (.slf (.one (.int .i64)))))))⟩
theorem eu:FQ.A:=AR ⟨qv,trivial⟩
def Qg:JQ->List DZ:=FQ.V
def Qf:JQ->Prop:=FQ.O
theorem et:FQ.B:=AV ⟨qd,trivial⟩ (by kernel_rfl) (λ x=>by kernel_rfl)
def sQ:DCode:=(.seq [4,2,1] (.region [oa 0 2 (.boxB 0 7 (.t 0)),oa 1 4 (.allocB 1 [Ab,.nils,.nils,Ab,.nils,Ab,Cr]),oa 2 5 (.mv (.c .nils))]) (.seq [6,4,2,1] (.region [oa 0 8 (.loadB 0 (some 7) (.t 2)),oF 1 9 H5 [(.t 8)],oa 2 6 (.allocB 2 [Ab,.nils,.nils,Ab,.nils,Ab,Cr]),os 3 (.storeB 2 7 (.t 6) (.t 9))]) (.seq [7,6,4,2] (.region [oa 0 10 (.loadB 0 (some 7) (.t 2)),om 1 11 1,oF 2 12 En [(.t 10),(.t 11)],om 3 7 12]) (.seq [6,4,2] (.region [oa 0 13 (.fieldA 4 (.t 6)),xA 1 14 (.loadB 2 none (.t 13)) (rg 1),om 2 15 7,xA 3 16 (.slice 5 (.t 14) none (some (.t 15))) (rg 3),oa 4 17 (.fieldA 4 (.t 6)),xA 5 18 (.loadB 2 none (.t 17)) [4],om 6 19 7,xA 7 20 (.bin .add (.t 19) Au) [6],xA 8 21 (.slice 5 (.t 18) (some (.t 20)) none) [4,5,6,7],⟨9,some 22,.aw [(0,5)] false (.app 5 (.t 16) (.t 21)) none,none,rg 9⟩,xA 10 23 (.fieldA 4 (.t 6)) (rg 10),xS 11 (.storeB 2 1 (.t 23) (.t 22)) (rg 11)]) (.seq [5,4] (.region [⟨0,some 24,.fzb (.t 6) (.loadB 2 (some 7) (.t 6)),none,[]⟩,oa 1 25 (.fieldA 4 (.t 2)),xA 2 26 (.loadB 0 none (.t 25)) [1],oa 4 28 (.fieldA 4 (.t 6)),xA 5 29 (.loadB 2 none (.t 28)) [4],xF 3 27 E2 [(.t 26)] [1,2],xF 6 30 E2 [(.t 29)] [1,2,3,4,5],⟨7,some 31,.a false (.litSlice 2 1 [Ab,.nils] [(0,2,(.t 30))]) (some (.cons (.int .i64) (.one (.sl (.one (.int .i64)))))),none,[1,2,3,4,5,6]⟩,⟨8,some 32,.call true FQ.S FQ.P FQ.D [(.t 27),(.t 31)],none,[1,2,3,4,5,6,7]⟩,xS 9 (.storeB 1 7 (.t 4) (.t 24)) (rg 9),xA 10 5 (.mv (.t 32)) (rg 10)]) .ret)))))
def Kt:Fn:=⟨⟨2,33,3,false,[.cell 4 (some 7),.tmp 5],sQ⟩,[.agg [Av,(.frz,.sl (.one (.sl Bs))),(.frz,.sl (.one (.sl BC))),Av,(.frz,.sl Bn),Av,(.frz,.bool)],.one .frz (.int .i64)],.tup [.agg [Av,(.frz,.sl (.one (.sl Bs))),(.frz,.sl (.one (.sl BC))),Av,(.frz,.sl Bn),Av,(.frz,.bool)],.one .own (.sl (.cons (.int .i64) (.one (.slf (.one (.int .i64))))))]⟩
theorem tQ:Kt.A:=AR ⟨eE,UJ,Qw,Qw,eu,trivial⟩
def UO:HI->Cf×Fe:=Kt.V
def YV:HI->Prop:=Kt.O
theorem sV:Kt.B:=AV ⟨ez,UR,Qv,Qv,et,trivial⟩ (by kernel_rfl) (λ x=>by kernel_rfl)
def tG:DCode:=(.seq [4,2,1] (.region [oa 0 2 (.boxB 0 7 (.t 0)),oa 1 4 (.allocB 1 [Ab,.nils,.nils,Ab,.nils,Ab,Cr]),oa 2 5 (.mv (.c .nils)),oa 3 6 (.mv An)]) (.seq [4,2,1] (.seq [17,4,2,1] (.region [oa 0 9 (.loadB 0 (some 7) (.t 2)),oF 1 10 Ij [(.t 9)],oa 2 11 (.un .not (.t 10)),om 3 12 11,og 4 13 (.loadB 0 (some 7) (.t 2)) 12 false,og 5 14 (.mv (.t 1)) 12 false,⟨6,some 15,.call false En.S En.P En.D [(.t 13),(.t 14)],(some (12,false)),[]⟩,og 7 16 (.bin .lss (.t 15) AD) 12 false,oa 8 17 (.pick (.t 12) AS (.t 16))]) (.cond (.t 17) (.seq [6,5,4] (.region [oa 0 18 (.build [Ab,.nils,.nils,Ab,.nils,Ab,Cr] []),os 1 (.storeB 1 7 (.t 4) (.t 18)),⟨2,some 5,.fzb (.t 4) (.mv (.c .nils)),none,[]⟩,oa 3 6 (.mv An)]) .ret) .skip)) (.seq [8,7,4] (.region [oa 0 20 (.loadB 0 (some 7) (.t 2)),om 1 21 1,oF 2 22 Kt [(.t 20),(.t 21)],om 3 19 22,oa 4 23 (.extract (.t 19) 0),oa 5 24 (.extract (.t 19) 1),oa 6 7 (.allocB 2 [Ab,.nils,.nils,Ab,.nils,Ab,Cr]),os 7 (.storeB 2 7 (.t 7) (.t 23)),om 8 8 24]) (.seq [6,5,4] (.region [ob 0 25 (.loadB 2 (some 7) (.t 7)),om 1 26 8,os 2 (.storeB 1 7 (.t 4) (.t 25)),om 3 5 26,oa 4 6 (.mv AS)]) .ret))))
def Kz:Fn:=⟨⟨2,27,3,false,[.cell 4 (some 7),.tmp 5,.tmp 6],tG⟩,[.agg [Av,(.frz,.sl (.one (.sl Bs))),(.frz,.sl (.one (.sl BC))),Av,(.frz,.sl Bn),Av,(.frz,.bool)],.one .frz (.int .i64)],.tup [.agg [Av,(.frz,.sl (.one (.sl Bs))),(.frz,.sl (.one (.sl BC))),Av,(.frz,.sl Bn),Av,(.frz,.bool)],.one .own (.sl (.cons (.int .i64) (.one (.slf (.one (.int .i64)))))),.one .own (.bool)]⟩
theorem sR:Kz.A:=AR ⟨fa,UJ,tQ,trivial⟩
def Q2:HI->Cf×Fe×Bool:=Kz.V
def QS:HI->Prop:=Kz.O
theorem sJ:Kz.B:=AV ⟨fq,UR,sV,trivial⟩ (by kernel_rfl) (λ x=>by kernel_rfl)
def pQ:DCode:=(.seq [0] (.region [oa 0 2 (.mv An)]) (.seq [2] (.region [om 0 3 0,oF 1 4 BH [(.t 3),Au,(.c (.int .i64 36))],om 2 5 4,og 3 6 (.mv (.t 0)) 5 false,og 4 7 (.bin .eql (.t 6) (.c (.int .i64 39))) 5 false,oa 5 8 (.pick (.t 5) AS (.t 7)),om 6 9 8,og 7 10 (.mv (.t 0)) 9 false,og 8 11 (.bin .eql (.t 10) (.c (.int .i64 42))) 9 false,oa 9 12 (.pick (.t 9) AS (.t 11)),om 10 2 12]) .ret))
def Kb:Fn:=⟨⟨1,13,0,true,[.tmp 2],pQ⟩,[.one .frz (.int .i64)],.one (.one .own (.bool))⟩
theorem qb:Kb.A:=AR ⟨Gi,trivial⟩
def EY:Int->Bool:=Kb.V
def Ys:Int->Prop:=Kb.O
theorem p8:Kb.B:=AV ⟨Gj,trivial⟩ (by kernel_rfl) (λ x=>by kernel_rfl)
def wh:DCode:=(.seq [4,3,0] (.region [oa 0 3 (.boxB 0 4 (.t 1)),oa 1 4 (.allocB 1 [Ab,Ab,Ab,Ab])]) (.seq [4,3,0] (.region [oa 0 5 (.fieldA 2 (.t 3)),xA 1 6 (.loadB 0 none (.t 5)) (rg 1),om 2 7 0,xA 3 8 (.nilck (.t 7)) [2],xA 4 9 (.fieldA 5 (.t 8)) [2,3],xA 5 10 (.loadH none (.t 9)) [2,3,4],xA 6 11 (.bin .or (.t 6) (.t 10)) (rg 6),xA 7 12 (.fieldA 2 (.t 3)) (rg 7),xS 8 (.storeB 0 1 (.t 12) (.t 11)) (rg 8)]) (.seq [4,3,0] (.region [om 0 13 0,oa 1 14 (.nilck (.t 13)),oa 2 15 (.fieldA 5 (.t 14)),os 3 (.storeH 1 (.t 15) AD)]) (.seq [4,3,0] (.seq [19,4,3,0] (.region [oa 0 16 (.fieldA 1 (.t 3)),oa 1 17 (.loadB 0 none (.t 16)),oF 2 18 Kb [(.t 17)],oa 3 19 (.un .not (.t 18))]) (.cond (.t 19) (.region [om 0 20 0,oa 1 21 (.nilck (.t 20)),oa 2 22 (.fieldA 6 (.t 21)),os 3 (.storeH 1 (.t 22) An)]) .skip)) (.seq [4,3] (.seq [37,4,3] (.region [om 0 23 0,oa 1 24 (.nilck (.t 23)),oa 2 25 (.fieldA 6 (.t 24)),oa 3 26 (.loadH none (.t 25)),om 4 27 26,og 5 28 (.fieldA 1 (.t 3)) 27 true,og 6 29 (.loadB 0 none (.t 28)) 27 true,og 7 30 (.bin .leq (.t 29) (.c (.int .i64 26))) 27 true,oa 8 31 (.pick (.t 27) (.t 30) An),om 9 32 31,og 10 33 (.fieldA 2 (.t 3)) 32 true,og 11 34 (.loadB 0 none (.t 33)) 32 true,og 12 35 (.bin .andNot (.t 34) (.c (.int .i64 2))) 32 true,og 13 36 (.bin .eql (.t 35) AD) 32 true,oa 14 37 (.pick (.t 32) (.t 36) An)]) (.cond (.t 37) (.region [oa 0 38 (.fieldA 2 (.t 3)),os 1 (.storeB 0 1 (.t 38) (.c (.int .i64 2)))]) .skip)) (.seq [4] (.region [ob 0 39 (.loadB 0 (some 4) (.t 3)),os 1 (.storeB 1 4 (.t 4) (.t 39))]) .ret))))))
def LA:DFun:=⟨2,40,2,false,[.cell 4 (some 4)],wh⟩
@[irreducible] def OT:Bb:=EN LA.er.er
@[irreducible] def Rf:B9:=C9 LA.er
theorem v8:D4 OT Rf:=by unfold OT Rf;exact FY (f:=LA.er) ⟨qb,trivial⟩
def VH:List HT:=[.agg [Av,Av,Av,Av]]
def VL:List (Ql×CT):=[Ao,(.own,.sl (.one (.sl Bs))),(.own,.sl (.one (.sl BC))),Ao,(.own,.sl Bn),Ao,(.own,.bool)]
def VM:QT:=.one (.agg [Ao,Ao,Ao,Ao])
def Vi:List (Ql×CT):=[Ao,Ao,Ao,Ao]
@[irreducible] def Rg(x:PW):CH×Cf:=(shut λ x=>K9 LA VH Vi VL VM x).1 x
@[irreducible] def Q3(x:PW):Prop:=(shut λ x=>K8 LA VH Vi VL VM x).1 x
def iH:CN:=LU VH Vi VL VM Q3 Rg
theorem wA:DR Rf iH:=by unfold Rf;exact O0 (f:=LA) (hs:=VH) (c2:=Vi) (cs:=VL) (q:=VM) ⟨p8,trivial⟩ (by kernel_rfl) (λ x=>by kernel_rfl) (λ x h=>by unfold Q3 at h;exact Eq.mp (congrFun (shut _).2 x) h) (λ x=>by unfold Rg;exact(congrFun (shut _).2 x).symm)
def rV:DCode:=(.seq [4,3,0] (.region [oa 0 3 (.boxB 0 4 (.t 1)),oa 1 4 (.allocB 1 [Ab,Ab,Ab,Ab])]) (.seq [4,3] (.seq [6,4,3,0] (.region [oa 0 5 (.fieldA 0 (.t 3)),oa 1 6 (.loadB 0 none (.t 5))]) (.block 0 (.seq [7,6,4,3,0] (.region [oa 0 8 (.bin .eql (.t 6) (.c (.int .i64 2))),om 1 7 8]) (.cond (.t 7) (.seq [11,4,3,0] (.region [oa 0 9 (.fieldA 1 (.t 3)),oa 1 10 (.loadB 0 none (.t 9)),oa 2 11 (.bin .gtr (.t 10) AD)]) (.cond (.t 11) (.seq [4] (.region [om 0 12 0,oa 1 13 (.loadB 0 (some 4) (.t 3)),op 2 14 OT Rf iH [(.t 12),(.t 13)],os 3 (.storeB 1 4 (.t 4) (.t 14))]) .ret) .skip)) (.seq [15,6,4,3,0] (.region [oa 0 16 (.bin .eql (.t 6) (.c (.int .i64 4))),om 1 15 16]) (.cond (.t 15) (.region [om 0 17 0,om 1 18 0,xA 2 19 (.nilck (.t 18)) [1],xA 3 20 (.fieldA 3 (.t 19)) [1,2],xA 4 21 (.loadH none (.t 20)) [1,2,3],oa 5 22 (.fieldA 3 (.t 3)),xA 6 23 (.loadB 0 none (.t 22)) [5],xA 7 24 (.bin .shl Au (.t 23)) [5,6],xA 8 25 (.bin .xor (.t 21) (.t 24)) [1,2,3,4,5,6,7],xA 9 26 (.nilck (.t 17)) (rg 9),xA 10 27 (.fieldA 3 (.t 26)) (rg 10),xS 11 (.storeH 1 (.t 27) (.t 25)) (rg 11)]) (.seq [28,6,4,3,0] (.region [oa 0 29 (.bin .eql (.t 6) (.c (.int .i64 5))),om 1 28 29]) (.cond (.t 28) (.region [om 0 30 0,oa 1 31 (.fieldA 3 (.t 3)),oa 2 32 (.loadB 0 none (.t 31)),oa 3 33 (.bin .shl Au (.t 32)),oa 4 34 (.bin .andNot (.t 33) Au),oa 5 35 (.nilck (.t 30)),oa 6 36 (.fieldA 3 (.t 35)),os 7 (.storeH 1 (.t 36) (.t 34))]) (.seq [37,6,4,3,0] (.region [oa 0 38 (.bin .eql (.t 6) (.c (.int .i64 8))),om 1 37 38]) (.cond (.t 37) (.seq [48,4,3,0] (.region [om 0 39 0,xA 1 40 (.nilck (.t 39)) (rg 1),xA 2 41 (.fieldA 5 (.t 40)) (rg 2),xA 3 42 (.loadH none (.t 41)) (rg 3),oa 4 43 (.fieldA 2 (.t 3)),xA 5 44 (.loadB 0 none (.t 43)) [4],xA 6 45 (.bin .and (.t 42) (.t 44)) (rg 6),oa 7 46 (.fieldA 2 (.t 3)),xA 8 47 (.loadB 0 none (.t 46)) [7],xA 9 48 (.bin .eql (.t 45) (.t 47)) (rg 9)]) (.cond (.t 48) (.region [om 0 49 0,om 1 50 0,xA 2 51 (.nilck (.t 50)) [1],xA 3 52 (.fieldA 5 (.t 51)) [1,2],xA 4 53 (.loadH none (.t 52)) [1,2,3],oa 5 54 (.fieldA 2 (.t 3)),xA 6 55 (.loadB 0 none (.t 54)) [5],xA 7 56 (.bin .andNot (.t 53) (.t 55)) [1,2,3,4,5,6],xA 8 57 (.nilck (.t 49)) (rg 8),xA 9 58 (.fieldA 5 (.t 57)) (rg 9),xS 10 (.storeH 1 (.t 58) (.t 56)) (rg 10)]) (.region [om 0 59 0,om 1 60 0,xA 2 61 (.nilck (.t 60)) [1],xA 3 62 (.fieldA 5 (.t 61)) [1,2],xA 4 63 (.loadH none (.t 62)) [1,2,3],oa 5 64 (.fieldA 2 (.t 3)),xA 6 65 (.loadB 0 none (.t 64)) [5],xA 7 66 (.bin .or (.t 63) (.t 65)) [1,2,3,4,5,6],xA 8 67 (.nilck (.t 59)) (rg 8),xA 9 68 (.fieldA 5 (.t 67)) (rg 9),xS 10 (.storeH 1 (.t 68) (.t 66)) (rg 10)]))) (.seq [69,4,3,0] (.region [oa 0 70 (.bin .eql (.t 6) (.c (.int .i64 10))),om 1 69 70]) (.cond (.t 69) (.region [om 0 71 0,om 1 72 0,oa 2 73 (.nilck (.t 72)),oa 3 74 (.fieldA 6 (.t 73)),oa 4 75 (.loadH none (.t 74)),oa 5 76 (.un .not (.t 75)),oa 6 77 (.nilck (.t 71)),oa 7 78 (.fieldA 6 (.t 77)),os 8 (.storeH 1 (.t 78) (.t 76))]) .skip)))))))))))) (.seq [4] (.region [ob 0 79 (.loadB 0 (some 4) (.t 3)),os 1 (.storeB 1 4 (.t 4) (.t 79))]) .ret)))
def Ln:DFun:=⟨2,80,2,false,[.cell 4 (some 4)],rV⟩
@[irreducible] def Ol:Bb:=EN Ln.er.er
@[irreducible] def QI:B9:=C9 Ln.er
theorem r9:D4 Ol QI:=by unfold Ol QI;exact FY (f:=Ln.er) ⟨v8,trivial⟩
def Uz:List HT:=[.agg [Av,Av,Av,Av]]
def Us:List (Ql×CT):=[Ao,(.own,.sl (.one (.sl Bs))),(.own,.sl (.one (.sl BC))),Ao,(.own,.sl Bn),Ao,(.own,.bool)]
def UB:QT:=.one (.agg [Ao,Ao,Ao,Ao])
def Ua:List (Ql×CT):=[Ao,Ao,Ao,Ao]
@[irreducible] def Om(x:PW):CH×Cf:=(shut λ x=>K9 Ln Uz Ua Us UB x).1 x
@[irreducible] def Oa(x:PW):Prop:=(shut λ x=>K8 Ln Uz Ua Us UB x).1 x
def fA:CN:=LU Uz Ua Us UB Oa Om
theorem sA:DR QI fA:=by unfold QI;exact O0 (f:=Ln) (hs:=Uz) (c2:=Ua) (cs:=Us) (q:=UB) ⟨wA,trivial⟩ (by kernel_rfl) (λ x=>by kernel_rfl) (λ x h=>by unfold Oa at h;exact Eq.mp (congrFun (shut _).2 x) h) (λ x=>by unfold Om;exact(congrFun (shut _).2 x).symm)
def vV:DCode:=(.seq [6,3,2,1] (.region [oa 0 3 (.boxB 0 7 (.t 0)),oa 1 6 (.allocB 1 [Ab,.nils,.nils,Ab,.nils,Ab,Cr]),oa 2 7 (.mv (.c .nils)),oa 3 8 (.mv An)]) (.seq [6,3,2,1] (.seq [29,6,3,2,1] (.region [oa 0 12 (.loadB 0 (some 7) (.t 3)),oF 1 13 GN [(.t 12)],oa 2 14 (.un .not (.t 13)),om 3 15 14,og 4 16 (.mv (.t 1)) 15 false,og 5 17 (.fieldA 0 (.t 3)) 15 false,og 6 18 (.fieldA 0 (.t 17)) 15 false,og 7 19 (.loadB 0 none (.t 18)) 15 false,og 8 20 (.bin .sub (.t 19) Au) 15 false,⟨9,some 21,.call false BH.S BH.P BH.D [(.t 16),AD,(.t 20)],(some (15,false)),[]⟩,og 10 22 (.un .not (.t 21)) 15 false,oa 11 23 (.pick (.t 15) AS (.t 22)),om 12 24 23,og 13 25 (.loadB 0 (some 7) (.t 3)) 24 false,og 14 26 (.mv (.t 1)) 24 false,⟨15,some 27,.call false GQ.S GQ.P GQ.D [(.t 25),(.t 26)],(some (24,false)),[]⟩,og 16 28 (.bin .geq (.t 27) AD) 24 false,oa 17 29 (.pick (.t 24) AS (.t 28))]) (.cond (.t 29) (.seq [8,7,6] (.region [oa 0 30 (.build [Ab,.nils,.nils,Ab,.nils,Ab,Cr] []),⟨1,some 31,.a false (.litSlice 2 0 [] []) (some (.cons (.int .i64) (.one (.sl (.one (.int .i64)))))),none,[]⟩,os 2 (.storeB 1 7 (.t 6) (.t 30)),om 3 7 31,oa 4 8 (.mv An)]) .ret) .skip)) (.seq [9,6,3,2,1] (.region [oa 0 32 (.loadB 0 (some 7) (.t 3)),oF 1 33 GR [(.t 32)],oa 2 9 (.allocH [Ab,.nils,.nils,Ab,.nils,Ab,Cr]),os 3 (.storeH 7 (.t 9) (.t 33))]) (.seq [10,9,6,3,2,1] (.region [oa 9 10 (.allocH [Ab,Ab,Ab,Ab]),oa 0 34 (.fieldA 0 (.t 3)),xA 1 35 (.loadB 0 (some 2) (.t 34)) (rg 1),oa 2 36 (.fieldA 3 (.t 3)),xA 3 37 (.loadB 0 none (.t 36)) [2],oa 4 38 (.fieldA 4 (.t 3)),xA 5 39 (.loadB 0 none (.t 38)) [4],om 7 41 1,xF 6 40 Ko [(.t 37),(.t 39)] [2,3,4,5],xF 8 42 Kq [(.t 35),(.t 40),(.t 41)] (rg 8),xS 10 (.storeH 4 (.t 10) (.t 42)) (rg 10)]) (.seq [10,9,6,3,1] (.seq [43,10,9,6,3,1] (.region [om 0 43 2]) (.cond (.t 43) (.region [oa 0 44 (.loadH (some 4) (.t 10)),oF 1 45 KB [(.t 44)],os 2 (.storeH 4 (.t 10) (.t 45))]) (.region [oa 0 46 (.loadH (some 4) (.t 10)),oF 1 47 KI [(.t 46)],os 2 (.storeH 4 (.t 10) (.t 47))]))) (.seq [10,9,6,3,1] (.region [oa 0 48 (.loadH (some 4) (.t 10)),op 1 49 Ol QI fA [(.t 9),(.t 48)],os 2 (.storeH 4 (.t 10) (.t 49))]) (.seq [10,9,6,3] (.region [oa 0 50 (.fieldA 4 (.t 9)),ob 1 51 (.loadH none (.t 50)),om 2 52 1,ob 3 53 (.loadH (some 4) (.t 10)),oa 4 54 (.build [Ab,Ab,Ab,Ab,Ab] [(0,1,(.t 52)),(1,4,(.t 53))]),⟨5,some 55,.a false (.litSlice 5 1 [Ab,Ab,Ab,Ab,Ab] [(0,5,(.t 54))]) (some Bn),none,[]⟩,oa 6 56 (.app 5 (.t 51) (.t 55)),oa 7 57 (.fieldA 4 (.t 9)),os 8 (.storeH 1 (.t 57) (.t 56))]) (.seq [11,10,9,6,3] (.region [⟨0,some 58,.a false (.litSlice 2 0 [] []) (some (.cons (.int .i64) (.one (.sl (.one (.int .i64)))))),none,[]⟩,om 1 11 58]) (.seq [11,9,6,3] (.seq [69,11,10,9,6,3] (.region [oa 0 59 (.fieldA 0 (.t 10)),oa 1 60 (.loadH none (.t 59)),oa 2 61 (.bin .eql (.t 60) (.c (.int .i64 9))),om 3 62 61,og 4 63 (.fieldA 3 (.t 10)) 62 true,og 5 64 (.loadH none (.t 63)) 62 true,og 6 65 (.fieldA 2 (.t 3)) 62 true,og 7 66 (.loadB 0 none (.t 65)) 62 true,og 8 67 (.len (.t 66)) 62 true,og 9 68 (.bin .lss (.t 64) (.t 67)) 62 true,oa 10 69 (.pick (.t 62) (.t 68) An)]) (.cond (.t 69) (.region [oa 0 70 (.fieldA 4 (.t 9)),xA 1 71 (.loadH none (.t 70)) (rg 1),oa 2 72 (.fieldA 2 (.t 3)),xA 3 73 (.loadB 0 none (.t 72)) [2],oa 4 74 (.fieldA 3 (.t 10)),xA 5 75 (.loadH none (.t 74)) [4],xA 6 76 (.indexA 1 (.t 73) (.t 75)) [2,3,4,5],xA 7 77 (.loadH none (.t 76)) [2,3,4,5,6],xF 8 78 J5 [(.t 71),(.t 77)] (rg 8),xA 9 11 (.mv (.t 78)) (rg 9)]) .skip)) (.seq [11,9,6,3] (.region [om 0 79 11,oa 1 80 (.fieldA 4 (.t 9)),oa 2 81 (.loadH none (.t 80)),oF 3 82 E1 [(.t 81)],⟨4,some 83,.a false (.litSlice 2 1 [Ab,.nils] [(0,2,(.t 82))]) (some (.cons (.int .i64) (.one (.sl (.one (.int .i64)))))),none,[]⟩,oa 5 84 (.app 2 (.t 79) (.t 83)),om 6 11 84]) (.seq [8,7,6] (.region [oa 0 85 (.loadH (some 7) (.t 9)),oa 1 86 (.fieldA 4 (.t 3)),xA 2 87 (.loadB 0 none (.t 86)) [1],on 4 89 11,xF 3 88 E1 [(.t 87)] [1,2],xF 5 90 Ic [(.t 88),(.t 89)] [1,2,3,4],⟨6,none,.clm (.t 9) 85 (.storeB 1 7 (.t 6) (.t 85)),none,[0,1,2,3,4,5]⟩,xA 7 7 (.mv (.t 90)) (rg 7),xA 8 8 (.mv AS) (rg 8)]) .ret)))))))))))
def IA:Fn:=⟨⟨3,91,2,false,[.cell 6 (some 7),.tmp 7,.tmp 8],vV⟩,[.agg [Av,(.frz,.sl (.one (.sl Bs))),(.frz,.sl (.one (.sl BC))),Av,(.frz,.sl Bn),Av,(.frz,.bool)],.one .frz (.int .i64),.one .frz (.bool)],.tup [.agg [Ao,(.own,.sl (.one (.sl Bs))),(.own,.sl (.one (.sl BC))),Ao,(.own,.sl Bn),Ao,(.own,.bool)],.one .own (.sl (.cons (.int .i64) (.one (.sl (.one (.int .i64)))))),.one .own (.bool)]⟩
theorem gG:IA.A:=AR ⟨YE,Gi,gB,Y6,rR,sd,vE,wJ,r9,pF,QG,QG,eM,trivial⟩
def Iz:Fc->Cf×Fe×Bool:=IA.V
def LC:Fc->Prop:=IA.O
theorem ie:IA.B:=AV ⟨YG,Gj,gm,Y8,rW,rC,vA,wg,sA,pD,QC,QC,eF,trivial⟩ (by kernel_rfl) (λ x=>by kernel_rfl)
def pP:DCode:=(.seq [0] (.region [oa 0 2 (.mv An)]) (.seq [2] (.region [om 0 3 0,oa 1 4 (.bin .geq (.t 3) Au),om 2 5 4,og 3 6 (.mv (.t 0)) 5 true,og 4 7 (.bin .leq (.t 6) (.c (.int .i64 36))) 5 true,oa 5 8 (.pick (.t 5) (.t 7) An),om 6 9 8,og 7 10 (.mv (.t 0)) 9 false,og 8 11 (.bin .eql (.t 10) (.c (.int .i64 39))) 9 false,oa 9 12 (.pick (.t 9) AS (.t 11)),om 10 13 12,og 11 14 (.mv (.t 0)) 13 false,og 12 15 (.bin .eql (.t 14) (.c (.int .i64 42))) 13 false,oa 13 16 (.pick (.t 13) AS (.t 15)),om 14 2 16]) .ret))
def H7:Fn:=⟨⟨1,17,0,true,[.tmp 2],pP⟩,[.one .frz (.int .i64)],.one (.one .own (.bool))⟩
theorem pW:H7.A:=AR trivial
def Ll:Int->Bool:=H7.V
def Yq:Int->Prop:=H7.O
theorem qg:H7.B:=AV trivial (by kernel_rfl) (λ x=>by kernel_rfl)
def vt:DCode:=(.seq [4,3,0] (.region [oa 0 3 (.boxB 0 4 (.t 1)),oa 1 4 (.allocB 1 [Ab,Ab,Ab,Ab])]) (.seq [4,3] (.seq [6,4,3,0] (.region [oa 0 5 (.fieldA 0 (.t 3)),oa 1 6 (.loadB 0 none (.t 5))]) (.block 0 (.seq [7,6,4,3,0] (.region [oa 0 8 (.bin .eql (.t 6) (.c (.int .i64 2))),om 1 7 8]) (.cond (.t 7) (.seq [4,3,0] (.seq [11,4,3,0] (.region [oa 0 9 (.fieldA 1 (.t 3)),oa 1 10 (.loadB 0 none (.t 9)),oa 2 11 (.bin .eql (.t 10) AD)]) (.cond (.t 11) (.seq [4] (.region [ob 0 12 (.loadB 0 (some 4) (.t 3)),os 1 (.storeB 1 4 (.t 4) (.t 12))]) .ret) .skip)) (.seq [4,3,0] (.region [oa 0 13 (.fieldA 2 (.t 3)),xA 1 14 (.loadB 0 none (.t 13)) (rg 1),om 2 15 0,xA 3 16 (.nilck (.t 15)) [2],xA 4 17 (.fieldA 5 (.t 16)) [2,3],xA 5 18 (.loadH none (.t 17)) [2,3,4],xA 6 19 (.bin .or (.t 14) (.t 18)) (rg 6),xA 7 20 (.fieldA 2 (.t 3)) (rg 7),xS 8 (.storeB 0 1 (.t 20) (.t 19)) (rg 8)]) (.seq [4,3,0] (.region [om 0 21 0,oa 1 22 (.nilck (.t 21)),oa 2 23 (.fieldA 5 (.t 22)),os 3 (.storeH 1 (.t 23) AD)]) (.seq [4,3,0] (.region [om 0 24 0,om 1 25 0,oa 2 26 (.nilck (.t 25)),oa 3 27 (.fieldA 6 (.t 26)),oa 4 28 (.loadH none (.t 27)),om 5 29 28,og 6 30 (.fieldA 1 (.t 3)) 29 true,og 7 31 (.loadB 0 none (.t 30)) 29 true,⟨8,some 32,.call false H7.S H7.P H7.D [(.t 31)],(some (29,true)),[]⟩,oa 9 33 (.pick (.t 29) (.t 32) An),oa 10 34 (.nilck (.t 24)),oa 11 35 (.fieldA 6 (.t 34)),os 12 (.storeH 1 (.t 35) (.t 33))]) (.seq [50,4,3] (.region [om 0 36 0,oa 1 37 (.nilck (.t 36)),oa 2 38 (.fieldA 6 (.t 37)),oa 3 39 (.loadH none (.t 38)),om 4 40 39,og 5 41 (.fieldA 1 (.t 3)) 40 true,og 6 42 (.loadB 0 none (.t 41)) 40 true,og 7 43 (.bin .leq (.t 42) (.c (.int .i64 26))) 40 true,oa 8 44 (.pick (.t 40) (.t 43) An),om 9 45 44,og 10 46 (.fieldA 2 (.t 3)) 45 true,og 11 47 (.loadB 0 none (.t 46)) 45 true,og 12 48 (.bin .andNot (.t 47) (.c (.int .i64 2))) 45 true,og 13 49 (.bin .eql (.t 48) AD) 45 true,oa 14 50 (.pick (.t 45) (.t 49) An)]) (.cond (.t 50) (.region [oa 0 51 (.fieldA 2 (.t 3)),os 1 (.storeB 0 1 (.t 51) (.c (.int .i64 2)))]) .skip)))))) (.seq [52,6,4,3,0] (.region [oa 0 53 (.bin .eql (.t 6) (.c (.int .i64 4))),om 1 52 53]) (.cond (.t 52) (.region [om 0 54 0,xA 1 55 (.nilck (.t 54)) (rg 1),xA 2 56 (.fieldA 3 (.t 55)) (rg 2),xA 3 57 (.loadH none (.t 56)) (rg 3),oa 4 58 (.fieldA 3 (.t 3)),xA 5 59 (.loadB 0 none (.t 58)) [4],xA 6 60 (.bin .shl Au (.t 59)) [4,5],xA 7 61 (.bin .xor (.t 57) (.t 60)) (rg 7),xA 8 62 (.nilck (.t 54)) (rg 8),xA 9 63 (.fieldA 3 (.t 62)) (rg 9),xS 10 (.storeH 1 (.t 63) (.t 61)) (rg 10)]) (.seq [64,6,4,3,0] (.region [oa 0 65 (.bin .eql (.t 6) (.c (.int .i64 5))),om 1 64 65]) (.cond (.t 64) (.region [om 0 66 0,oa 1 67 (.fieldA 3 (.t 3)),oa 2 68 (.loadB 0 none (.t 67)),oa 3 69 (.bin .shl Au (.t 68)),oa 4 70 (.bin .andNot (.t 69) Au),oa 5 71 (.nilck (.t 66)),oa 6 72 (.fieldA 3 (.t 71)),os 7 (.storeH 1 (.t 72) (.t 70))]) (.seq [73,6,4,3,0] (.region [oa 0 74 (.bin .eql (.t 6) (.c (.int .i64 8))),om 1 73 74]) (.cond (.t 73) (.seq [84,4,3,0] (.region [om 0 75 0,xA 1 76 (.nilck (.t 75)) (rg 1),xA 2 77 (.fieldA 5 (.t 76)) (rg 2),xA 3 78 (.loadH none (.t 77)) (rg 3),oa 4 79 (.fieldA 2 (.t 3)),xA 5 80 (.loadB 0 none (.t 79)) [4],xA 6 81 (.bin .and (.t 78) (.t 80)) (rg 6),oa 7 82 (.fieldA 2 (.t 3)),xA 8 83 (.loadB 0 none (.t 82)) [7],xA 9 84 (.bin .eql (.t 81) (.t 83)) (rg 9)]) (.cond (.t 84) (.region [om 0 85 0,xA 1 86 (.nilck (.t 85)) (rg 1),xA 2 87 (.fieldA 5 (.t 86)) (rg 2),xA 3 88 (.loadH none (.t 87)) (rg 3),oa 4 89 (.fieldA 2 (.t 3)),xA 5 90 (.loadB 0 none (.t 89)) [4],xA 6 91 (.bin .andNot (.t 88) (.t 90)) (rg 6),xA 7 92 (.nilck (.t 85)) (rg 7),xA 8 93 (.fieldA 5 (.t 92)) (rg 8),xS 9 (.storeH 1 (.t 93) (.t 91)) (rg 9)]) (.region [om 0 94 0,xA 1 95 (.nilck (.t 94)) (rg 1),xA 2 96 (.fieldA 5 (.t 95)) (rg 2),xA 3 97 (.loadH none (.t 96)) (rg 3),oa 4 98 (.fieldA 2 (.t 3)),xA 5 99 (.loadB 0 none (.t 98)) [4],xA 6 100 (.bin .or (.t 97) (.t 99)) (rg 6),xA 7 101 (.nilck (.t 94)) (rg 7),xA 8 102 (.fieldA 5 (.t 101)) (rg 8),xS 9 (.storeH 1 (.t 102) (.t 100)) (rg 9)]))) (.seq [103,4,3,0] (.region [oa 0 104 (.bin .eql (.t 6) (.c (.int .i64 10))),om 1 103 104]) (.cond (.t 103) (.region [om 0 105 0,om 1 106 0,oa 2 107 (.nilck (.t 106)),oa 3 108 (.fieldA 6 (.t 107)),oa 4 109 (.loadH none (.t 108)),oa 5 110 (.un .not (.t 109)),oa 6 111 (.nilck (.t 105)),oa 7 112 (.fieldA 6 (.t 111)),os 8 (.storeH 1 (.t 112) (.t 110))]) .skip)))))))))))) (.seq [4] (.region [ob 0 113 (.loadB 0 (some 4) (.t 3)),os 1 (.storeB 1 4 (.t 4) (.t 113))]) .ret)))
def Lw:DFun:=⟨2,114,2,false,[.cell 4 (some 4)],vt⟩
@[irreducible] def OL:Bb:=EN Lw.er.er
@[irreducible] def Q4:B9:=C9 Lw.er
theorem uA:D4 OL Q4:=by unfold OL Q4;exact FY (f:=Lw.er) ⟨pW,trivial⟩
def Vt:List HT:=[.agg [Av,Av,Av,Av]]
def U9:List (Ql×CT):=[Ao,(.own,.sl (.one (.sl Bs))),(.own,.sl (.one (.sl BC))),Ao,(.own,.sl Bn),Ao,(.own,.bool)]
def Vd:QT:=.one (.agg [Ao,Ao,Ao,Ao])
def UG:List (Ql×CT):=[Ao,Ao,Ao,Ao]
@[irreducible] def ON(x:PW):CH×Cf:=(shut λ x=>K9 Lw Vt UG U9 Vd x).1 x
@[irreducible] def OC(x:PW):Prop:=(shut λ x=>K8 Lw Vt UG U9 Vd x).1 x
def gM:CN:=LU Vt UG U9 Vd OC ON
theorem vc:DR Q4 gM:=by unfold Q4;exact O0 (f:=Lw) (hs:=Vt) (c2:=UG) (cs:=U9) (q:=Vd) ⟨qg,trivial⟩ (by kernel_rfl) (λ x=>by kernel_rfl) (λ x h=>by unfold OC at h;exact Eq.mp (congrFun (shut _).2 x) h) (λ x=>by unfold ON;exact(congrFun (shut _).2 x).symm)
def wE:DCode:=(.seq [6,3,2,1] (.region [oa 0 3 (.boxB 0 7 (.t 0)),oa 1 6 (.allocB 1 [Ab,.nils,.nils,Ab,.nils,Ab,Cr]),oa 2 7 (.mv (.c .nils))]) (.seq [8,6,3,2,1] (.region [oa 0 12 (.loadB 0 (some 7) (.t 3)),oF 1 13 H5 [(.t 12)],oa 2 8 (.allocH [Ab,.nils,.nils,Ab,.nils,Ab,Cr]),os 3 (.storeH 7 (.t 8) (.t 13))]) (.seq [9,8,6,3,2,1] (.region [oa 0 14 (.fieldA 3 (.t 3)),oa 1 15 (.loadB 0 none (.t 14)),oa 2 16 (.fieldA 4 (.t 3)),oa 3 17 (.loadB 0 none (.t 16)),oF 4 18 Ig [(.t 15),(.t 17)],om 5 9 18]) (.seq [10,8,6,3,2,1] (.region [oa 13 10 (.allocH [Ab,Ab,Ab,Ab]),oa 0 19 (.fieldA 0 (.t 3)),xA 1 20 (.fieldA 1 (.t 19)) (rg 1),xA 2 21 (.loadB 0 none (.t 20)) (rg 2),oa 3 22 (.fieldA 0 (.t 3)),xA 4 23 (.loadB 0 (some 2) (.t 22)) [3],om 5 24 9,om 6 25 1,om 10 29 1,xF 7 26 Iq [(.t 23),(.t 24),(.t 25)] [3,4,5,6],xA 8 27 (.indexA 1 (.t 21) (.t 26)) (rg 8),xA 9 28 (.loadH none (.t 27)) (rg 9),xA 11 30 (.indexA 4 (.t 28) (.t 29)) (rg 11),xB 12 31 (.loadH (some 4) (.t 30)) (rg 12),xS 14 (.storeH 4 (.t 10) (.t 31)) (rg 14)]) (.seq [10,8,6,3,1] (.seq [32,10,8,6,3,1] (.region [om 0 32 2]) (.cond (.t 32) (.region [oa 0 33 (.loadH (some 4) (.t 10)),oF 1 34 KC [(.t 33)],os 2 (.storeH 4 (.t 10) (.t 34))]) (.region [oa 0 35 (.loadH (some 4) (.t 10)),oF 1 36 IB [(.t 35)],os 2 (.storeH 4 (.t 10) (.t 36))]))) (.seq [10,8,6,3,1] (.region [oa 0 37 (.loadH (some 4) (.t 10)),op 1 38 OL Q4 gM [(.t 8),(.t 37)],os 2 (.storeH 4 (.t 10) (.t 38))]) (.seq [10,8,6,3] (.region [oa 0 39 (.fieldA 4 (.t 8)),ob 1 40 (.loadH none (.t 39)),om 2 41 1,ob 3 42 (.loadH (some 4) (.t 10)),oa 4 43 (.build [Ab,Ab,Ab,Ab,Ab] [(0,1,(.t 41)),(1,4,(.t 42))]),⟨5,some 44,.a false (.litSlice 5 1 [Ab,Ab,Ab,Ab,Ab] [(0,5,(.t 43))]) (some Bn),none,[]⟩,oa 6 45 (.app 5 (.t 40) (.t 44)),oa 7 46 (.fieldA 4 (.t 8)),os 8 (.storeH 1 (.t 46) (.t 45))]) (.seq [11,10,8,6,3] (.region [oa 0 11 (.mv (.c .nils))]) (.seq [11,8,6,3] (.seq [57,11,10,8,6,3] (.region [oa 0 47 (.fieldA 0 (.t 10)),oa 1 48 (.loadH none (.t 47)),oa 2 49 (.bin .eql (.t 48) (.c (.int .i64 9))),om 3 50 49,og 4 51 (.fieldA 3 (.t 10)) 50 true,og 5 52 (.loadH none (.t 51)) 50 true,og 6 53 (.fieldA 2 (.t 3)) 50 true,og 7 54 (.loadB 0 none (.t 53)) 50 true,og 8 55 (.len (.t 54)) 50 true,og 9 56 (.bin .lss (.t 52) (.t 55)) 50 true,oa 10 57 (.pick (.t 50) (.t 56) An)]) (.cond (.t 57) (.region [oa 0 58 (.fieldA 4 (.t 8)),xA 1 59 (.loadH none (.t 58)) (rg 1),oa 2 60 (.fieldA 2 (.t 3)),xA 3 61 (.loadB 0 none (.t 60)) [2],oa 4 62 (.fieldA 3 (.t 10)),xA 5 63 (.loadH none (.t 62)) [4],xA 6 64 (.indexA 1 (.t 61) (.t 63)) [2,3,4,5],xA 7 65 (.loadH none (.t 64)) [2,3,4,5,6],xF 8 66 J6 [(.t 59),(.t 65)] (rg 8),xA 9 11 (.mv (.t 66)) (rg 9)]) .skip)) (.seq [11,8,6,3] (.region [om 0 67 11,oa 1 68 (.fieldA 4 (.t 8)),oa 2 69 (.loadH none (.t 68)),oF 3 70 E2 [(.t 69)],⟨4,some 71,.a false (.litSlice 2 1 [Ab,.nils] [(0,2,(.t 70))]) (some (.cons (.int .i64) (.one (.sl (.one (.int .i64)))))),none,[]⟩,oa 5 72 (.app 2 (.t 67) (.t 71)),om 6 11 72]) (.seq [7,6] (.region [oa 0 73 (.loadH (some 7) (.t 8)),oa 1 74 (.fieldA 4 (.t 3)),xA 2 75 (.loadB 0 none (.t 74)) [1],om 4 77 11,xF 3 76 E2 [(.t 75)] [1,2],⟨5,some 78,.call true FQ.S FQ.P FQ.D [(.t 76),(.t 77)],none,[1,2,3,4]⟩,⟨6,none,.clm (.t 8) 73 (.storeB 1 7 (.t 6) (.t 73)),none,[0,1,2,3,4,5]⟩,xA 7 7 (.mv (.t 78)) (rg 7)]) .ret)))))))))))
def KG:Fn:=⟨⟨3,79,2,false,[.cell 6 (some 7),.tmp 7],wE⟩,[.agg [Av,(.frz,.sl (.one (.sl Bs))),(.frz,.sl (.one (.sl BC))),Av,(.frz,.sl Bn),Av,(.frz,.bool)],.one .frz (.int .i64),.one .frz (.bool)],.tup [.agg [Ao,(.own,.sl (.one (.sl Bs))),(.own,.sl (.one (.sl BC))),Ao,(.own,.sl Bn),Ao,(.own,.bool)],.one .own (.sl (.cons (.int .i64) (.one (.slf (.one (.int .i64))))))]⟩
theorem wC:KG.A:=AR ⟨eE,fb,fy,vG,gT,uA,pH,Qw,Qw,eu,trivial⟩
def VE:Fc->Cf×Fe:=KG.V
def Zn:Fc->Prop:=KG.O
theorem wV:KG.B:=AV ⟨ez,fo,fF,vz,ic,vc,pK,Qv,Qv,et,trivial⟩ (by kernel_rfl) (λ x=>by kernel_rfl)
def wQ:DCode:=(.seq [6,3,2,1] (.region [oa 0 3 (.boxB 0 7 (.t 0)),oa 1 6 (.allocB 1 [Ab,.nils,.nils,Ab,.nils,Ab,Cr]),oa 2 7 (.mv (.c .nils)),oa 3 8 (.mv An)]) (.seq [6,3,2,1] (.seq [30,6,3,2,1] (.region [oa 0 11 (.loadB 0 (some 7) (.t 3)),oF 1 12 Ij [(.t 11)],oa 2 13 (.un .not (.t 12)),om 3 14 13,og 4 15 (.mv (.t 1)) 14 false,og 5 16 (.bin .lss (.t 15) AD) 14 false,oa 6 17 (.pick (.t 14) AS (.t 16)),om 7 18 17,og 8 19 (.mv (.t 1)) 18 false,og 9 20 (.fieldA 0 (.t 3)) 18 false,og 10 21 (.fieldA 0 (.t 20)) 18 false,og 11 22 (.loadB 0 none (.t 21)) 18 false,og 12 23 (.bin .geq (.t 19) (.t 22)) 18 false,oa 13 24 (.pick (.t 18) AS (.t 23)),om 14 25 24,og 15 26 (.loadB 0 (some 7) (.t 3)) 25 false,og 16 27 (.mv (.t 1)) 25 false,⟨17,some 28,.call false En.S En.P En.D [(.t 26),(.t 27)],(some (25,false)),[]⟩,og 18 29 (.bin .geq (.t 28) AD) 25 false,oa 19 30 (.pick (.t 25) AS (.t 29))]) (.cond (.t 30) (.seq [8,7,6] (.region [oa 0 31 (.build [Ab,.nils,.nils,Ab,.nils,Ab,Cr] []),os 1 (.storeB 1 7 (.t 6) (.t 31)),oa 2 7 (.mv (.c .nils)),oa 3 8 (.mv An)]) .ret) .skip)) (.seq [10,9,6] (.region [oa 0 33 (.loadB 0 (some 7) (.t 3)),om 1 34 1,om 2 35 2,oF 3 36 KG [(.t 33),(.t 34),(.t 35)],om 4 32 36,oa 5 37 (.extract (.t 32) 0),oa 6 38 (.extract (.t 32) 1),oa 7 9 (.allocB 2 [Ab,.nils,.nils,Ab,.nils,Ab,Cr]),os 8 (.storeB 2 7 (.t 9) (.t 37)),om 9 10 38]) (.seq [8,7,6] (.region [ob 0 39 (.loadB 2 (some 7) (.t 9)),om 1 40 10,os 2 (.storeB 1 7 (.t 6) (.t 39)),om 3 7 40,oa 4 8 (.mv AS)]) .ret))))
def Iy:Fn:=⟨⟨3,41,3,false,[.cell 6 (some 7),.tmp 7,.tmp 8],wQ⟩,[.agg [Av,(.frz,.sl (.one (.sl Bs))),(.frz,.sl (.one (.sl BC))),Av,(.frz,.sl Bn),Av,(.frz,.bool)],.one .frz (.int .i64),.one .frz (.bool)],.tup [.agg [Ao,(.own,.sl (.one (.sl Bs))),(.own,.sl (.one (.sl BC))),Ao,(.own,.sl Bn),Ao,(.own,.bool)],.one .own (.sl (.cons (.int .i64) (.one (.slf (.one (.int .i64)))))),.one .own (.bool)]⟩
theorem ia:Iy.A:=AR ⟨fa,UJ,wC,trivial⟩
def KH:Fc->Cf×Fe×Bool:=Iy.V
def MN:Fc->Prop:=Iy.O
theorem hU:Iy.B:=AV ⟨fq,UR,wV,trivial⟩ (by kernel_rfl) (λ x=>by kernel_rfl)
end
section
set_option maxRecDepth 100000
theorem vm (x):Ra x=(x.1,(lApp [] x.2)):=(KA.v x).trans (by kernel_rfl)
theorem uL (x):Zc x=(Aw (((List.length ([]:List Int))+(List.length x.2))*1)):=(KA.o x).trans (by kernel_rfl)
def TD(x:JQ)(x0:Mk):Bool:=(iLt x0.2.1 (lLen x.2))
def TE(x:JQ)(x0:Mk):Mk:=((bSel (bNot (N8 (x0.2.2,(lGet x.2 (iNat x0.2.1) (0,[]))))) (lApp x0.1 [(Ra (lGet x.2 (iNat x0.2.1) (0,[])))]) x0.1),(iAdd .i64 x0.2.1 1),(lGet x.2 (iNat x0.2.1) (0,[])))
def Yo(x:JQ)(x0:Mk):Prop:=(((iLt x0.2.1 (lLen x.2))=true->(((((0:Int)<=x0.2.1)/\(x0.2.1<(((List.length x.2):Int))))/\(((iNat x0.2.1)<(List.length x.2))/\((TP (x0.2.2,(lGet x.2 (iNat x0.2.1) (0,[]))))/\(((bNot (N8 (x0.2.2,(lGet x.2 (iNat x0.2.1) (0,[])))))=true->((((0:Int)<=x0.2.1)/\(x0.2.1<(((List.length x.2):Int))))/\(((iNat x0.2.1)<(List.length x.2))/\((Zc (lGet x.2 (iNat x0.2.1) (0,[])))/\(Aw (((List.length x0.1)+(List.length [(Ra (lGet x.2 (iNat x0.2.1) (0,[])))]))*2))))))/\((bNot (N8 (x0.2.2,(lGet x.2 (iNat x0.2.1) (0,[])))))=false->True)))))/\((((0:Int)<=x0.2.1)/\(x0.2.1<(((List.length x.2):Int))))/\((iNat x0.2.1)<(List.length x.2)))))/\((iLt x0.2.1 (lLen x.2))=false->True))
theorem qS (x):Qr x=(Am (TD x) (TE x) ([],0,x.1)).1:=(Ic.v x).trans (by kernel_rfl)
theorem qG (x):Qq x=(LoopOk (TD x) (TE x) (Yo x) ([],0,x.1)):=(Ic.o x).trans (by kernel_rfl)
theorem tM (x):QY x=(bSel (bOr (bNot (Gg x.1)) (iLt (Fw x) 0)) ((0,[],[],0,[],0,false),[],false) (((DJ x.1).1,(DJ x.1).2.1,(DJ x.1).2.2.1,(DJ x.1).2.2.2.1,(Dl ((DJ x.1).2.2.2.2.1,(Fw x))),(DJ x.1).2.2.2.2.2),(Qr ((BS x.1.2.2.2.2.1),[(BS (Dl ((DJ x.1).2.2.2.2.1,(Fw x))))])),true)):=(Kw.v x).trans (by kernel_rfl)
theorem sS (x):QK x=((Q1 x)/\((N9 x.1)/\(((bOr (bNot (Gg x.1)) (iLt (Fw x) 0))=true->True)/\((bOr (bNot (Gg x.1)) (iLt (Fw x) 0))=false->((Oz x.1)/\((MB ((DJ x.1).2.2.2.2.1,(Fw x)))/\((Lq x.1.2.2.2.2.1)/\((Lq (Dl ((DJ x.1).2.2.2.2.1,(Fw x))))/\((Qq ((BS x.1.2.2.2.2.1),[(BS (Dl ((DJ x.1).2.2.2.2.1,(Fw x))))]))/\(((List.length (DJ x.1).2.1)=(List.length (DJ x.1).2.1))/\(((List.length (DJ x.1).2.2.1)=(List.length (DJ x.1).2.2.1))/\((List.length (Dl ((DJ x.1).2.2.2.2.1,(Fw x))))=(List.length (Dl ((DJ x.1).2.2.2.2.1,(Fw x)))))))))))))))):=(Kw.o x).trans (by kernel_rfl)
theorem qp (x):B4 x=((H6 (x.1,x.2.1)).1,(H6 (x.1,x.2.1)).2,(MC x.2.2.1),x.2.2.2):=(H5.v x).trans (by kernel_rfl)
theorem qu (x):Qm x=((Qh (x.1,x.2.1))/\((Qn x.2.2.1)/\(Aw ((List.length x.2.2.2.2.1)*5)))):=(H5.o x).trans (by kernel_rfl)
def Tq(x:JQ)(x0:Mk):Bool:=(iLt x0.2.1 (lLen x.2))
def Tp(x:JQ)(x0:Mk):Mk:=((bSel (bNot (Jj (x0.2.2,(lGet x.2 (iNat x0.2.1) (0,[]))))) (lApp x0.1 [(lGet x.2 (iNat x0.2.1) (0,[]))]) x0.1),(iAdd .i64 x0.2.1 1),(bSel (bNot (Jj (x0.2.2,(lGet x.2 (iNat x0.2.1) (0,[]))))) (lGet x.2 (iNat x0.2.1) (0,[])).1 (lGet x.2 (iNat x0.2.1) (0,[])).1),(bSel (bNot (Jj (x0.2.2,(lGet x.2 (iNat x0.2.1) (0,[]))))) (lGet x.2 (iNat x0.2.1) (0,[])).2 (lGet x.2 (iNat x0.2.1) (0,[])).2))
def Yl(x:JQ)(x0:Mk):Prop:=(((iLt x0.2.1 (lLen x.2))=true->((((0:Int)<=x0.2.1)/\(x0.2.1<(((List.length x.2):Int))))/\(((iNat x0.2.1)<(List.length x.2))/\((TN (x0.2.2,(lGet x.2 (iNat x0.2.1) (0,[]))))/\(((bNot (Jj (x0.2.2,(lGet x.2 (iNat x0.2.1) (0,[])))))=true->(Aw (((List.length x0.1)+(List.length [(lGet x.2 (iNat x0.2.1) (0,[]))]))*2)))/\((bNot (Jj (x0.2.2,(lGet x.2 (iNat x0.2.1) (0,[])))))=false->True))))))/\((iLt x0.2.1 (lLen x.2))=false->True))
theorem pA (x):Qg x=(Am (Tq x) (Tp x) ([],0,x.1)).1:=(FQ.v x).trans (by kernel_rfl)
theorem pz (x):Qf x=(LoopOk (Tq x) (Tp x) (Yl x) ([],0,x.1)):=(FQ.o x).trans (by kernel_rfl)
theorem tF (x):UO x=(((B4 x.1).1,(B4 x.1).2.1,(B4 x.1).2.2.1,(B4 x.1).2.2.2.1,(lApp (lTake (B4 x.1).2.2.2.2.1 (lN (lSub (B4 x.1).2.2.2.2.1 0 (iNat (B1 x))))) (lSub (B4 x.1).2.2.2.2.1 (iNat (iAdd .i64 (B1 x) 1)) (lN (B4 x.1).2.2.2.2.1))),(B4 x.1).2.2.2.2.2),(Qg ((BR x.1.2.2.2.2.1),[(BR (lApp (lTake (B4 x.1).2.2.2.2.1 (lN (lSub (B4 x.1).2.2.2.2.1 0 (iNat (B1 x))))) (lSub (B4 x.1).2.2.2.2.1 (iNat (iAdd .i64 (B1 x) 1)) (lN (B4 x.1).2.2.2.2.1))))]))):=(Kt.v x).trans (by kernel_rfl)
theorem tl (x):YV x=((Qm x.1)/\((Ls x)/\((((0:Int)<=(B1 x))/\((0<=(iNat (B1 x)))/\(((iNat (B1 x))<=(List.length (B4 x.1).2.2.2.2.1))/\(0<(List.length (B4 x.1).2.2.2.2.1)))))/\((((0:Int)<=(iAdd .i64 (B1 x) 1))/\(((iNat (iAdd .i64 (B1 x) 1))<=(lN (B4 x.1).2.2.2.2.1))/\(((lN (B4 x.1).2.2.2.2.1)<=(List.length (B4 x.1).2.2.2.2.1))/\(0<(List.length (B4 x.1).2.2.2.2.1)))))/\(((0<(List.length (B4 x.1).2.2.2.2.1))/\(((List.length (lSub (B4 x.1).2.2.2.2.1 0 (iNat (B1 x))))<=(List.length (B4 x.1).2.2.2.2.1))/\(Aw (((List.length (lSub (B4 x.1).2.2.2.2.1 0 (iNat (B1 x))))+(List.length (lSub (B4 x.1).2.2.2.2.1 (iNat (iAdd .i64 (B1 x) 1)) (lN (B4 x.1).2.2.2.2.1))))*5))))/\((Lp x.1.2.2.2.2.1)/\((Lp (lApp (lTake (B4 x.1).2.2.2.2.1 (lN (lSub (B4 x.1).2.2.2.2.1 0 (iNat (B1 x))))) (lSub (B4 x.1).2.2.2.2.1 (iNat (iAdd .i64 (B1 x) 1)) (lN (B4 x.1).2.2.2.2.1))))/\(Qf ((BR x.1.2.2.2.2.1),[(BR (lApp (lTake (B4 x.1).2.2.2.2.1 (lN (lSub (B4 x.1).2.2.2.2.1 0 (iNat (B1 x))))) (lSub (B4 x.1).2.2.2.2.1 (iNat (iAdd .i64 (B1 x) 1)) (lN (B4 x.1).2.2.2.2.1))))]))))))))):=(Kt.o x).trans (by kernel_rfl)
theorem tq (x):Q2 x=(bSel (bOr (bNot (D9 x.1)) (iLt (B1 x) 0)) ((0,[],[],0,[],0,false),[],false) ((UO x).1,(UO x).2,true)):=(Kz.v x).trans (by kernel_rfl)
theorem tc (x):QS x=(((Of x.1)/\(((bNot (D9 x.1))=true->True)/\((bNot (D9 x.1))=false->(Ls x))))/\(((bOr (bNot (D9 x.1)) (iLt (B1 x) 0))=true->True)/\((bOr (bNot (D9 x.1)) (iLt (B1 x) 0))=false->(YV x)))):=(Kz.o x).trans (by kernel_rfl)
theorem pU (x):EY x=(bOr (BF (x,1,36)) (bOr (iEq x 39) (iEq x 42))):=(Kb.v x).trans (by kernel_rfl)
theorem pY (x):Ys x=(Ed (x,1,36)):=(Kb.o x).trans (by kernel_rfl)
theorem wP (x):Rg x=((x.2.2.1,x.2.2.2.1,(bSel (bAnd (bAnd (bNot (bNot (EY x.2.2.2.1))) x.1.2.2.2.2.2.2) (bAnd (iLe x.2.2.2.1 26) (iEq (iAndNot .i64 (iOr .i64 x.2.2.2.2.1 x.1.2.2.2.2.2.1) 2) 0))) 2 (iOr .i64 x.2.2.2.2.1 x.1.2.2.2.2.2.1)),x.2.2.2.2.2),x.1.1,x.1.2.1,x.1.2.2.1,x.1.2.2.2.1,x.1.2.2.2.2.1,0,(bAnd (bNot (bNot (EY x.2.2.2.1))) x.1.2.2.2.2.2.2)):=by unfold Rg;exact(congrFun (shut _).2 x).trans (by kernel_rfl)
theorem wB (x):Q3 x=(Ys x.2.2.2.1):=by unfold Q3;exact(congrFun (shut _).2 x).trans (by kernel_rfl)
theorem rS (x):Om x=(bSel (bOr (bNot (iEq x.2.2.1 2)) (bNot (iGt x.2.2.2.1 0))) (x.2.2,x.1.1,x.1.2.1,x.1.2.2.1,(bSel (iEq x.2.2.1 2) x.1.2.2.2.1 (bSel (iEq x.2.2.1 4) (iXor .i64 x.1.2.2.2.1 (iShl .i64 1 x.2.2.2.2.2)) (bSel (iEq x.2.2.1 5) (iAndNot .i64 (iShl .i64 1 x.2.2.2.2.2) 1) x.1.2.2.2.1))),x.1.2.2.2.2.1,(bSel (iEq x.2.2.1 2) x.1.2.2.2.2.2.1 (bSel (iEq x.2.2.1 4) x.1.2.2.2.2.2.1 (bSel (iEq x.2.2.1 5) x.1.2.2.2.2.2.1 (bSel (iEq x.2.2.1 8) (bSel (iEq (iAnd .i64 x.1.2.2.2.2.2.1 x.2.2.2.2.1) x.2.2.2.2.1) (iAndNot .i64 x.1.2.2.2.2.2.1 x.2.2.2.2.1) (iOr .i64 x.1.2.2.2.2.2.1 x.2.2.2.2.1)) x.1.2.2.2.2.2.1)))),(bSel (iEq x.2.2.1 2) x.1.2.2.2.2.2.2 (bSel (iEq x.2.2.1 4) x.1.2.2.2.2.2.2 (bSel (iEq x.2.2.1 5) x.1.2.2.2.2.2.2 (bSel (iEq x.2.2.1 8) x.1.2.2.2.2.2.2 (bSel (iEq x.2.2.1 10) (bNot x.1.2.2.2.2.2.2) x.1.2.2.2.2.2.2)))))) (Rg x)):=by unfold Om;exact(congrFun (shut _).2 x).trans (by kernel_rfl)
theorem sj (x):Oa x=(((iEq x.2.2.1 2)=true->(((iGt x.2.2.2.1 0)=true->(Q3 x))/\((iGt x.2.2.2.1 0)=false->True)))/\((iEq x.2.2.1 2)=false->(((iEq x.2.2.1 4)=true->((0:Int)<=x.2.2.2.2.2))/\((iEq x.2.2.1 4)=false->(((iEq x.2.2.1 5)=true->((0:Int)<=x.2.2.2.2.2))/\((iEq x.2.2.1 5)=false->True)))))):=by unfold Oa;exact(congrFun (shut _).2 x).trans (by kernel_rfl)
def Lr(x:Fc):=BF (x.2.1,0,(iSub .i64 x.1.1 1))
def Ck(x:Fc):=Uw ((x.1.1,x.1.2.1),(QP (x.1.2.2.2.1,x.1.2.2.2.2.1)),x.2.1)
def BN(x:Fc):=Om ((DJ x.1),((bSel x.2.2 (DK (Ck x)).1 (DA (Ck x)).1),(bSel x.2.2 (DK (Ck x)).2.1 (DA (Ck x)).2.1),(bSel x.2.2 (DK (Ck x)).2.2.1 (DA (Ck x)).2.2.1),(bSel x.2.2 (DK (Ck x)).2.2.2 (DA (Ck x)).2.2.2)),(bSel x.2.2 (DK (Ck x)).1 (DA (Ck x)).1),(bSel x.2.2 (DK (Ck x)).2.1 (DA (Ck x)).2.1),(bSel x.2.2 (DK (Ck x)).2.2.1 (DA (Ck x)).2.2.1),(bSel x.2.2 (DK (Ck x)).2.2.2 (DA (Ck x)).2.2.2))
def QL(x:Fc):=BS (lApp (BN x).2.2.2.2.2.1 [(x.2.1,(BN x).1)])
def QH(x:Fc):=Fp ((lApp (BN x).2.2.2.2.2.1 [(x.2.1,(BN x).1)]),(lGet x.1.2.2.1 (iNat (BN x).1.2.2.2) []))
theorem ik (x):Iz x=(bSel (bOr (bNot (Gg x.1)) (bOr (bNot (Lr x)) (iGe (Fw (x.1,x.2.1)) 0))) ((0,[],[],0,[],0,false),[],false) (((BN x).2.1,(BN x).2.2.1,(BN x).2.2.2.1,(BN x).2.2.2.2.1,(lApp (BN x).2.2.2.2.2.1 [(x.2.1,(BN x).1)]),(BN x).2.2.2.2.2.2),(Qr ((BS x.1.2.2.2.2.1),(lApp (bSel (bAnd (iEq (BN x).1.1 9) (iLt (BN x).1.2.2.2 (lLen x.1.2.2.1))) (QH x) []) [(QL x)]))),true)):=(IA.v x).trans (by kernel_rfl)
theorem gE (x):LC x=(((N9 x.1)/\(((bNot (Gg x.1))=true->True)/\((bNot (Gg x.1))=false->((Ed (x.2.1,0,(iSub .i64 x.1.1 1)))/\(((bNot (Lr x))=true->True)/\((bNot (Lr x))=false->(Q1 (x.1,x.2.1))))))))/\(((bOr (bNot (Gg x.1)) (bOr (bNot (Lr x)) (iGe (Fw (x.1,x.2.1)) 0)))=true->True)/\((bOr (bNot (Gg x.1)) (bOr (bNot (Lr x)) (iGe (Fw (x.1,x.2.1)) 0)))=false->((Oz x.1)/\((T9 (x.1.2.2.2.1,x.1.2.2.2.2.1))/\((T6 ((x.1.1,x.1.2.1),(QP (x.1.2.2.2.1,x.1.2.2.2.2.1)),x.2.1))/\(((x.2.2=true->(U0 (Ck x)))/\(x.2.2=false->(Vk (Ck x))))/\((Oa ((DJ x.1),((bSel x.2.2 (DK (Ck x)).1 (DA (Ck x)).1),(bSel x.2.2 (DK (Ck x)).2.1 (DA (Ck x)).2.1),(bSel x.2.2 (DK (Ck x)).2.2.1 (DA (Ck x)).2.2.1),(bSel x.2.2 (DK (Ck x)).2.2.2 (DA (Ck x)).2.2.2)),(bSel x.2.2 (DK (Ck x)).1 (DA (Ck x)).1),(bSel x.2.2 (DK (Ck x)).2.1 (DA (Ck x)).2.1),(bSel x.2.2 (DK (Ck x)).2.2.1 (DA (Ck x)).2.2.1),(bSel x.2.2 (DK (Ck x)).2.2.2 (DA (Ck x)).2.2.2)))/\((Aw (((List.length (BN x).2.2.2.2.2.1)+(List.length [(x.2.1,(BN x).1)]))*5))/\((((bAnd (iEq (BN x).1.1 9) (iLt (BN x).1.2.2.2 (lLen x.1.2.2.1)))=true->((((0:Int)<=(BN x).1.2.2.2)/\((BN x).1.2.2.2<(((List.length x.1.2.2.1):Int))))/\(((iNat (BN x).1.2.2.2)<(List.length x.1.2.2.1))/\(NX ((lApp (BN x).2.2.2.2.2.1 [(x.2.1,(BN x).1)]),(lGet x.1.2.2.1 (iNat (BN x).1.2.2.2) []))))))/\((bAnd (iEq (BN x).1.1 9) (iLt (BN x).1.2.2.2 (lLen x.1.2.2.1)))=false->True))/\((Lq (lApp (BN x).2.2.2.2.2.1 [(x.2.1,(BN x).1)]))/\((Aw (((List.length (bSel (bAnd (iEq (BN x).1.1 9) (iLt (BN x).1.2.2.2 (lLen x.1.2.2.1))) (QH x) []))+(List.length [(QL x)]))*2))/\((Lq x.1.2.2.2.2.1)/\((Qq ((BS x.1.2.2.2.2.1),(lApp (bSel (bAnd (iEq (BN x).1.1 9) (iLt (BN x).1.2.2.2 (lLen x.1.2.2.1))) (QH x) []) [(QL x)])))/\(((List.length (BN x).2.2.1)=(List.length (BN x).2.2.1))/\(((List.length (BN x).2.2.2.1)=(List.length (BN x).2.2.2.1))/\((List.length (lApp (BN x).2.2.2.2.2.1 [(x.2.1,(BN x).1)]))=(List.length (lApp (BN x).2.2.2.2.2.1 [(x.2.1,(BN x).1)]))))))))))))))))))):=(IA.o x).trans (by kernel_rfl)
theorem qx (x):Ll x=(bSel (iGe x 1) (bOr (iLe x 36) (bOr (iEq x 39) (iEq x 42))) (bOr (iEq x 39) (iEq x 42))):=(H7.v x).trans (by kernel_rfl)
theorem qc (x):Yq x=True:=(H7.o x).trans (by kernel_rfl)
theorem vI (x):ON x=(bSel (bOr (bNot (iEq x.2.2.1 2)) (bNot (iEq x.2.2.2.1 0))) ((x.2.2.1,x.2.2.2.1,(bSel (iEq x.2.2.1 2) (bSel (bAnd (bAnd x.1.2.2.2.2.2.2 (Ll x.2.2.2.1)) (bAnd (iLe x.2.2.2.1 26) (iEq (iAndNot .i64 (iOr .i64 x.2.2.2.2.1 x.1.2.2.2.2.2.1) 2) 0))) 2 (iOr .i64 x.2.2.2.2.1 x.1.2.2.2.2.2.1)) x.2.2.2.2.1),x.2.2.2.2.2),x.1.1,x.1.2.1,x.1.2.2.1,(bSel (iEq x.2.2.1 2) x.1.2.2.2.1 (bSel (iEq x.2.2.1 4) (iXor .i64 x.1.2.2.2.1 (iShl .i64 1 x.2.2.2.2.2)) (bSel (iEq x.2.2.1 5) (iAndNot .i64 (iShl .i64 1 x.2.2.2.2.2) 1) x.1.2.2.2.1))),x.1.2.2.2.2.1,(bSel (iEq x.2.2.1 2) (bSel (bAnd (bAnd x.1.2.2.2.2.2.2 (Ll x.2.2.2.1)) (bAnd (iLe x.2.2.2.1 26) (iEq (iAndNot .i64 (iOr .i64 x.2.2.2.2.1 x.1.2.2.2.2.2.1) 2) 0))) 0 0) (bSel (iEq x.2.2.1 4) x.1.2.2.2.2.2.1 (bSel (iEq x.2.2.1 5) x.1.2.2.2.2.2.1 (bSel (iEq x.2.2.1 8) (bSel (iEq (iAnd .i64 x.1.2.2.2.2.2.1 x.2.2.2.2.1) x.2.2.2.2.1) (iAndNot .i64 x.1.2.2.2.2.2.1 x.2.2.2.2.1) (iOr .i64 x.1.2.2.2.2.2.1 x.2.2.2.2.1)) x.1.2.2.2.2.2.1)))),(bSel (iEq x.2.2.1 2) (bSel (bAnd (bAnd x.1.2.2.2.2.2.2 (Ll x.2.2.2.1)) (bAnd (iLe x.2.2.2.1 26) (iEq (iAndNot .i64 (iOr .i64 x.2.2.2.2.1 x.1.2.2.2.2.2.1) 2) 0))) (bAnd x.1.2.2.2.2.2.2 (Ll x.2.2.2.1)) (bAnd x.1.2.2.2.2.2.2 (Ll x.2.2.2.1))) (bSel (iEq x.2.2.1 4) x.1.2.2.2.2.2.2 (bSel (iEq x.2.2.1 5) x.1.2.2.2.2.2.2 (bSel (iEq x.2.2.1 8) x.1.2.2.2.2.2.2 (bSel (iEq x.2.2.1 10) (bNot x.1.2.2.2.2.2.2) x.1.2.2.2.2.2.2)))))) (x.2.2,x.1)):=by unfold ON;exact(congrFun (shut _).2 x).trans (by kernel_rfl)
theorem uf (x):OC x=(((iEq x.2.2.1 2)=true->(((iEq x.2.2.2.1 0)=true->True)/\((iEq x.2.2.2.1 0)=false->((x.1.2.2.2.2.2.2=true->(Yq x.2.2.2.1))/\(x.1.2.2.2.2.2.2=false->True)))))/\((iEq x.2.2.1 2)=false->(((iEq x.2.2.1 4)=true->((0:Int)<=x.2.2.2.2.2))/\((iEq x.2.2.1 4)=false->(((iEq x.2.2.1 5)=true->((0:Int)<=x.2.2.2.2.2))/\((iEq x.2.2.1 5)=false->True)))))):=by unfold OC;exact(congrFun (shut _).2 x).trans (by kernel_rfl)
def Jl(x:Fc):=QZ ((x.1.1,x.1.2.1),(Ea (x.1.2.2.2.1,x.1.2.2.2.2.1)),x.2.1)
def EF(x:Fc):=Cc (lGet (lGet x.1.2.1 (iNat (Jl x)) []) (iNat x.2.1) (0,0,0,0))
def EE(x:Fc):=Ve (lGet (lGet x.1.2.1 (iNat (Jl x)) []) (iNat x.2.1) (0,0,0,0))
def BM(x:Fc):=ON ((B4 x.1),((bSel x.2.2 (EE x).1 (EF x).1),(bSel x.2.2 (EE x).2.1 (EF x).2.1),(bSel x.2.2 (EE x).2.2.1 (EF x).2.2.1),(bSel x.2.2 (EE x).2.2.2 (EF x).2.2.2)),(bSel x.2.2 (EE x).1 (EF x).1),(bSel x.2.2 (EE x).2.1 (EF x).2.1),(bSel x.2.2 (EE x).2.2.1 (EF x).2.2.1),(bSel x.2.2 (EE x).2.2.2 (EF x).2.2.2))
def QN(x:Fc):=BR (lApp (BM x).2.2.2.2.2.1 [(x.2.1,(BM x).1)])
def QR(x:Fc):=NZ ((lApp (BM x).2.2.2.2.2.1 [(x.2.1,(BM x).1)]),(lGet x.1.2.2.1 (iNat (BM x).1.2.2.2) []))
theorem wO (x):VE x=(((BM x).2.1,(BM x).2.2.1,(BM x).2.2.2.1,(BM x).2.2.2.2.1,(lApp (BM x).2.2.2.2.2.1 [(x.2.1,(BM x).1)]),(BM x).2.2.2.2.2.2),(Qg ((BR x.1.2.2.2.2.1),(lApp (bSel (bAnd (iEq (BM x).1.1 9) (iLt (BM x).1.2.2.2 (lLen x.1.2.2.1))) (QR x) []) [(QN x)])))):=(KG.v x).trans (by kernel_rfl)
theorem wK (x):Zn x=((Qm x.1)/\((QF (x.1.2.2.2.1,x.1.2.2.2.2.1))/\((QM ((x.1.1,x.1.2.1),(Ea (x.1.2.2.2.1,x.1.2.2.2.2.1)),x.2.1))/\((((0:Int)<=(Jl x))/\((Jl x)<(((List.length x.1.2.1):Int))))/\(((iNat (Jl x))<(List.length x.1.2.1))/\((((0:Int)<=x.2.1)/\(x.2.1<(((List.length (lGet x.1.2.1 (iNat (Jl x)) [])):Int))))/\(((iNat x.2.1)<(List.length (lGet x.1.2.1 (iNat (Jl x)) [])))/\(((x.2.2=true->(UD (lGet (lGet x.1.2.1 (iNat (Jl x)) []) (iNat x.2.1) (0,0,0,0))))/\(x.2.2=false->(Q8 (lGet (lGet x.1.2.1 (iNat (Jl x)) []) (iNat x.2.1) (0,0,0,0)))))/\((OC ((B4 x.1),((bSel x.2.2 (EE x).1 (EF x).1),(bSel x.2.2 (EE x).2.1 (EF x).2.1),(bSel x.2.2 (EE x).2.2.1 (EF x).2.2.1),(bSel x.2.2 (EE x).2.2.2 (EF x).2.2.2)),(bSel x.2.2 (EE x).1 (EF x).1),(bSel x.2.2 (EE x).2.1 (EF x).2.1),(bSel x.2.2 (EE x).2.2.1 (EF x).2.2.1),(bSel x.2.2 (EE x).2.2.2 (EF x).2.2.2)))/\((Aw (((List.length (BM x).2.2.2.2.2.1)+(List.length [(x.2.1,(BM x).1)]))*5))/\((((bAnd (iEq (BM x).1.1 9) (iLt (BM x).1.2.2.2 (lLen x.1.2.2.1)))=true->((((0:Int)<=(BM x).1.2.2.2)/\((BM x).1.2.2.2<(((List.length x.1.2.2.1):Int))))/\(((iNat (BM x).1.2.2.2)<(List.length x.1.2.2.1))/\(NY ((lApp (BM x).2.2.2.2.2.1 [(x.2.1,(BM x).1)]),(lGet x.1.2.2.1 (iNat (BM x).1.2.2.2) []))))))/\((bAnd (iEq (BM x).1.1 9) (iLt (BM x).1.2.2.2 (lLen x.1.2.2.1)))=false->True))/\((Lp (lApp (BM x).2.2.2.2.2.1 [(x.2.1,(BM x).1)]))/\((Aw (((List.length (bSel (bAnd (iEq (BM x).1.1 9) (iLt (BM x).1.2.2.2 (lLen x.1.2.2.1))) (QR x) []))+(List.length [(QN x)]))*2))/\((Lp x.1.2.2.2.2.1)/\((Qf ((BR x.1.2.2.2.2.1),(lApp (bSel (bAnd (iEq (BM x).1.1 9) (iLt (BM x).1.2.2.2 (lLen x.1.2.2.1))) (QR x) []) [(QN x)])))/\(((List.length (BM x).2.2.1)=(List.length (BM x).2.2.1))/\(((List.length (BM x).2.2.2.1)=(List.length (BM x).2.2.2.1))/\((List.length (lApp (BM x).2.2.2.2.2.1 [(x.2.1,(BM x).1)]))=(List.length (lApp (BM x).2.2.2.2.2.1 [(x.2.1,(BM x).1)])))))))))))))))))))):=(KG.o x).trans (by kernel_rfl)
theorem hZ (x):KH x=(bSel (bOr (bNot (D9 x.1)) (bOr (iLt x.2.1 0) (bOr (iGe x.2.1 x.1.1) (iGe (B1 (x.1,x.2.1)) 0)))) ((0,[],[],0,[],0,false),[],false) ((VE x).1,(VE x).2,true)):=(Iy.v x).trans (by kernel_rfl)
theorem il (x):MN x=(((Of x.1)/\(((bNot (D9 x.1))=true->True)/\((bNot (D9 x.1))=false->(((iLt x.2.1 0)=true->True)/\((iLt x.2.1 0)=false->(((iGe x.2.1 x.1.1)=true->True)/\((iGe x.2.1 x.1.1)=false->(Ls (x.1,x.2.1)))))))))/\(((bOr (bNot (D9 x.1)) (bOr (iLt x.2.1 0) (bOr (iGe x.2.1 x.1.1) (iGe (B1 (x.1,x.2.1)) 0))))=true->True)/\((bOr (bNot (D9 x.1)) (bOr (iLt x.2.1 0) (bOr (iGe x.2.1 x.1.1) (iGe (B1 (x.1,x.2.1)) 0))))=false->(Zn x)))):=(Iy.o x).trans (by kernel_rfl)
attribute [irreducible] Ra Zc Qr Qq QY QK B4 Qm Qg Qf UO YV Q2 QS EY Ys Iz LC Ll Yq VE Zn KH MN
end
section
set_option maxRecDepth 8000
def w5:DCode:=(.seq [4,1,0] (.region [oa 0 4 (.allocB 0 [Ab,.nils,.nils,Ab,.nils,Ab,Cr])]) (.seq [5,4,1,0] (.region [⟨0,some 9,.a false (.litSlice 1 0 [] []) (some (.one (.sl BC))),none,[]⟩,om 1 5 9]) (.seq [5,4,1,0] (.seq [6,5,4,1,0] (.region [om 0 10 0,op 1 11 Cb Dz E4 [(.t 10),(.c (.int .i64 4))],om 2 6 11]) (.block 0 (.loop [0,1,4,5,6] 1 (.seq [6,5,4,1,0] (.seq [13,6,5,4,1,0] (.region [om 0 12 6,oa 1 13 (.bin .gtr (.t 12) AD)]) (.cond (.t 13) .skip (.exit 0))) (.seq [6,5,4,1,0] (.block 1 (.region [om 0 16 5,om 1 17 0,op 2 18 OP Re ib [(.t 17)],⟨3,some 19,.a false (.litSlice 1 1 [.nils] [(0,1,(.t 18))]) (some (.one (.sl BC))),none,[]⟩,oa 4 20 (.app 1 (.t 16) (.t 19)),om 5 5 20])) (.region [om 0 14 6,oa 1 15 (.bin .sub (.t 14) Au),om 2 6 15])))))) (.seq [7,4] (.region [om 0 22 0,om 1 23 1,op 2 24 OE Q9 gJ [(.t 22),(.t 23)],on 3 25 5,oF 4 26 Kk [(.t 24),(.t 25)],om 5 21 26,oa 6 27 (.extract (.t 21) 0),oa 7 28 (.extract (.t 21) 1),oa 8 7 (.allocB 1 [Ab,.nils,.nils,Ab,.nils,Ab,Cr]),os 9 (.storeB 1 7 (.t 7) (.t 27)),om 10 8 28]) (.seq [4] (.region [ob 0 29 (.loadB 1 (some 7) (.t 7)),os 1 (.storeB 0 7 (.t 4) (.t 29))]) .ret)))))
def LF:DFun:=⟨2,30,2,false,[.cell 4 (some 7)],w5⟩
@[irreducible] def OQ:Bb:=EN LF.er.er
@[irreducible] def Ri:B9:=C9 LF.er
theorem wy:D4 OQ Ri:=by unfold OQ Ri;exact FY (f:=LF.er) ⟨Fs,tV,vF,qF,trivial⟩
def VJ:List HT:=[.one .frz (.int .i64)]
def VG:List (Ql×CT):=[(.frz,.sl (.one (.int .u8))),Ao,Ao]
def VO:QT:=.one (.agg [Ao,(.own,.sl (.one (.sl Bs))),(.own,.sl (.one (.sl BC))),Ao,(.own,.sl Bn),Ao,(.own,.bool)])
@[irreducible] def AN(x:Cw):Cf×A6:=(shut λ x=>HV LF VJ VG VO x).1 x
@[irreducible] def OH(x:Cw):Prop:=(shut λ x=>HK LF VJ VG VO x).1 x
def ir:CN:=IK VJ VG VO OH AN
theorem wM:DR Ri ir:=by unfold Ri;exact KJ (f:=LF) (hs:=VJ) (cs:=VG) (q:=VO) ⟨Fq,uJ,uz,rm,trivial⟩ (by kernel_rfl) (λ x=>by kernel_rfl) (λ x h=>by unfold OH at h;exact Eq.mp (congrFun (shut _).2 x) h) (λ x=>by unfold AN;exact(congrFun (shut _).2 x).symm)
def uF:DCode:=(.seq [4,1,0] (.region [oa 0 4 (.allocB 0 [Ab,.nils,.nils,Ab,.nils,Ab,Cr])]) (.seq [5,4,1,0] (.region [om 0 11 0,om 1 12 1,op 2 13 OQ Ri ir [(.t 11),(.t 12)],oa 3 5 (.allocB 1 [Ab,.nils,.nils,Ab,.nils,Ab,Cr]),os 4 (.storeB 1 7 (.t 5) (.t 13))]) (.seq [5,4] (.seq [6,5,4,1,0] (.region [om 0 14 0,op 1 15 Cb Dz E4 [(.t 14),(.c (.int .i64 8))],om 2 6 15]) (.block 0 (.loop [0,1,4,5,6] 1 (.seq [6,5,4,1,0] (.seq [17,6,5,4,1,0] (.region [om 0 16 6,oa 1 17 (.bin .gtr (.t 16) AD)]) (.cond (.t 17) .skip (.exit 0))) (.seq [6,5,4,1,0] (.scope (.block 1 (.seq [7,6,5,4,1,0] (.region [om 0 20 0,om 1 21 1,op 2 22 Cb Dz E4 [(.t 20),(.t 21)],om 3 7 22]) (.seq [10,8,7,6,5,4,1,0] (.region [oa 9 8 (.allocH [Ab,.nils,.nils,Ab,.nils,Ab,Cr]),oa 0 24 (.loadB 1 (some 7) (.t 5)),om 1 25 7,om 2 26 0,xP 3 27 Hq Jr gA [(.t 26),(.c (.int .i64 2))] [2],xF 4 28 IA [(.t 24),(.t 25),(.t 27)] (rg 4),xA 5 23 (.mv (.t 28)) (rg 5),xA 6 29 (.extract (.t 23) 0) (rg 6),xA 7 30 (.extract (.t 23) 1) [0,1,2,3,4,5],xA 8 31 (.extract (.t 23) 2) [0,1,2,3,4,5],xS 10 (.storeH 7 (.t 8) (.t 29)) [0,1,2,3,4,5,6,9],xB 11 9 (.mv (.t 30)) [0,1,2,3,4,5,6,7,9,10],xA 12 10 (.mv (.t 31)) (rg 12)]) (.seq [8,6,5,4,1,0] (.seq [33,8,7,6,5,4,1,0] (.region [om 0 32 10,oa 1 33 (.un .not (.t 32))]) (.cond (.t 33) (.region [oa 0 35 (.loadB 1 (some 7) (.t 5)),om 1 36 7,oF 2 37 Kw [(.t 35),(.t 36)],om 3 34 37,oa 4 38 (.extract (.t 34) 0),oa 5 39 (.extract (.t 34) 1),oa 6 40 (.extract (.t 34) 2),os 7 (.storeH 7 (.t 8) (.t 38))]) .skip)) (.region [ob 0 41 (.loadH (some 7) (.t 8)),os 1 (.storeB 1 7 (.t 5) (.t 41))])))))) (.region [om 0 18 6,oa 1 19 (.bin .sub (.t 18) Au),om 2 6 19])))))) (.seq [4] (.region [ob 0 42 (.loadB 1 (some 7) (.t 5)),os 1 (.storeB 0 7 (.t 4) (.t 42))]) .ret))))
def Lv:DFun:=⟨2,43,2,false,[.cell 4 (some 7)],uF⟩
@[irreducible] def OO:Bb:=EN Lv.er.er
@[irreducible] def Rc:B9:=C9 Lv.er
theorem uk:D4 OO Rc:=by unfold OO Rc;exact FY (f:=Lv.er) ⟨wy,Fs,Fs,UX,gG,tH,trivial⟩
def VC:List HT:=[.one .frz (.int .i64)]
def Vj:List (Ql×CT):=[(.frz,.sl (.one (.int .u8))),Ao,Ao]
def Vc:QT:=.one (.agg [Ao,(.own,.sl (.one (.sl Bs))),(.own,.sl (.one (.sl BC))),Ao,(.own,.sl Bn),Ao,(.own,.bool)])
@[irreducible] def MP(x:Cw):Cf×A6:=(shut λ x=>HV Lv VC Vj Vc x).1 x
@[irreducible] def Ov(x:Cw):Prop:=(shut λ x=>HK Lv VC Vj Vc x).1 x
def gD:CN:=IK VC Vj Vc Ov MP
theorem vo:DR Rc gD:=by unfold Rc;exact KJ (f:=Lv) (hs:=VC) (cs:=Vj) (q:=Vc) ⟨wM,Fq,Fq,sP,ie,tD,trivial⟩ (by kernel_rfl) (λ x=>by kernel_rfl) (λ x h=>by unfold Ov at h;exact Eq.mp (congrFun (shut _).2 x) h) (λ x=>by unfold MP;exact(congrFun (shut _).2 x).symm)
def qz:DCode:=(.seq [4,1,0] (.region [oa 0 4 (.allocB 0 [Ab,.nils,.nils,Ab,.nils,Ab,Cr])]) (.seq [4] (.region [on 0 5 0,op 1 6 LD OG Zi [(.t 5),(.c (.int .i64 7))],om 2 7 1,op 3 8 OO Rc gD [(.t 6),(.t 7)],os 4 (.storeB 0 7 (.t 4) (.t 8))]) .ret))
def Kh:Fn:=⟨⟨2,9,1,false,[.cell 4 (some 7)],qz⟩,[.one .frz (.sl (.one (.int .u8))),.one .frz (.int .i64)],.one (.agg [Ao,(.own,.sl (.one (.sl Bs))),(.own,.sl (.one (.sl BC))),Ao,(.own,.sl Bn),Ao,(.own,.bool)])⟩
theorem qe:Kh.A:=AR ⟨gr,uk,trivial⟩
def CI:Ei->Int×DX×Dg×Int×Bw×Int×Bool:=Kh.V
def TF:Ei->Prop:=Kh.O
theorem p5:Kh.B:=AV ⟨gh,vo,trivial⟩ (by kernel_rfl) (λ x=>by kernel_rfl)
end
section
set_option maxRecDepth 100000
def Jo(x0:Dg×CS):Bool:=(iGt x0.2.1 0)
def Jn(x:Cw)(x0:Dg×CS):(Dg×CS):=((lApp x0.1 [(Jp (x.1.1,x0.2.2)).1]),(iSub .i64 x0.2.1 1),(Jp (x.1.1,x0.2.2)).2)
def YW(x:Cw)(x0:Dg×CS):Prop:=(((iGt x0.2.1 0)=true->((Ow (x.1.1,x0.2.2))/\(Aw (((List.length x0.1)+(List.length [(Jp (x.1.1,x0.2.2)).1]))*1))))/\((iGt x0.2.1 0)=false->True))
theorem v7 (x):AN x=((Oc ((Iu ((x.1.1,(Am Jo (Jn x) ([],(Ar (x.1,4)))).2.2),x.2)).1,(Am Jo (Jn x) ([],(Ar (x.1,4)))).1)).1,(Iu ((x.1.1,(Am Jo (Jn x) ([],(Ar (x.1,4)))).2.2),x.2)).2):=by unfold AN;exact(congrFun (shut _).2 x).trans (by kernel_rfl)
theorem vU (x):OH x=((D0 (x.1,4))/\((LoopOk Jo (Jn x) (YW x) ([],(Ar (x.1,4))))/\((Ou ((x.1.1,(Am Jo (Jn x) ([],(Ar (x.1,4)))).2.2),x.2))/\(TR ((Iu ((x.1.1,(Am Jo (Jn x) ([],(Ar (x.1,4)))).2.2),x.2)).1,(Am Jo (Jn x) ([],(Ar (x.1,4)))).1))))):=by unfold OH;exact(congrFun (shut _).2 x).trans (by kernel_rfl)
def El(x:Cw):=Ar ((x.1.1,(AN x).2),8)
def MF(x:Cw)(x0:Mi):=Ar ((x.1.1,x0.2.2.2.2.2.2.2.2),x.2)
def T5(x:Cw)(x0:Mi):=Oy ((x.1.1,(MF x x0).2),(0,[],[],0,[],0,false),2)
def Lo(x:Cw)(x0:Mi):=QY ((x0.2.1,x0.2.2.1,x0.2.2.2.1,x0.2.2.2.2.1,x0.2.2.2.2.2.1,x0.2.2.2.2.2.2.1,x0.2.2.2.2.2.2.2.1),(MF x x0).1)
def E0(x:Cw)(x0:Mi):=Iz ((x0.2.1,x0.2.2.1,x0.2.2.2.1,x0.2.2.2.2.1,x0.2.2.2.2.2.1,x0.2.2.2.2.2.2.1,x0.2.2.2.2.2.2.2.1),(MF x x0).1,(T5 x x0).1)
def Ia(x0:Mi):Bool:=(iGt x0.1 0)
def H9(x:Cw)(x0:Mi):Mi:=((iSub .i64 x0.1 1),(bSel (bNot (E0 x x0).2.2) (Lo x x0).1.1 (E0 x x0).1.1),(bSel (bNot (E0 x x0).2.2) (Lo x x0).1.2.1 (E0 x x0).1.2.1),(bSel (bNot (E0 x x0).2.2) (Lo x x0).1.2.2.1 (E0 x x0).1.2.2.1),(bSel (bNot (E0 x x0).2.2) (Lo x x0).1.2.2.2.1 (E0 x x0).1.2.2.2.1),(bSel (bNot (E0 x x0).2.2) (Lo x x0).1.2.2.2.2.1 (E0 x x0).1.2.2.2.2.1),(bSel (bNot (E0 x x0).2.2) (Lo x x0).1.2.2.2.2.2.1 (E0 x x0).1.2.2.2.2.2.1),(bSel (bNot (E0 x x0).2.2) (Lo x x0).1.2.2.2.2.2.2 (E0 x x0).1.2.2.2.2.2.2),(T5 x x0).2)
def YH(x:Cw)(x0:Mi):Prop:=(((iGt x0.1 0)=true->((D0 ((x.1.1,x0.2.2.2.2.2.2.2.2),x.2))/\((On ((x.1.1,(MF x x0).2),(0,[],[],0,[],0,false),2))/\((LC ((x0.2.1,x0.2.2.1,x0.2.2.2.1,x0.2.2.2.2.1,x0.2.2.2.2.2.1,x0.2.2.2.2.2.2.1,x0.2.2.2.2.2.2.2.1),(MF x x0).1,(T5 x x0).1))/\(((bNot (E0 x x0).2.2)=true->(QK ((x0.2.1,x0.2.2.1,x0.2.2.2.1,x0.2.2.2.2.1,x0.2.2.2.2.2.1,x0.2.2.2.2.2.2.1,x0.2.2.2.2.2.2.2.1),(MF x x0).1)))/\((bNot (E0 x x0).2.2)=false->True))))))/\((iGt x0.1 0)=false->True))
theorem uV (x):MP x=(((Am Ia (H9 x) ((El x).1,(AN x).1.1,(AN x).1.2.1,(AN x).1.2.2.1,(AN x).1.2.2.2.1,(AN x).1.2.2.2.2.1,(AN x).1.2.2.2.2.2.1,(AN x).1.2.2.2.2.2.2,(El x).2)).2.1,(Am Ia (H9 x) ((El x).1,(AN x).1.1,(AN x).1.2.1,(AN x).1.2.2.1,(AN x).1.2.2.2.1,(AN x).1.2.2.2.2.1,(AN x).1.2.2.2.2.2.1,(AN x).1.2.2.2.2.2.2,(El x).2)).2.2.1,(Am Ia (H9 x) ((El x).1,(AN x).1.1,(AN x).1.2.1,(AN x).1.2.2.1,(AN x).1.2.2.2.1,(AN x).1.2.2.2.2.1,(AN x).1.2.2.2.2.2.1,(AN x).1.2.2.2.2.2.2,(El x).2)).2.2.2.1,(Am Ia (H9 x) ((El x).1,(AN x).1.1,(AN x).1.2.1,(AN x).1.2.2.1,(AN x).1.2.2.2.1,(AN x).1.2.2.2.2.1,(AN x).1.2.2.2.2.2.1,(AN x).1.2.2.2.2.2.2,(El x).2)).2.2.2.2.1,(Am Ia (H9 x) ((El x).1,(AN x).1.1,(AN x).1.2.1,(AN x).1.2.2.1,(AN x).1.2.2.2.1,(AN x).1.2.2.2.2.1,(AN x).1.2.2.2.2.2.1,(AN x).1.2.2.2.2.2.2,(El x).2)).2.2.2.2.2.1,(Am Ia (H9 x) ((El x).1,(AN x).1.1,(AN x).1.2.1,(AN x).1.2.2.1,(AN x).1.2.2.2.1,(AN x).1.2.2.2.2.1,(AN x).1.2.2.2.2.2.1,(AN x).1.2.2.2.2.2.2,(El x).2)).2.2.2.2.2.2.1,(Am Ia (H9 x) ((El x).1,(AN x).1.1,(AN x).1.2.1,(AN x).1.2.2.1,(AN x).1.2.2.2.1,(AN x).1.2.2.2.2.1,(AN x).1.2.2.2.2.2.1,(AN x).1.2.2.2.2.2.2,(El x).2)).2.2.2.2.2.2.2.1),(Am Ia (H9 x) ((El x).1,(AN x).1.1,(AN x).1.2.1,(AN x).1.2.2.1,(AN x).1.2.2.2.1,(AN x).1.2.2.2.2.1,(AN x).1.2.2.2.2.2.1,(AN x).1.2.2.2.2.2.2,(El x).2)).2.2.2.2.2.2.2.2):=by unfold MP;exact(congrFun (shut _).2 x).trans (by kernel_rfl)
theorem uu (x):Ov x=((OH x)/\((D0 ((x.1.1,(AN x).2),8))/\(LoopOk Ia (H9 x) (YH x) ((El x).1,(AN x).1.1,(AN x).1.2.1,(AN x).1.2.2.1,(AN x).1.2.2.2.1,(AN x).1.2.2.2.2.1,(AN x).1.2.2.2.2.2.1,(AN x).1.2.2.2.2.2.2,(El x).2)))):=by unfold Ov;exact(congrFun (shut _).2 x).trans (by kernel_rfl)
theorem qB (x):CI x=(MP ((Jq (x.1,7)),x.2)).1:=(Kh.v x).trans (by kernel_rfl)
theorem qa (x):TF x=((MI (x.1,7))/\(Ov ((Jq (x.1,7)),x.2))):=(Kh.o x).trans (by kernel_rfl)
attribute [irreducible] CI TF
end
theorem AF(a:Bool):bNot a=!a:=by simp only[PN]
theorem AE(a b:Bool):bAnd a b=(a&&b):=by simp only[cR]
theorem A4(a b:Bool):bOr a b=(a||b):=by simp only[oN]
theorem Nc(a b:Bool):bIff a b=(a == b):=by simp only[nP]
theorem BA{α:Type}(c:Bool)(x y:α):bSel c x y=if c=true then x else y:=by cases c<;>simp[Dn,CQ]
theorem Bo(a b:Int):iEq a b=decide (a=b):=by
 rw[XU];by_cases h:a=b<;>simp[h]
theorem Db(a b:Int):iNe a b=!decide (a=b):=by
 rw[oV];by_cases h:a=b<;>simp[h]
theorem Aq(a b:Int):iLt a b=decide (a<b):=by simp only[oB]
theorem Ew(a b:Int):iLe a b=decide (a<=b):=by simp only[oG]
theorem CO(a b:Int):iGt a b=decide (b<a):=by simp only[oO]
theorem CK(a b:Int):iGe a b=decide (b<=a):=by simp only[oL]
theorem ot(a b:dW):sEq a b=(a == b):=by simp only[oQ]
theorem ou(a b:dW):sNe a b=!(a == b):=by simp only[o5]
section
variable {α:Type}
theorem As(l:List α):lLen l=(l.length:Int):=by simp only[nB]
theorem HJ(l:List α):lN l=l.length:=by simp only[Yg]
theorem A8(l:List α)(j:Nat)(d:α):lGet l j d=l.getD j d:=by simp only[b7]
theorem mC(l:List α)(j:Nat)(x:α):lSet l j x=l.set j x:=by simp only[cQ]
theorem II(l:List α)(a b:Nat):lSub l a b=(l.drop a).take (b-a):=by simp only[nw]
theorem WA(l:List α)(n:Nat):lTake l n=l.take n:=by simp only[bG]
theorem BD(l m:List α):lApp l m=l++m:=by simp only[Nv]
theorem mR(n:Int)(x:α):lRep n x=List.replicate n.toNat x:=by simp only[nR]
theorem Az(a:Int):iNat a=a.toNat:=by simp only[df]
theorem mB(a b:dW):sAdd a b=a++b:=by simp only[n8]
end
def AO(n:Int):Prop:=-9223372036854775808<=n/\n<=9223372036854775807
theorem KS{n:Int}(h:AO n):IntKind.i64.wrap n=n:=by
 obtain⟨h1,h2⟩:=h;show (if decide (n % 18446744073709551616>=9223372036854775808)=true then n % 18446744073709551616-18446744073709551616 else n % 18446744073709551616)=n;simp only[Ap];split<;>omega
theorem Bx{a b:Int}(h:AO (a+b)):iAdd .i64 a b=a+b:=by rw[nW];exact KS h
theorem EH{a b:Int}(h:AO (a-b)):iSub .i64 a b=a-b:=by rw[nr];exact KS h
theorem bc{a b:Int}(h:AO (a*b)):iMul .i64 a b=a*b:=by rw[nZ];exact KS h
theorem W3{a b:Int}(ha:0<=a):iRem a b=a % b:=by rw[nH];exact Int.tmod_eq_emod_of_nonneg ha
section
variable {X:Type} {c:X->Bool} {f:X->X} {p:X->Prop}
theorem LR(I:X->Prop)(m:X->Nat)(h:∀ x,I x->p x/\(c x=true->I (f x)/\m (f x)<m x)){x0:X}(h0:I x0) :
 LoopOk c f p x0/\I (Am c f x0)/\c (Am c f x0)=false:=by
 have go:∀ (n:Nat) (x:X),m x<n->I x->∃ y,LoopTo c f p x y/\I y/\c y=false:=by
  intro n
  induction n with
  |zero=>intro x hm;exact absurd hm (Xr _)
  | succ n ih=>
    intro x hm hI;obtain⟨h1,h2⟩:=h x hI
    cases hc:c x with
    |false=>exact⟨x,.stop h1 hc,hI,hc⟩
    | true=>
      obtain⟨h3,h4⟩:=h2 hc;obtain⟨y,h5,h6,h7⟩:=ih (f x) (by omega) h3;exact⟨y,.go h1 hc h5,h6,h7⟩
 obtain⟨y,h1,h2,h3⟩:=go _ x0 (Xy _) h0
 rw[h1.val]
 exact⟨⟨y,h1⟩,h2,h3⟩
theorem MU(I:X->Prop)(m:X->Nat)(h:∀ x,I x->c x=true->I (f x)/\m (f x)<m x){x0:X}(h0:I x0):I (Am c f x0)/\c (Am c f x0)=false:=
 (LR (p:=λ _=>True) I m (λ x hx=>⟨trivial,h x hx⟩) h0).2
theorem Jx(n:Nat)(st:Nat->X){x0:X}(h0:st 0=x0)(hs:∀ k,k<n->p (st k)/\c (st k)=true/\f (st k)=st (k+1))(he:p (st n)/\c (st n)=false):LoopOk c f p x0/\Am c f x0=st n:=by
 have go:∀ k,k<=n->LoopTo c f p (st (n-k)) (st n):=by
  intro k
  induction k with
  |zero=>intro _;exact .stop he.1 he.2
  | succ k ih=>
    intro hk;obtain⟨h1,h2,h3⟩:=hs (n-(k+1)) (by omega);refine .go h1 h2 ?_;rw[h3,show n-(k+1)+1=n-k by omega];exact ih (by omega)
 have:=go n (BI _);rw[Nat.sub_self,h0] at this;exact⟨⟨_,this⟩,this.val⟩
end
def CP(t:Nat->Bool):Nat->Nat->Nat
 |0,i=>i
 |k+1,i=>if t i then i else CP t k (i+1)
theorem Ju(t:Nat->Bool):∀ k i,i<=CP t k i/\CP t k i<=i+k
 |0,i=>⟨BI _,BI _⟩
 | k+1,i=>by
   unfold CP
   split
   . omega
   . have:=Ju t k (i+1);omega
theorem OX(t:Nat->Bool):∀ k i,CP t k i<i+k->t (CP t k i)=true
 |0,i,h=>by unfold CP at h;omega
 | k + 1,i,h=>by
   unfold CP at h ⊢
   split
   . rename_i ht;exact ht
   . rename_i ht
     rw[Ae ht] at h
     exact OX t k (i+1) (by omega)
theorem Rs(t:Nat->Bool):∀ k i j,i<=j->j<CP t k i->t j=false
 |0,i,j,h,h'=>by unfold CP at h';omega
 | k + 1,i,j,h,h'=>by
   unfold CP at h'
   split at h'
   . omega
   . rename_i ht
     by_cases hj:j=i
     . subst hj;simpa using ht
     . exact Rs t k (i+1) j (by omega) h'
theorem zS{c:Int->Bool}{f:Int->Int}{p:Int->Prop}(n:Nat)(t:Nat->Bool)(hn:(n:Int)<=9223372036854775806)(hc:∀ i:Nat,i<=n->c i=(decide (i<n)&&!t i))(hf:∀ i:Nat,i<n->f i=iAdd .i64 i 1)(hp:∀ i:Nat,i<=n->p i) :
 LoopOk c f p 0/\Am c f 0=(CP t n 0:Nat):=by
 have hle:=Ju t n 0
 refine Jx (CP t n 0) (λ k=>(k:Int)) rfl (λ k hk=>?_) ⟨hp _ (by omega),?_⟩
 . have hk':k<n:=by omega
   refine⟨hp k (by omega),?_,?_⟩
   . rw[hc k (by omega),Rs t n 0 k (by omega) hk];simp[hk']
   . rw[hf k hk',Bx (by unfold AO;omega)];omega
 . rw[hc _ (by omega)]
   by_cases h:CP t n 0<n
   . rw[OX t n 0 (by omega)];simp
   . simp[h]
theorem OU{t:Nat->Bool}{n:Nat}:CP t n 0=n↔∀ i,i<n->t i=false:=by
 constructor
 . intro h i hi;exact Rs t n 0 i (by omega) (by omega)
 . intro h;have hle:=Ju t n 0;rcases BJ (CP t n 0) n with h1|h1
   . have:=OX t n 0 (by omega);rw[h _ h1] at this;cases this
   . omega
theorem Sq{c:Int->Bool}{f:Int->Int}(n:Nat)(t:Nat->Bool)(hn:(n:Int)<=9223372036854775806)(hc:∀ i:Nat,i<=n->c i=(decide (i<n)&&!t i))(hf:∀ i:Nat,i<n->f i=iAdd .i64 i 1):Am c f 0=(CP t n 0:Nat):=(zS (p:=λ _=>True) n t hn hc hf (λ _ _=>trivial)).2
theorem DD{α:Type}(x:List α)(i:Nat)(d:α)(h:i<x.length):x.getD i d∈x:=by
 rw[Eg,Bc h];exact GB h
theorem IV{X:Type}{c:X->Bool}{f:X->X}{p:X->Prop}(ix:X->Int)(n:Int)(hn:n<=9223372036854775806)(hc:∀ x,0<=ix x->ix x<=n->c x=true->ix x<n)(hf:∀ x,ix (f x)=iAdd .i64 (ix x) 1)(hp:∀ x,0<=ix x->ix x<=n->p x){x0:X}(h0:0<=ix x0)(h1:ix x0<=n):LoopOk c f p x0:=by
 refine(LR (λ x=>0<=ix x/\ix x<=n) (λ x=>(n-ix x).toNat) (λ x hI=>⟨hp x hI.1 hI.2,λ hcc=>?_⟩) ⟨h0,h1⟩).1;have:=hc x hI.1 hI.2 hcc;obtain⟨k1,k2⟩:=hI;have e:=hf x;rw[Bx (by unfold AO;omega)] at e;refine⟨by omega,by omega⟩
theorem kI{c:Int->Bool}{f:Int->Int}{n:Nat}(h:¬ Am c f 0<(n:Int))(hn:(n:Int)<=9223372036854775806)(hc:∀ i:Nat,i<=n->c i=true->i<n)(hf:∀ i:Nat,i<n->f i=iAdd .i64 i 1):∀ i:Nat,i<n->c i=true:=by
 have hv:=Sq (c:=c) (f:=f) n (λ i=>!c i) hn (λ i hi=>by
  by_cases h1:i<n
  . simp[h1]
  . cases h2:c i with
    |false=>simp[h1]
    |true=>exact absurd (hc i hi h2) h1) hf
 rw[hv] at h;have hle:=Ju (λ i=>!c i) n 0
 have e:CP (λ i=>!c i) n 0=n:=by omega
 intro i hi;have:=OU.1 e i hi;simpa using this
def ZR(_:Int×Int×Int×Int):Prop:=True
def ZcD(x:Ff):Prop:=ZR (x.2.1,x.2.2.1,x.2.2.2.1,x.2.2.2.2)/\True
def Pg(x:Bw):Prop:=x.length<=1048576/\∀ a∈x,ZcD a
def yy(x:Hc):Prop:=x.length<=1048576/\∀ a∈x,ZR a
def Zw(x:DX):Prop:=x.length<=1048576/\∀ a∈x,yy a
def Gm(x:CW):Prop:=Zw x.2/\True
theorem aq {X Y:Type} {c:X->Bool} {f:X->X} {p:X->Prop} {d:Y->Bool} {g:Y->Y} {q:Y->Prop} (R:X->Y->Prop) (m:X->Nat)
 (h:∀ x y,R x y->p x/\q y/\c x=d y/\(c x=true->R (f x) (g y)/\m (f x)<m x)) {x0:X} {y0:Y} (h0:R x0 y0) :
 LoopOk c f p x0/\LoopOk d g q y0/\R (Am c f x0) (Am d g y0)/\c (Am c f x0)=false:=by
 have go:∀ (n:Nat) (x:X) (y:Y),m x<n->R x y->∃ u v,LoopTo c f p x u/\LoopTo d g q y v/\R u v/\c u=false:=by
  intro n
  induction n with
  |zero=>intro x y hm;exact absurd hm (Xr _)
  | succ n ih=>
    intro x y hm hR;obtain⟨h1,h2,h3,h4⟩:=h x y hR
    cases hc:c x with
    |false=>exact⟨x,y,.stop h1 hc,.stop h2 (by rw[<- h3];exact hc),hR,hc⟩
    | true=>
      obtain⟨h5,h6⟩:=h4 hc;obtain⟨u,v,a1,a2,a3,a4⟩:=ih _ _ (by omega) h5;exact⟨u,v,.go h1 hc a1,.go h2 (by rw[<- h3];exact hc) a2,a3,a4⟩
 obtain⟨u,v,a1,a2,a3,a4⟩:=go _ x0 y0 (Xy _) h0
 exact⟨⟨_,a1⟩,⟨_,a2⟩,by rw[a1.val,a2.val];exact a3,by rw[a1.val];exact a4⟩
theorem Pt{X:Type}{c:X->Bool}{f:X->X}{p:X->Prop}(I:X->Prop)(m:X->Nat)(h:∀ x,I x->p x/\(c x=true->I (f x)/\m (f x)<m x)){x0:X}(h0:I x0) :
 LoopOk c f p x0/\I (Am c f x0)/\c (Am c f x0)=false:=LR I m h h0
theorem ZbY{X:Type}{c:X->Bool}{f:X->X}{p:X->Prop}(n:Nat)(st:Nat->X)(t:Nat->Bool){x0:X}(h0:st 0=x0)(hc:∀ i,i<=n->(∀ j,j<i->t j=true)->c (st i)=(decide (i<n)&&t i))(hf:∀ i,i<n->(∀ j,j<=i->t j=true)->f (st i)=st (i+1))(hp:∀ i,i<=n->(∀ j,j<i->t j=true)->p (st i)) :
 LoopOk c f p x0/\∃ k,k<=n/\Am c f x0=st k/\(k=n↔∀ i,i<n->t i=true):=by
 have hle:=Ju (λ i=>!t i) n 0
 have hno:∀ j,j<CP (λ i=>!t i) n 0->t j=true:=λ j hj=>by
  have:=Rs (λ i=>!t i) n 0 j (by omega) hj;simpa using this
 have:=Jx (c:=c) (f:=f) (p:=p) (CP (λ i=>!t i) n 0) st h0 (λ k hk=>by
  refine⟨hp k (by omega) (λ j hj=>hno j (by omega)),?_,hf k (by omega) (λ j hj=>hno j (by omega))⟩;rw[hc k (by omega) (λ j hj=>hno j (by omega)),hno k hk]
  have:k<n:=by omega
  simp[this]) ⟨hp _ (by omega) hno,by
  rw[hc _ (by omega) hno];by_cases h:CP (λ i=>!t i) n 0<n
  . have:=OX (λ i=>!t i) n 0 (by omega);simp only[BB] at this;rw[this];simp
  . simp[h]⟩
 refine⟨this.1,_,by omega,this.2,?_⟩
 rw[OU]
 simp
theorem Jw{α:Type}(x:List α)(d:α){i:Nat}(h:i<x.length):x.take i++[x.getD i d]=x.take (i+1):=by
 rw[List.take_add_one,Eg,Bc h];rfl
theorem aA {α:Type} {c:Int×List α->Bool} {f:Int×List α->Int×List α} {p:Int×List α->Prop} (x:List α) (d:α) (hl:x.length<=1048576)
 (hc:∀ (i:Nat) (l:List α),c ((i:Int),l)=decide (i<x.length)) (hf:∀ (i:Nat) (l:List α),i<x.length->f ((i:Int),l)=(iAdd .i64 (i:Int) 1,l++[x.getD i d])) (hp:∀ (i:Nat) (l:List α),i<=x.length->l.length=i->p ((i:Int),l)) :
 LoopOk c f p (0,[])/\Am c f (0,[])=((x.length:Int),x):=by
 have:=Jx (c:=c) (f:=f) (p:=p) x.length (λ i=>((i:Int),x.take i)) (x0:=(0,[])) rfl (λ k hk=>by
  refine⟨hp k _ (by omega) (by rw[Ex];omega),by rw[hc];simpa using hk,?_⟩;rw[hf k _ hk,Bx (by unfold AO;omega),Jw x d hk]
  simp) ⟨hp _ _ (by omega) (by rw[Ex];omega),by rw[hc];simp⟩
 rw[HG] at this
 exact this
theorem Zam {α:Type} {c:List α×Int->Bool} {f:List α×Int->List α×Int} {p:List α×Int->Prop} (x:List α) (d:α) (hl:x.length<=1048576)
 (hc:∀ (i:Nat) (l:List α),c (l,(i:Int))=decide (i<x.length)) (hf:∀ (i:Nat) (l:List α),i<x.length->f (l,(i:Int))=(l++[x.getD i d],iAdd .i64 (i:Int) 1)) (hp:∀ (i:Nat) (l:List α),i<=x.length->l.length=i->p (l,(i:Int))) :
 LoopOk c f p ([],0)/\Am c f ([],0)=(x,(x.length:Int)):=by
 have:=Jx (c:=c) (f:=f) (p:=p) x.length (λ i=>(x.take i,(i:Int))) (x0:=([],0)) rfl (λ k hk=>by
  refine⟨hp k _ (by omega) (by rw[Ex];omega),by rw[hc];simpa using hk,?_⟩;rw[hf k _ hk,Bx (by unfold AO;omega),Jw x d hk]
  simp) ⟨hp _ _ (by omega) (by rw[Ex];omega),by rw[hc];simp⟩
 rw[HG] at this
 exact this
theorem RW{a b:Nat}(ha:a<9223372036854775808)(hb:b<9223372036854775808):iAnd .i64 (a:Int) (b:Int)=((a &&& b:Nat):Int):=by
 have e:(BitVec.ofInt 64 (a:Int) &&& BitVec.ofInt 64 (b:Int)).toNat=a &&& b:=by
  rw[BitVec.ofInt_natCast,BitVec.ofInt_natCast,BitVec.toNat_and,BitVec.toNat_ofNat,BitVec.toNat_ofNat,Nat.mod_eq_of_lt (by omega),Nat.mod_eq_of_lt (by omega)]
 have h:a &&& b<=a:=Nat.and_le_left;rw[cI];show IntKind.i64.wrap ((BitVec.ofInt 64 (a:Int) &&& BitVec.ofInt 64 (b:Int)).toNat:Int)=_;rw[e];exact KS (by unfold AO;omega)
theorem Sw{a b:Nat}(ha:a<4611686018427387904)(hb:b<4611686018427387904):iOr .i64 (a:Int) (b:Int)=((a ||| b:Nat):Int):=by
 have e:(BitVec.ofInt 64 (a:Int) ||| BitVec.ofInt 64 (b:Int)).toNat=a ||| b:=by
  rw[BitVec.ofInt_natCast,BitVec.ofInt_natCast,BitVec.toNat_or,BitVec.toNat_ofNat,BitVec.toNat_ofNat,Nat.mod_eq_of_lt (by omega),Nat.mod_eq_of_lt (by omega)]
 have h:a ||| b<2^62:=Nat.or_lt_two_pow (by omega) (by omega)
 rw[oX];show IntKind.i64.wrap ((BitVec.ofInt 64 (a:Int) ||| BitVec.ofInt 64 (b:Int)).toNat:Int)=_;rw[e];exact KS (by unfold AO;omega)
theorem ZcE(a k:Nat)(h:k<=64):iShr .i64 (a:Int) (k:Int)=((a / 2^k:Nat):Int):=by
 rw[ox];show Int.fdiv (a:Int) (2^min (k:Int).toNat 64)=_;rw[Be,Nat.min_eq_left h,Int.fdiv_eq_ediv_of_nonneg _ (by exact_mod_cast Gy _)];norm_cast
theorem R9{a k:Nat}(hk:k<=64)(h:a*2^k<9223372036854775808):iShl .i64 (a:Int) (k:Int)=((a*2^k:Nat):Int):=by
 rw[ni];show IntKind.i64.wrap ((a:Int)*2^min (k:Int).toNat 64)=_;rw[Be,Nat.min_eq_left hk]
 have:((a:Int)*2^k)=((a*2^k:Nat):Int):=by norm_cast
 rw[this];exact KS (by unfold AO;omega)
def Bytes(x:Bd):Prop:=∀ a∈x,0<=a/\a<256
theorem Bytes.get{x:List Int}(h:Bytes x)(i:Nat):∃ n:Nat,n<256/\x.getD i 0=(n:Int):=by
 by_cases hi:i<x.length
 . obtain⟨h0,h1⟩:=h _ (DD x i 0 hi);exact⟨(x.getD i 0).toNat,by omega,by omega⟩
 . exact⟨0,by omega,by rw[Eg,BT (by omega)];rfl⟩
theorem Bytes.of{x:List Int}(h:CT.wf (.sl (.one (.int .u8))) x):Bytes x:=by
 intro a ha;have:=h.2 a ha;simp only[RT.wf,CT.wf] at this
 have h:IntKind.u8.min<=a/\a<=IntKind.u8.max:=by simpa [Lit.wf] using this
 have e1:IntKind.u8.min=0:=by decide
 have e2:IntKind.u8.max=255:=by decide
 rw[e1,e2] at h;omega
theorem Zat(k:Int)(x:DX)(hs:Gm (k,x)):UE (k,x)/\Q5 (k,x)=(k,x):=by
 rw[tU,vh]
 obtain⟨a1,a2⟩:=aA (c:=TX (k,x)) (f:=Uk (k,x)) (p:=YO (k,x)) x [] hs.1.1 (λ i l=>by simp[TX,Aq,As])
  (λ i l _=>by simp[Uk,BD,A8,Az]) (λ i l hi hl=>by
   simp only[YO,Aq,As,Ap];refine⟨λ h=>?_,λ _=>trivial⟩
   have e:lGet x (iNat (i:Int)) []=x.getD i []:=by rw[A8,Az,Be]
   have h1:(x.getD i []).length<=1048576:=(hs.1.2 _ (DD x i [] (by omega))).1;have h2:x.length<=1048576:=hs.1.1;rw[e]
   refine⟨⟨by omega,h⟩,by rw[Az];omega,by unfold Aw;simp only[AL];omega,by unfold Aw;simp only[AG,AL];omega⟩)
 exact⟨a1,by rw[a2]⟩
theorem gX(k:Int)(x:DX)(hs:Gm (k,x)):Qh (k,x)/\H6 (k,x)=(k,x):=by
 rw[p6,pZ]
 obtain⟨a1,a2⟩:=aA (c:=Tz (k,x)) (f:=Tx (k,x)) (p:=Yn (k,x)) x [] hs.1.1 (λ i l=>by simp[Tz,Aq,As])
  (λ i l _=>by simp[Tx,BD,A8,Az]) (λ i l hi hl=>by
   simp only[Yn,Aq,As,Ap];refine⟨λ h=>?_,λ _=>trivial⟩
   have e:lGet x (iNat (i:Int)) []=x.getD i []:=by rw[A8,Az,Be]
   have h1:(x.getD i []).length<=1048576:=(hs.1.2 _ (DD x i [] (by omega))).1;have h2:x.length<=1048576:=hs.1.1;rw[e]
   refine⟨⟨by omega,h⟩,by rw[Az];omega,by unfold Aw;omega,by unfold Aw;simp only[AG,AL];omega⟩)
 exact⟨a1,by rw[a2]⟩
theorem LG(x:CH):Eb x=Bt x:=by
 simp only[rU,Qs,Zo,U1,US,Y5,AF,AE,A4,Nc,BA,Bo,Db,Aq,Ew,CO,CK,ot,ou,As,HJ,A8,mC,II,WA,BD,mR,Az,mB];rw[JU]
 repeat' split
 all_goals simp only[Ah,Cn,BB,CL,F7,B8,Ap,Bl,GC,I7,AZ,JE] at *
 all_goals omega
theorem TI(x:CH):MD x:=by
 have h:∀ y,Ed y:=λ y=>by rw[OR];trivial
 rw[sm];simp[h]
theorem Qj(x:CH):MH x:=by
 have h1:∀ y,OB y:=λ y=>by rw[uq];trivial
 have h2:∀ y,MK y:=λ y=>by rw[uE];trivial
 have h3:∀ y,QJ y:=λ y=>by rw[tI];trivial
 rw[rr];simp[h1,h2,h3]
theorem Gu(a b c:Int):BF (a,b,c)=(decide (b<=a)&&decide (a<=c)):=by rw[Zo];simp only[AE,CK,Ew]
theorem Px (x):Ed x:=by rw[OR];trivial
theorem ZN (x):N7 x:=by rw[qP];exact TI _
theorem O7(x:Bw):EG x=Cs x:=by
 rw[uB,U4]
 have:∀ {c c':Int×Int->Bool} {f:Int×Int->Int×Int} {a:Int×Int} {n:Int},(∀ x,c x=c' x)->bNot (iLt (Am c f a).2 n)=bNot (iLt (Am c' f a).2 n):=by
  intro c c' f a n h;rw[funext h]
 apply this;intro st;rw[JU];simp only[YC,LG,Gu,VQ,AF,AE,A4,Bo,Aq,CO,Ah,Cn,BB,CL,F7,B8,Ap,Bl,GC,I7,AZ,JE];generalize Bt _=A;cases A<;>simp<;>omega
theorem T8(x:Bw)(h:x.length<=1048576):MJ x:=by
 rw[vw];refine IV (λ st=>st.2) x.length (by omega) (λ st _ _ hc=>?_) (λ st=>rfl) (λ st h0 h1=>?_) (by simp) (by simp)
 . simp only[AE,Aq,As,Ah,Ap] at hc;exact hc.1
 . refine⟨λ hlt=>?_,λ _=>trivial⟩;simp only[Aq,As,Ap] at hlt
   have h3:st.2.toNat<x.length:=by omega
   simp only[Gu,Az,h3,h0,hlt,Px,ZN,TI,HD,implies_true,Jz,AF,A4,Ah,Cn,BB,CL,F7,B8,Ap,Bl,GC,I7,AZ,JE,CL,B8];exact⟨λ hh=>hh.1,λ hh=>hh.1.1⟩
theorem Uc(x:Bw)(h:x.length<=1048576):MM x:=by
 rw[u6];refine IV (λ st=>st.2) x.length (by omega) (λ st _ _ hc=>?_) (λ st=>rfl) (λ st h0 h1=>?_) (by simp) (by simp)
 . simp only[AE,Aq,As,Ah,Ap] at hc;exact hc.1
 . refine⟨λ hlt=>?_,λ _=>trivial⟩;simp only[Aq,As,Ap] at hlt
   have h3:st.2.toNat<x.length:=by omega
   simp only[iT,Az,h3,h0,hlt,Qj,HD,implies_true,Jz,Aq,CO,AF,A4,Ah,Cn,BB,CL,F7,B8,Ap,Bl,GC,I7,AZ,JE,CL,B8];refine⟨λ h4 h5=>by omega,λ h4 h5=>by omega⟩
def Xv(h:Ff):Prop:=0<=h.1/\h.1<=31/\Bt h.2=true/\h.2.1≠1/\h.2.1≠6/\h.2.1≠7
theorem Rr{x:List Ff}(hl:x.length<=1048576)(h:Cs x=true):∀ a∈x,Xv a:=by
 rw[U4,AF,BB,Aq _ (lLen x),Bl] at h
 have key:=MU (c:=λ x0:Int×Int=>(bAnd (iLt x0.2 (lLen x)) (bAnd (bNot (bOr (iLt (lGet x (iNat x0.2) (0,0,0,0,0)).1 0) (bOr (iGt (lGet x (iNat x0.2) (0,0,0,0,0)).1 31) (bOr (iEq (Es (x0.1,(lGet x (iNat x0.2) (0,0,0,0,0)).1)) 1) (bNot (Bt ((lGet x (iNat x0.2) (0,0,0,0,0)).2.1,(lGet x (iNat x0.2) (0,0,0,0,0)).2.2.1,(lGet x (iNat x0.2) (0,0,0,0,0)).2.2.2.1,(lGet x (iNat x0.2) (0,0,0,0,0)).2.2.2.2))))))) (bNot (bOr (iEq (lGet x (iNat x0.2) (0,0,0,0,0)).2.1 1) (bOr (iEq (lGet x (iNat x0.2) (0,0,0,0,0)).2.1 6) (iEq (lGet x (iNat x0.2) (0,0,0,0,0)).2.1 7)))))))
  (f:=λ x0=>((iOr .i64 x0.1 (iShl .i64 1 (lGet x (iNat x0.2) (0,0,0,0,0)).1)),(iAdd .i64 x0.2 1)))
  (λ st=>∃ i:Nat,st.2=i/\i<=x.length/\∀ j,j<i->Xv (x.getD j (0,0,0,0,0))) (λ st=>x.length-st.2.toNat) (λ st hI hc=>?_) (x0:=(0,0)) ⟨0,rfl,Gy _,λ j hj=>by omega⟩
 . obtain⟨⟨i,k1,k2,k3⟩,_⟩:=key;rw[k1,As] at h
   have:i=x.length:=by omega
   subst this;intro a ha;obtain⟨j,hj,rfl⟩:=IP ha;have:=k3 j hj;rw[Eg,Bc hj] at this;exact this
 . obtain⟨i,k1,k2,k3⟩:=hI;obtain⟨s,j⟩:=st;simp only at k1;subst k1;simp only[AE,AF,A4,Aq,CO,Bo,As,A8,Az,Be,Ah,BB,B8,Ap,Bl,CL] at hc;obtain⟨c1,⟨c2,c3,_,c5⟩,c6,c7,c8⟩:=hc;refine⟨⟨i+1,?_,by omega,λ j hj=>?_⟩,?_⟩
   . simp only;rw[Bx (by unfold AO;omega)];omega
   . by_cases hji:j=i
     . subst hji;exact⟨by omega,by omega,c5,c6,c7,c8⟩
     . exact k3 j (by omega)
   . simp only;rw[Bx (by unfold AO;omega)];omega
theorem iX{a:Int×Int×Int×Int}(h:Bt a=true)(hk:a.1=3):a.2.1=0/\a.2.2.1=0/\1<=a.2.2.2/\a.2.2.2<=3:=by
 rw[Qs] at h;simp only[Y5,U1,US,hk,AF,AE,A4,Nc,BA,Bo,Db,Aq,Ew,CO,CK,ot,ou,As,HJ,A8,mC,II,WA,BD,mR,Az,mB] at h;simp at h;omega
theorem iY(f:Int)(x:Bw):QP (f,x)=Ea (f,x):=by
 rw[rJ,rB]
 have e:BF (f,0,15)=bAnd (iGe f 0) (iLe f 15):=by rw[Gu,AE,CK,Ew]
 simp only[O7,e]
 cases h:Cs x with
 | true=>
   rw[show bNot true=false from by rw[AF];rfl,CQ]
   have:∀ a:Bool,bAnd a true=a:=λ a=>by rw[AE,Ny]
   simp only[this]
 | false=>
   rw[show bNot false=true from by rw[AF];rfl,Dn];rw[y8 (by rw[AE,Bool.and_false])]
theorem pV(f:Int)(x:Bw)(h:x.length<=1048576):T9 (f,x):=by
 rw[sD];refine⟨Px _,?_⟩;refine IV (λ st=>st.2) x.length (by omega) (λ st _ _ hc=>?_) (λ st=>rfl) (λ st h0 h1=>?_) (by simp) (by simp)
 . simp only[AE,Aq,As,Ah,Ap] at hc;exact hc.1
 . refine⟨⟨λ _=>T8 x h,λ _=>trivial⟩,λ hlt=>?_,λ _=>trivial⟩;simp only[AE,Aq,As,Ah,Ap,O7] at hlt;obtain⟨hlt,hh⟩:=hlt
   have h3:st.2.toNat<x.length:=by omega
   simp only[Az,A8,h3,h0,hlt,HD,implies_true,Jz,Bo,Ap];intro hk;have:=Rr h hh _ (DD x st.2.toNat (0,0,0,0,0) h3);have:=iX this.2.2.1 hk;omega
theorem eC(f:Int)(x:Bw)(h:x.length<=1048576):QF (f,x):=by
 rw[r6];refine⟨Uc x h,λ _=>trivial,λ hh=>?_⟩
 have hh:Cs x=true:=by simpa [AF] using hh
 refine IV (λ st=>st.2) x.length (by omega) (λ st _ _ hc=>?_) (λ st=>rfl) (λ st h0 h1=>?_) (by simp) (by simp)
 . simp only[Aq,As,Ap] at hc;exact hc
 . refine⟨λ hlt=>?_,λ _=>trivial⟩;simp only[Aq,As,Ap] at hlt
   have h3:st.2.toNat<x.length:=by omega
   simp only[Az,A8,h3,h0,hlt,HD,implies_true,Jz,Bo,Ap];intro hk;have:=Rr h hh _ (DD x st.2.toNat (0,0,0,0,0) h3);have:=iX this.2.2.1 hk;omega
theorem Zx(x:CW):GM x=Ec x:=by
 rw[sI,YT,Gu,Gu]
 have inner:∀ (i a n:Int) (A B:Bool),bNot (bOr A (bSel (iEq a 1) (bOr (iEq i 0) B) B))=bNot (bOr A (bSel (iEq i 0) (bOr (iEq a 1) B) B)):=by
  intro i a n A B;simp only[AF,A4,BA,Bo];by_cases h1:a=1<;>by_cases h2:i=0<;>simp[h1,h2]
 simp only[LG,λ i a A B=>inner i a 0 A B];generalize bNot (iLt (Am _ _ _) (lLen x.2))=L;rw[JU];simp only[AE,AF,A4,Aq,CO,As,Ah,Cn,BB,CL,F7,B8,Ap,Bl,GC,I7,AZ,JE];cases L<;>simp<;>omega
theorem gR(x:CW)(h:Gm x):Qz x/\Qt x:=by
 obtain⟨k,x⟩:=x;have h:Zw x:=h.1;rw[rZ,rA]
 have inl:∀ i:Int,0<=i->i<x.length->(lGet x (iNat i) []).length<=1048576:=λ i h0 hi=>by
  rw[A8,Az];exact(h.2 _ (DD x i.toNat [] (by omega))).1
 refine⟨⟨?_,λ _=>trivial,λ _=>⟨Px _,λ _=>Px _,λ _=>trivial⟩⟩,λ _=>trivial,λ _=>?_⟩
 all_goals
  refine IV (λ st=>st) x.length (by have:=h.1;omega) (λ st _ _ hc=>?_) (λ st=>rfl) (λ st h0 h1=>?_) (by simp) (by simp)
  . rw[AE,Aq st,As,Ah,Ap] at hc
    exact hc.1
  . refine⟨λ hlt=>?_,λ _=>trivial⟩
    rw[Aq,As,Ap] at hlt;have hlt:st<(x.length:Int):=hlt
    have h3:iNat st<x.length:=by rw[Az];omega
    have hl:=inl st h0 hlt;refine⟨⟨h0,hlt⟩,h3,λ _=>trivial,λ _=>?_⟩;refine IV (λ st=>st) (lGet x (iNat st) []).length (by omega) (λ j _ _ hc=>?_) (λ st=>rfl) (λ j j0 j1=>?_) (by simp) (by simp)
    . rw[AE,Aq j,As,Ah,Ap] at hc;exact hc.1
    . have fin:iLt j (lLen (lGet x (iNat st) []))=true->j<((lGet x (iNat st) []).length:Int)/\iNat j<(lGet x (iNat st) []).length:=λ hj=>by
       rw[Aq,As,Ap] at hj;exact⟨hj,by rw[Az];omega⟩
      first
       |exact⟨⟨h0,hlt⟩,h3,λ hj=>⟨⟨h0,hlt⟩,h3,⟨j0,(fin hj).1⟩,(fin hj).2,TI _⟩,λ _=>trivial⟩
       |exact⟨λ hj=>⟨⟨j0,(fin hj).1⟩,(fin hj).2,Qj _⟩,λ _=>trivial⟩
structure MapOk (k:Int) (x:DX):Prop where
 k1:1<=k
 k2:k<=32
 l1:1<=x.length
 l2:x.length<=4
 row:∀ i:Nat,i<x.length->((x.getD i []).length:Int)=k
 act:∀ i j:Nat,i<x.length->j<(x.getD i []).length->Bt ((x.getD i []).getD j (0,0,0,0))=true/\(i=0->((x.getD i []).getD j (0,0,0,0)).1≠1)/\(((x.getD i []).getD j (0,0,0,0)).1≠9->((x.getD i []).getD j (0,0,0,0)).2.2.2<x.length)
theorem GU{k:Int}{x:List Hc}(hs:Gm (k,x))(h:Ec (k,x)=true):MapOk k x:=by
 rw[YT,AE,Ah] at h;obtain⟨h1,h2⟩:=h;simp only[AF,A4,Aq,CO,As,Ah,Cn,BB,CL,F7,B8,Ap,Bl,GC,I7,AZ,JE] at h1;rw[AF,BB,Aq _ (lLen _),As,Bl] at h2;have hs:Zw x:=hs.1
 have all:=kI h2 (by show (x.length:Int)<=_;omega) (λ i hi hc=>by
  rw[AE,Aq (i:Int),As,Ah,Ap] at hc
  have:=hc.1;show i<x.length;simp only at this;omega) (λ i hi=>rfl)
 have row:∀ i:Nat,i<x.length->((x.getD i []).length:Int)=k/\∀ j:Nat,j<(x.getD i []).length->Bt ((x.getD i []).getD j (0,0,0,0))=true/\(i=0->((x.getD i []).getD j (0,0,0,0)).1≠1)/\(((x.getD i []).getD j (0,0,0,0)).1≠9->((x.getD i []).getD j (0,0,0,0)).2.2.2<x.length):=by
  intro i hi;have hc:=all i hi;rw[AE,AE,Ah,Ah] at hc;obtain⟨_,c1,c2⟩:=hc;simp only[AF,Db,As,A8,Az,Be,Sc,Ap] at c1;rw[AF,BB,Aq _ (lLen _),As,Bl] at c2;have hli:=(hs.2 _ (DD x i [] hi)).1
  have hin:(lGet x (iNat (i:Int)) [])=x.getD i []:=by rw[A8,Az,Be]
  have all2:=kI c2 (by show ((lGet x (iNat (i:Int)) []).length:Int)<=_;rw[hin];omega) (λ j hj hc=>by
   simp only[AE,Aq,As,Ah,Ap] at hc
   have:=hc.1;show j<(lGet x (iNat (i:Int)) []).length;omega) (λ j hj=>rfl)
  refine⟨c1,λ j hj=>?_⟩;have hc:=all2 j (by show j<(lGet x (iNat (i:Int)) []).length;rw[hin];exact hj);simp only[hin] at hc;simp only[AE,AF,A4,BA,Bo,Db,CK,As,A8,Az,Be,Ah,BB,B8,CL] at hc;obtain⟨_,d1,d2⟩:=hc;refine⟨d1,λ hz=>?_,λ h9=>?_⟩
  . subst hz;simp only[Int.ofNat_zero,Int.natCast_zero,decide_true,AK,B8,Bl] at d2;exact d2.1
  . split at d2
    . simp only[B8,F7,Bl,CL,Ap] at d2;rcases d2.2 with d2|d2
      . exact absurd d2 h9
      . omega
    . simp only[F7,Bl,CL,Ap] at d2;rcases d2 with d2|d2
      . exact absurd d2 h9
      . omega
 exact⟨by omega,by omega,by omega,by omega,λ i hi=>(row i hi).1,λ i j hi hj=>(row i hi).2 j hj⟩
theorem jt(k:Int)(x:DX)(on key:Int)(hs:Gm (k,x)):FU ((k,x),on,key)=BU ((k,x),on,key):=by
 rw[tn,Um,Y3];simp only[Zx,VQ,Gu]
 cases h:Ec (k,x) with
 |false=>simp only[AF,A4];simp[BA]
 | true=>
   have m:=GU hs h;rw[EH (by unfold AO;have:=m.k1;have:=m.k2;omega)]
   have:bOr (bNot true) (bNot (decide (0<=key)&&decide (key<=k-1)))=bOr (bNot true) (bOr (iLt key 0) (iGe key k)):=by
    rw[JU];simp only[AF,A4,Aq,CK,Ah,Cn,BB,CL,F7,B8,Ap,Bl,GC,I7,AZ,JE];simp;omega
   rw[this]
theorem jA(k:Int)(x:DX)(on key:Int)(hs:Gm (k,x)):Up ((k,x),on,key)/\Uv ((k,x),on,key):=by
 obtain⟨o1,o2⟩:=gR (k,x) hs
 have loop:∀ {c:Int->Bool} {f:Int->Int} {p:Int->Prop},Ec (k,x)=true->(∀ st,c st=true->0<st)->(∀ st,f st=iSub .i64 st 1)->(∀ st:Int,0<=st->st<x.length->p st)->LoopOk c f p (iSub .i64 (lLen x) 1):=by
  intro c f p h hc hf hp;have m:=GU hs h
  have:=m.l1;have:=m.l2
  rw[As,EH (by unfold AO;omega)];refine(LR (λ st:Int=>0<=st/\st<x.length) (λ st=>st.toNat) (λ st hI=>⟨hp st hI.1 hI.2,λ hcc=>?_⟩) (by omega)).1;have:=hc st hcc;rw[hf,EH (by unfold AO;omega)];omega
 have cell:Ec (k,x)=true->0<=key->key<k->∀ st:Int,0<=st->st<x.length->iNat st<x.length/\key<((lGet x (iNat st) []).length:Int)/\iNat key<(lGet x (iNat st) []).length:=by
  intro h h0 h1 st s0 s1;have m:=GU hs h;have:=m.row st.toNat (by omega);rw[A8,Az,Az];omega
 rw[sM,fN];simp only[Zx];refine⟨⟨⟨o1,λ _=>trivial,λ _=>Px _⟩,λ _=>trivial,λ hb=>?_⟩,o2,λ _=>trivial,λ hb=>?_⟩
 . simp only[Gu,AF,A4,B8,CL,Ah,Ap] at hb;obtain⟨h,h0,h1⟩:=hb;have m:=GU hs h;rw[EH (by unfold AO;have:=m.k1;have:=m.k2;omega)] at h1;refine loop h (λ st hc=>?_) (λ st=>rfl) (λ st s0 s1=>?_)
   . rw[AE,CO,Ah,Ap] at hc;exact hc.1
   . obtain⟨e1,e2,e3⟩:=cell h h0 (by omega) st s0 s1;exact⟨λ _=>⟨s0,λ _=>⟨⟨s0,s1⟩,e1,⟨h0,e2⟩,e3⟩,λ _=>trivial⟩,λ _=>trivial⟩
 . simp only[Aq,CK,AF,A4,B8,CL,Bl] at hb;obtain⟨h,h0,h1⟩:=hb;have hk0:0<=key:=Int.not_lt.mp h0;rw[sK];refine loop h (λ st hc=>?_) (λ st=>rfl) (λ st s0 s1=>?_)
   . rw[AE,CO,Ah,Ap] at hc;exact hc.1
   . obtain⟨e1,e2,e3⟩:=cell h (by omega) (by omega) st s0 s1;exact⟨λ _=>⟨by rw[iT];exact s0,λ _=>⟨⟨s0,s1⟩,e1,⟨hk0,e2⟩,e3⟩,λ _=>trivial⟩,λ _=>trivial⟩
def ZcL(_:Int×Int×Int):Prop:=True
def Za3(x:CX):Prop:=x.length<=1048576/\∀ a∈x,ZcL a
def MW(x:Dg):Prop:=x.length<=1048576/\∀ a∈x,Za3 a
def FZ(x:Cf):Prop:=Gm (x.1,x.2.1)/\MW x.2.2.1/\Pg x.2.2.2.2.1/\True
def Bh(h:Ff):Int×Int:=(h.2.2.1,h.2.2.2.1)
theorem ky(dn:Bw)(i:Nat):(dn.map Bh).getD i (0,0)=Bh (dn.getD i (0,0,0,0,0)):=by
 rw[Eg,Eg,HF];cases dn[i]?<;>rfl
theorem ZcX{c:Int->Bool}{f:Int->Int}(n:Int)(h0:0<=n)(hn:n<=9223372036854775806)(hc:∀ st:Int,c st=true->st<n)(hf:∀ st,f st=iAdd .i64 st 1):0<=Am c f 0:=
 (MU (λ st=>0<=st/\st<=n) (λ st=>(n-st).toNat) (λ st hI h=>by
  have:=hc st h
  rw[hf,Bx (by constructor<;>omega)]
  exact⟨by omega,by omega⟩) ⟨by omega,h0⟩).1.1
theorem Na(dn:Bw)(k c m:Int):B5 (dn,k,c,m)=Bg (dn.map Bh,c,m):=by
 rw[uX,Ze];simp only[A8,ky,As,A9,Bh]
theorem WM(dm:NJ)(q:A6)(h:dm.length<=1048576):Bg (dm,q)=-1\/(0<=Bg (dm,q)/\Bg (dm,q)<dm.length):=by
 rw[Ze,BA,Aq,As];split
 . rename_i hlt;rw[Ap] at hlt;refine .inr ⟨ZcX dm.length (by omega) (by omega) (λ st hc=>?_) (λ _=>rfl),hlt⟩;rw[AE,Aq,Ah,Ap] at hc;exact hc.1
 . exact .inl rfl
theorem bn(dn:Bw)(q:CS)(h:dn.length<=1048576):ML (dn,q):=by
 rw[uj];refine IV (λ st=>st) dn.length (by omega) (λ st _ _ h=>?_) (λ _=>rfl) (λ st h0 h1=>⟨λ hlt=>?_,λ _=>trivial⟩) (by simp) (by simp)
 . rw[AE,Aq,As,Ah,Ap] at h;exact h.1
 . rw[Aq,As,Ap] at hlt;have a:(0:Int)<=st/\st<(dn.length:Int):=⟨h0,hlt⟩
   have b:iNat st<dn.length:=by rw[Az];omega
   exact⟨a,b,λ _=>⟨a,b⟩,λ _=>trivial⟩
theorem mF(dm:NJ)(q:A6)(h:dm.length<=1048576):OA (dm,q):=by
 rw[vC];refine IV (λ st=>st) dm.length (by omega) (λ st _ _ h=>?_) (λ _=>rfl) (λ st h0 h1=>⟨λ hlt=>?_,λ _=>trivial⟩) (by simp) (by simp)
 . rw[AE,Aq,As,Ah,Ap] at h;exact h.1
 . rw[Aq,As,Ap] at hlt;exact⟨⟨h0,hlt⟩,by rw[Az];omega⟩
theorem jd(dn:Bw)(p:Int)(h0:0<=p)(h1:p<dn.length) :
 (Dl (dn,p)).map Bh=lApp (lTake (dn.map Bh) (lN (lSub (dn.map Bh) 0 (iNat p)))) (lSub (dn.map Bh) (iNat (iAdd .i64 p 1)) (lN (dn.map Bh))):=by
 have hm:min p.toNat dn.length=p.toNat:=by omega
 rw[Qo]
 simp only[BD,WA,HJ,II,Az,G9,L3,Ex,Gv,Xu,List.map_drop,A9,CV,hm]
theorem ja(dn:Bw)(p:Int)(h0:0<=p)(h1:p<dn.length)(h:dn.length<=1048576):(Dl (dn,p)).length<=dn.length:=by
 rw[Qo];simp only[BD,HJ,II,Az,G9,L3,Ex,Nq,Cv,CV];rw[Bx (by constructor<;>omega)];omega
theorem aC(K p:Int)(A:Bool):bNot (bOr (bNot (BF (K,0,2))) (bOr (bNot A) (bNot (bIff (iEq K 2) (iGe p 0)))))=
 bAnd (bNot (bNot A)) (bSel (bOr (iEq K 0) (iEq K 1)) (bNot (iGe p 0)) (bAnd (iEq K 2) (bNot (iLt p 0)))):=by
 have hp:decide (p<0)=!decide (0<=p):=by simp only[<- decide_not,Int.not_le]
 rw[Zo]
 simp only[AE,AF,A4,Nc,BA,Bo,CK,Ew,Aq,hp]
 generalize decide (0<=p)=P
 have h:K=0\/K=1\/K=2\/(¬ (0<=K/\K<=2)):=by omega
 rcases h with h|h|h|h
 . subst h;cases A<;>cases P<;>decide
 . subst h;cases A<;>cases P<;>decide
 . subst h;cases A<;>cases P<;>decide
 . have e0:K≠0:=by omega
   have e1:K≠1:=by omega
   have e2:K≠2:=by omega
   have e3:(decide (0<=K)&&decide (K<=2))=false:=by rw[<- Bool.decide_and];exact DQ h
   simp only[e3,e0,e1,e2,decide_false];cases A<;>rfl
theorem Za9 {l:List CS} {cs:List Ff×Int->Bool} {fs} {ci:List A6×Int->Bool} {fi}
 (h:∀ (dn:Bw) (i:Int),0<=i->i<=l.length->dn.length<=i->cs (dn,i)=ci (dn.map Bh,i)/\(cs (dn,i)=true->i<l.length/\∃ dn':List Ff,fs (dn,i)=(dn',i+1)/\fi (dn.map Bh,i)=(dn'.map Bh,i+1)/\dn'.length<=i+1)) :
 bAnd (bNot (iLt (Am cs fs ([],0)).2 (lLen l))) (bAnd (iLe (lLen l) 8) (iEq (lLen (Am cs fs ([],0)).1) 0))=
 bAnd (bNot (iGt (lLen l) 8)) (bAnd (bNot (iLt (Am ci fi ([],0)).2 (lLen l))) (iEq (lLen (Am ci fi ([],0)).1) 0)):=by
 have go:∀ (n:Nat) (dn:Bw) (i:Int),0<=i->i<=l.length->dn.length<=i->(l.length-i).toNat<n ->
  ∃ (en:Bw) (j:Int),LoopTo cs fs (λ _=>True) (dn,i) (en,j)/\LoopTo ci fi (λ _=>True) (dn.map Bh,i) (en.map Bh,j):=by
  intro n
  induction n with
  |zero=>intro _ _ _ _ _ hm;exact absurd hm (Xr _)
  | succ n ih=>
    intro dn i h0 h1 h2 hm;obtain⟨a,b⟩:=h dn i h0 h1 h2
    cases hc:cs (dn,i) with
    |false=>exact⟨dn,i,.stop trivial hc,.stop trivial (by rw[<- a,hc])⟩
    | true=>
      obtain⟨c1,dn',c2,c3,c4⟩:=b hc;obtain⟨en,j,d1,d2⟩:=ih dn' (i+1) (by omega) (by omega) c4 (by omega);exact⟨en,j,.go trivial hc (by rw[c2];exact d1),.go trivial (by rw[<- a,hc]) (by rw[c3];exact d2)⟩
 obtain⟨en,j,d1,d2⟩:=go _ [] 0 (by omega) (by omega) (by simp) (Xy _)
 have d2:LoopTo ci fi (λ _=>True) ([],0) (en.map Bh,j):=d2
 rw[d1.val,d2.val]
 simp only[AE,AF,Ew,CO,As,A9,<- decide_not,Int.not_lt]
 exact Bool.and_left_comm ..
theorem Z1 (dn:Bw) (K c m p i:Int) (t:Bool) (n:Int) (hp:p=-1\/(0<=p/\p<dn.length)) (hd:dn.length<=i) (hi:i<n) (hn:n<=1048576)
 (hc:bSel (bOr (iEq K 0) (iEq K 1)) (bNot (iGe p 0)) (bAnd (iEq K 2) (bNot (iLt p 0)))=true) :
 bSel (bOr (iEq K 0) (iEq K 1)) (bSel (iEq K 1) (lApp (dn.map Bh) [(c,m)]) (dn.map Bh)) (lApp (lTake (dn.map Bh) (lN (lSub (dn.map Bh) 0 (iNat p)))) (lSub (dn.map Bh) (iNat (iAdd .i64 p 1)) (lN (dn.map Bh))))=
  (bSel (iEq K 1) (lApp dn [(0,2,c,m,0)]) (bSel (iEq K 2) (Dl (dn,p)) dn)).map Bh /\
 ((bSel (iEq K 1) (lApp dn [(0,2,c,m,0)]) (bSel (iEq K 2) (Dl (dn,p)) dn)).length:Int)<=i+1:=by
 simp only[BA,A4,AE,AF,Bo,CK,Aq,Cn,Ap] at hc ⊢
 by_cases k1:K=1
 . subst k1
   simp[BD,Bh];omega
 . by_cases k0:K=0
   . subst k0;simp;omega
   . simp only[k0,k1,or_self,AP,Ah,Ap,BB,Bl] at hc ⊢
     have h0:0<=p:=by omega
     have h1:p<dn.length:=by omega
     rw[Ac hc.1];refine⟨(jd dn p h0 h1).symm,?_⟩;have:=ja dn p h0 h1 (by omega);omega
theorem ZC(x:CX)(h:x.length<=1048576):Gh x=Io x:=by
 rw[Y0,th];refine Za9 (λ dn i h0 h1 h2=>?_);have hr:=WM (dn.map Bh) ((lGet x (iNat i) (0,0,0)).2.1,(lGet x (iNat i) (0,0,0)).2.2) (by rw[A9];omega);rw[A9] at hr;simp only[Na,LG,ME,aC];generalize Bg (dn.map Bh,(lGet x (iNat i) (0,0,0)).2.1,(lGet x (iNat i) (0,0,0)).2.2)=p at hr ⊢;refine⟨trivial,λ hc=>?_⟩;rw[AE,AE,Aq,As,Ah,Ah,Ap] at hc;obtain⟨hc1,hc2,hc3⟩:=hc;obtain⟨s1,s2⟩:=Z1 dn (lGet x (iNat i) (0,0,0)).1 (lGet x (iNat i) (0,0,0)).2.1 (lGet x (iNat i) (0,0,0)).2.2 p i true x.length hr h2 hc1 (by omega) hc3;rw[Bx (a:=i) (b:=1) (by constructor<;>omega)];exact⟨hc1,_,rfl,by rw[s1],s2⟩
theorem MX{k w:Nat}(h:k<=1048577)(hw:w<=1000):Aw (k*w):=by
 unfold Aw;exact JK (Nat.mul_le_mul h hw) (by decide)
theorem Wa(dn:Bw)(p:Int)(h0:0<=p)(h1:p<dn.length)(h:dn.length<=1048576):MB (dn,p):=by
 rw[qH,Bx (a:=p) (b:=1) (by constructor<;>omega)];simp only[Az,HJ,BD,II,G9,L3,Ex,Nq,Cv,AL,CV];refine⟨⟨h0,by omega,by omega,by omega⟩,⟨by omega,by omega,by omega,by omega⟩,MX (by omega) (by omega),MX (by omega) (by omega)⟩
theorem gi(x:CX)(h:x.length<=1048576):Oq x:=by
 rw[tE];refine(LR (λ st:List Ff×Int=>0<=st.2/\st.2<=(x.length:Int)/\(st.1.length:Int)<=st.2) (λ st=>((x.length:Int)-st.2).toNat) (λ st hI=>?_) ⟨by simp,by simp,by simp⟩).1;obtain⟨dn,i⟩:=st;obtain⟨i0,i1,i2⟩:=hI;simp only at i0 i1 i2;have hr:=WM (dn.map Bh) ((lGet x (iNat i) (0,0,0)).2.1,(lGet x (iNat i) (0,0,0)).2.2) (by rw[A9];omega);rw[A9] at hr;have hf:=bn dn ((lGet x (iNat i) (0,0,0)).1,(lGet x (iNat i) (0,0,0)).2.1,(lGet x (iNat i) (0,0,0)).2.2) (by omega);simp only[Na,LG,ME,aC,TI,fe,OR];generalize Bg (dn.map Bh,(lGet x (iNat i) (0,0,0)).2.1,(lGet x (iNat i) (0,0,0)).2.2)=p at hr ⊢;refine⟨⟨λ hlt=>?_,λ _=>trivial⟩,λ hc=>?_⟩
 . rw[Aq,As,Ap] at hlt;refine⟨⟨i0,hlt⟩,by rw[Az];omega,hf,⟨trivial,λ _=>trivial,λ _=>⟨trivial,trivial⟩⟩,λ _=>trivial,λ hc=>⟨λ _=>⟨trivial,MX (by simp only[AG,AL];omega) (by omega)⟩,λ k1=>⟨λ k2=>?_,λ _=>trivial⟩⟩⟩;have hc:=congrArg bNot hc;rw[aC] at hc;simp only[BA,A4,AE,AF,Bo,CK,Aq,Ap] at hc k1 k2;simp[k2] at hc;exact Wa dn p (by omega) (by omega) (by omega)
 . rw[AE,AE,Aq,As,Ah,Ah,Ap] at hc;obtain⟨hc1,hc2,hc3⟩:=hc;obtain⟨s1,s2⟩:=Z1 dn (lGet x (iNat i) (0,0,0)).1 (lGet x (iNat i) (0,0,0)).2.1 (lGet x (iNat i) (0,0,0)).2.2 p i true x.length hr i2 hc1 (by omega) hc3;rw[Bx (a:=i) (b:=1) (by constructor<;>omega)];exact⟨⟨by show 0<=i+1;omega,by show i+1<=_;omega,s2⟩,by show (_-(i+1)).toNat<_;omega⟩
theorem gu(x:CX)(h:x.length<=1048576):Oj x:=by
 rw[sN];refine⟨λ _=>trivial,λ _=>?_⟩;refine(LR (λ st:List A6×Int=>0<=st.2/\st.2<=(x.length:Int)/\∃ dn:List Ff,st.1=dn.map Bh/\(dn.length:Int)<=st.2) (λ st=>((x.length:Int)-st.2).toNat) (λ st hI=>?_) ⟨by simp,by simp,[],rfl,by simp⟩).1;obtain⟨dm,i⟩:=st;obtain⟨i0,i1,dn,rfl,i2⟩:=hI;simp only at i0 i1 i2;have hr:=WM (dn.map Bh) ((lGet x (iNat i) (0,0,0)).2.1,(lGet x (iNat i) (0,0,0)).2.2) (by rw[A9];omega);have hf:=mF (dn.map Bh) ((lGet x (iNat i) (0,0,0)).2.1,(lGet x (iNat i) (0,0,0)).2.2) (by rw[A9];omega);rw[A9] at hr;simp only[Qj];generalize Bg (dn.map Bh,(lGet x (iNat i) (0,0,0)).2.1,(lGet x (iNat i) (0,0,0)).2.2)=p at hr ⊢;refine⟨⟨λ hlt=>?_,λ _=>trivial⟩,λ hc=>?_⟩
 . rw[Aq,As,Ap] at hlt;refine⟨⟨i0,hlt⟩,by rw[Az];omega,hf,trivial,λ _=>trivial,λ _=>⟨λ _=>⟨λ _=>trivial,λ _=>⟨λ _=>MX (by simp only[A9,AG,AL];omega) (by omega),λ _=>trivial⟩⟩,λ _=>⟨λ _=>⟨λ _=>trivial,λ hp=>?_⟩,λ _=>trivial⟩⟩⟩;rw[Aq,Bl] at hp
   have h0:0<=p:=by omega
   have h1:p<dn.length:=by omega
   rw[Bx (a:=p) (b:=1) (by constructor<;>omega)];simp only[Az,HJ,II,G9,L3,Ex,Nq,A9];exact⟨⟨h0,by omega,by omega,by omega⟩,⟨by omega,by omega,by omega,by omega⟩,by omega,by omega,MX (by omega) (by omega)⟩
 . rw[AE,AE,Aq,As,Ah,Ah,Ap] at hc;obtain⟨hc1,hc2,hc3⟩:=hc;obtain⟨s1,s2⟩:=Z1 dn (lGet x (iNat i) (0,0,0)).1 (lGet x (iNat i) (0,0,0)).2.1 (lGet x (iNat i) (0,0,0)).2.2 p i true x.length hr i2 hc1 (by omega) hc3;rw[Bx (a:=i) (b:=1) (by constructor<;>omega)];exact⟨⟨by show 0<=i+1;omega,by show i+1<=_;omega,_,s1,s2⟩,by show (_-(i+1)).toNat<_;omega⟩
abbrev BZ:=Int×DX×Dg×Int×Bw×Int×Bool
theorem lH{c c':Int->Bool}{f:Int->Int}{p q:Int->Prop}(n:Nat)(hn:n<=1048576)(hc:∀ i:Nat,i<n->c i=c' i)(hlt:∀ i:Nat,c i=true->i<n)(hlt':∀ i:Nat,c' i=true->i<n)(hf:∀ i,f i=iAdd .i64 i 1)(hp:∀ i:Nat,i<=n->p i/\q i) :
 LoopOk c f p 0/\LoopOk c' f q 0/\Am c f 0=Am c' f 0/\0<=Am c f 0/\Am c f 0<=n:=by
 obtain⟨b1,b2,⟨k,h1,h2,h3⟩,b4⟩:=aq (c:=c) (f:=f) (p:=p) (d:=c') (g:=f) (q:=q) (x0:=0) (y0:=0) (λ x y=>∃ k:Nat,k<=n/\x=k/\y=k) (λ x=>n-x.toNat) (by
  rintro x y ⟨k,hk,rfl,rfl⟩
  refine⟨(hp k hk).1,(hp k hk).2,?_,λ h=>?_⟩
  . by_cases hkn:k<n
    . exact hc k hkn
    . have e1:c (k:Int)=false:=by cases h:c (k:Int) with
       |false=>rfl
       |true=>exact absurd (hlt k h) hkn
      have e2:c' (k:Int)=false:=by cases h:c' (k:Int) with
       |false=>rfl
       |true=>exact absurd (hlt' k h) hkn
      rw[e1,e2]
  . have hkn:=hlt k h
    have e:f (k:Int)=((k+1:Nat):Int):=by rw[hf,Bx (by unfold AO;omega)];omega
    exact⟨⟨k+1,hkn,e,e⟩,by rw[e];omega⟩) ⟨0,by omega,rfl,rfl⟩
 exact⟨b1,b2,by rw[h2,h3],by omega,by omega⟩
theorem Rk(x:BZ)(hs:FZ x):N9 x/\Of x/\D9 x=Gg x:=by
 obtain⟨keys,layers,macros,fixed,held,once,caps⟩:=x;have hk:Gm (keys,layers):=hs.1;have hm:MW macros:=hs.2.1;have hh:Pg held:=hs.2.2.1;obtain⟨a1,a2⟩:=gR (keys,layers) hk
 have l1:=lH (c:=Mz (keys,layers,macros,fixed,held,once,caps)) (c':=J9 (keys,layers,macros,fixed,held,once,caps)) (f:=H4) (p:=Yw (keys,layers,macros,fixed,held,once,caps)) (q:=Yt (keys,layers,macros,fixed,held,once,caps)) macros.length hm.1
  (λ i hi=>by
   simp only[Mz,J9]
   rw[A8,Az,Be,ZC _ (hm.2 _ (DD macros i [] hi)).1])
  (λ i h=>by simp only[Mz,AE,Ah,Aq,As,Ap] at h;omega)
  (λ i h=>by simp only[J9,AE,Ah,Aq,As,Ap] at h;omega) (λ i=>rfl)
  (λ i hi=>by
   have k:(i:Int)<macros.length->Oq (lGet macros (iNat (i:Int)) [])/\Oj (lGet macros (iNat (i:Int)) []):=λ h=>by
    rw[A8,Az,Be];have:=(hm.2 _ (DD macros i [] (by omega))).1;exact⟨gi _ this,gu _ this⟩
   simp only[Yw,Yt,Aq,As,Ap]
   refine⟨⟨λ h=>⟨⟨by omega,h⟩,by rw[Az];omega,(k h).1⟩,λ _=>trivial⟩,⟨λ h=>⟨⟨by omega,h⟩,by rw[Az];omega,(k h).2⟩,λ _=>trivial⟩⟩)
 have l2:=lH (c:=N4 (keys,layers,macros,fixed,held,once,caps)) (c':=Lj (keys,layers,macros,fixed,held,once,caps)) (f:=H4) (p:=Yv (keys,layers,macros,fixed,held,once,caps)) (q:=Yr (keys,layers,macros,fixed,held,once,caps)) held.length hh.1
  (λ i hi=>rfl)
  (λ i h=>by simp only[N4,AE,Ah,Aq,As,Ap] at h;omega)
  (λ i h=>by simp only[Lj,AE,Ah,Aq,As,Ap] at h;omega) (λ i=>rfl)
  (λ i hi=>by
   simp only[Yv,Yr,Aq,As,Ap]
   have k:(i:Int)<held.length->iNat (i:Int)<held.length:=λ h=>by rw[Az];omega
   refine⟨⟨λ h=>⟨⟨by omega,h⟩,k h,λ _=>trivial,λ _=>⟨⟨by omega,h⟩,k h,λ _=>⟨⟨by omega,h⟩,k h⟩,λ _=>trivial⟩⟩,λ _=>trivial⟩,⟨λ h=>⟨⟨by omega,h⟩,k h⟩,λ _=>trivial⟩⟩)
 have ef:HZ=H4:=rfl;rw[rL,ss,rz,e9,ef];obtain⟨p1,p2,p3,_⟩:=l1;obtain⟨q1,q2,q3,_⟩:=l2;simp only[<- p3,<- q3,Zx,O7]
 have hl:(0:Int)<=lLen layers:=by rw[As];omega
 refine⟨?_,?_,?_⟩
 . simp only[a1,T8 held hh.1,Px,p1,q1,hl];simp
 . simp only[a2,Uc held hh.1,p2,q2,hl];simp
 . cases hv:Ec (keys,layers) with
   |false=>simp[A4,AF,AE]
   | true=>
     have hm:=GU hk hv
     have e1:iShl .i64 1 (lLen layers)=((2^layers.length:Nat):Int):=by
      have h2:2^layers.length<=2^4:=Nat.pow_le_pow_right (by omega) hm.l2;rw[As];have:=R9 (a:=1) (k:=layers.length) (by have:=hm.l2;omega) (by omega);rw[Gw] at this;exact this
     have h2:2^layers.length<=2^4:=Nat.pow_le_pow_right (by omega) hm.l2;generalize (2^layers.length:Nat)=M at e1 h2;have e2:iSub .i64 (M:Int) 1=(M:Int)-1:=EH (by unfold AO;omega);rw[e1,e2,Gu,Gu];generalize iLt (Am _ _ _) (lLen macros)=A;generalize iLt (Am _ _ _) (lLen held)=B;rw[JU];simp only[A4,AF,AE,CO,Aq,CK,Bo,Ah,B8,BB,Ap,Bl,GA];constructor
     . rintro⟨⟨_,h1,h3,h4,h5⟩,h6,h7,h8,h9,h10⟩;exact⟨⟨trivial,h1,h3⟩,h6,h7,⟨h8,by omega⟩,h9,by omega,by omega⟩
     . rintro⟨⟨_,h1,h3⟩,h6,h7,⟨h8,h9⟩,h10,h11,h12⟩;exact⟨⟨trivial,h1,h3,by omega,by omega⟩,h6,h7,h8,h10,by omega⟩
theorem gI(x:Dg)(hs:MW x):Qn x/\MC x=x:=by
 rw[p7,p9]
 obtain⟨a1,a2⟩:=Zam (c:=TB x) (f:=TA x) (p:=Ym x) x [] hs.1 (λ i l=>by simp[TB,Aq,As])
  (λ i l _=>by simp[TA,BD,A8,Az]) (λ i l hi hl=>by
   simp only[Ym,Aq,As,Ap];refine⟨λ h=>?_,λ _=>trivial⟩
   have e:lGet x (iNat (i:Int)) []=x.getD i []:=by rw[A8,Az,Be]
   have:=(hs.2 _ (DD x i [] (by omega))).1;have:=hs.1;rw[e]
   refine⟨⟨by omega,h⟩,by rw[Az];omega,by unfold Aw;omega,by unfold Aw;simp only[AG,AL];omega⟩)
 exact⟨a1,by rw[a2]⟩
theorem Wk(x:BZ)(hs:FZ x):Oz x/\DJ x=x:=by
 obtain⟨keys,layers,macros,fixed,held,once,caps⟩:=x;have hm:MW macros:=hs.2.1;have hh:Pg held:=hs.2.2.1;obtain⟨c1,c2⟩:=Zat keys layers hs.1;rw[vJ,vg]
 obtain⟨a1,a2⟩:=aA (c:=Uj (keys,layers,macros,fixed,held,once,caps)) (f:=TY (keys,layers,macros,fixed,held,once,caps)) (p:=YR (keys,layers,macros,fixed,held,once,caps)) macros [] hm.1 (λ i l=>by simp[Uj,Aq,As])
  (λ i l _=>by simp[TY,BD,A8,Az]) (λ i l hi hl=>by
   simp only[YR,Aq,As,Ap];refine⟨λ h=>?_,λ _=>trivial⟩
   have e:lGet macros (iNat (i:Int)) []=macros.getD i []:=by rw[A8,Az,Be]
   have:=(hm.2 _ (DD macros i [] (by omega))).1;have:=hm.1;rw[e]
   refine⟨⟨by omega,h⟩,by rw[Az];omega,by unfold Aw;simp only[AL];omega,by unfold Aw;simp only[AG,AL];omega⟩)
 have hl:=hh.1;refine⟨⟨c1,a1,by unfold Aw;simp only[AL];omega⟩,?_⟩;rw[a2];simp only[c2,BD,CV]
theorem vP(k:Int)(x:DX)(m:Dg)(hk:Gm (k,x))(hm:MW m) :
 TR ((k,x),m)/\eQ ((k,x),m)/\eU ((k,x),m)=Oc ((k,x),m)/\FZ (Oc ((k,x),m)).1:=by
 have hh:Pg []:=⟨by simp,by simp⟩
 have hs:FZ (k,x,m,0,[],0,false):=⟨hk,hm,hh,trivial⟩
 have hz:FZ (0,[],[],0,[],0,false):=⟨⟨⟨by simp,by simp⟩,trivial⟩,⟨by simp,by simp⟩,hh,trivial⟩
 obtain⟨a1,a2⟩:=gX k x hk
 obtain⟨b1,b2⟩:=gI m hm
 obtain⟨c1,c2,c3⟩:=Rk _ hs
 obtain⟨d1,d2⟩:=Wk _ hs
 rw[qN,eQ,eG,eU]
 simp only[a2,b2,c3,d2,a1,b1,c1,c2,d1]
 refine⟨by simp,by simp,trivial,?_⟩
 rw[BA];split
 . exact hz
 . exact hs
theorem G3{α:Type}(x:List α)(d:α){i:Nat}(h:i<x.length):x.getD i d=x[i]:=by
 rw[Eg,Bc h];rfl
abbrev BQ:=List Ff
theorem lQ(m p:Nat)(hm:m<4611686018427387904)(hp:p<=64):Es ((m:Int),(p:Int))=if m.testBit p then 1 else 0:=by
 rw[VQ];simp only;rw[ZcE m p hp];have hd:m / 2^p<=m:=Nat.div_le_self _ _;have:=RW (a:=m / 2^p) (b:=1) (by omega) (by omega);rw[show ((1:Nat):Int)=1 from rfl] at this;rw[this,Nat.and_one_is_mod,Nat.testBit_eq_decide_div_mod_eq];simp only[Ap];split<;>omega
theorem Zaj{x:BQ}(hl:x.length<=1048576)(h:∀ a∈x,Xv a)(hd:x.Pairwise (λ a b=>a.1≠b.1)):Cs x=true:=by
 rw[U4,AF,BB]
 have key:=MU (c:=λ x0:Int×Int=>(bAnd (iLt x0.2 (lLen x)) (bAnd (bNot (bOr (iLt (lGet x (iNat x0.2) (0,0,0,0,0)).1 0) (bOr (iGt (lGet x (iNat x0.2) (0,0,0,0,0)).1 31) (bOr (iEq (Es (x0.1,(lGet x (iNat x0.2) (0,0,0,0,0)).1)) 1) (bNot (Bt ((lGet x (iNat x0.2) (0,0,0,0,0)).2.1,(lGet x (iNat x0.2) (0,0,0,0,0)).2.2.1,(lGet x (iNat x0.2) (0,0,0,0,0)).2.2.2.1,(lGet x (iNat x0.2) (0,0,0,0,0)).2.2.2.2))))))) (bNot (bOr (iEq (lGet x (iNat x0.2) (0,0,0,0,0)).2.1 1) (bOr (iEq (lGet x (iNat x0.2) (0,0,0,0,0)).2.1 6) (iEq (lGet x (iNat x0.2) (0,0,0,0,0)).2.1 7)))))))
  (f:=λ x0=>((iOr .i64 x0.1 (iShl .i64 1 (lGet x (iNat x0.2) (0,0,0,0,0)).1)),(iAdd .i64 x0.2 1)))
  (λ st=>∃ i m:Nat,st=((m:Int),(i:Int))/\i<=x.length/\m<4294967296/\∀ p:Nat,m.testBit p=true->∃ j,j<i/\(x.getD j (0,0,0,0,0)).1=(p:Int)) (λ st=>x.length-st.2.toNat) (λ st hI hc=>?_) (x0:=(0,0)) ⟨0,0,rfl,Gy _,by omega,λ p hp=>by simp at hp⟩
 . obtain⟨⟨i,m,k1,k2,k3,k4⟩,k5⟩:=key;rw[k1] at k5 ⊢;rw[Aq,As,Bl];intro hlt
   have hi:i<x.length:=by simpa using hlt
   obtain⟨h1,h2,h3,h4,h5,h6⟩:=h _ (DD x i (0,0,0,0,0) hi)
   have hb:Es ((m:Int),(x.getD i (0,0,0,0,0)).1)≠1:=by
    obtain⟨p,hp⟩:=Int.eq_ofNat_of_zero_le h1;rw[hp,lQ m p (by omega) (by omega)];split
    . next hb=>
      obtain⟨j,hj,e⟩:=k4 p hb;have:=List.pairwise_iff_getElem.1 hd j i (by omega) hi hj;rw[<- G3 x (0,0,0,0,0) hi,<- G3 x (0,0,0,0,0) (by omega:j<x.length),e,hp] at this;exact absurd rfl this
    . decide
   have h3':Bt ((x.getD i (0,0,0,0,0)).2.1,(x.getD i (0,0,0,0,0)).2.2.1,(x.getD i (0,0,0,0,0)).2.2.2.1,(x.getD i (0,0,0,0,0)).2.2.2.2)=true:=h3;simp only[AE,AF,A4,Aq,CO,Bo,As,A8,Az,Be,h3',hb,h4,h5,h6] at k5;simp[-List.getD_eq_getElem?_getD] at k5;omega
 . obtain⟨i,m,rfl,k2,k3,k4⟩:=hI;simp only[AE,Aq,As,Ah,Ap] at hc
   have hi:i<x.length:=by omega
   obtain⟨h1,h2,_⟩:=h _ (DD x i (0,0,0,0,0) hi);obtain⟨p,hp⟩:=Int.eq_ofNat_of_zero_le h1
   have hpl:p<32:=by omega
   have h2p:2^p<=2^31:=Nat.pow_le_pow_right (by omega) (by omega)
   have h31:(2:Nat)^31=2147483648:=by decide
   simp only[A8,Az,Be,hp];have e1:=R9 (a:=1) (k:=p) (by omega) (by omega);rw[show ((1:Nat):Int)=1 from rfl,Gw] at e1;rw[e1,Sw (a:=m) (b:=2^p) (by omega) (by omega)];refine⟨⟨i+1,m ||| 2^p,by rw[Bx (by unfold AO;omega)];simp,by omega,?_,λ q hq=>?_⟩,by rw[Bx (by unfold AO;omega)];omega⟩
   . have:=Nat.or_lt_two_pow (x:=m) (y:=2^p) (n:=32) (by omega) (by omega);simpa using this
   . rw[Nat.testBit_or,Cn] at hq;rcases hq with hq|hq
     . obtain⟨j,hj,e⟩:=k4 q hq;exact⟨j,by omega,e⟩
     . rw[Nat.testBit_two_pow] at hq
       have:p=q:=by simpa using hq
       exact⟨i,by omega,by rw[hp,this]⟩
theorem zI{x:BQ}(hl:x.length<=1048576)(h:Cs x=true):x.Pairwise (λ a b=>a.1≠b.1):=by
 have hall:=Rr hl h;rw[U4,AF,BB] at h
 have key:=MU (c:=λ x0:Int×Int=>(bAnd (iLt x0.2 (lLen x)) (bAnd (bNot (bOr (iLt (lGet x (iNat x0.2) (0,0,0,0,0)).1 0) (bOr (iGt (lGet x (iNat x0.2) (0,0,0,0,0)).1 31) (bOr (iEq (Es (x0.1,(lGet x (iNat x0.2) (0,0,0,0,0)).1)) 1) (bNot (Bt ((lGet x (iNat x0.2) (0,0,0,0,0)).2.1,(lGet x (iNat x0.2) (0,0,0,0,0)).2.2.1,(lGet x (iNat x0.2) (0,0,0,0,0)).2.2.2.1,(lGet x (iNat x0.2) (0,0,0,0,0)).2.2.2.2))))))) (bNot (bOr (iEq (lGet x (iNat x0.2) (0,0,0,0,0)).2.1 1) (bOr (iEq (lGet x (iNat x0.2) (0,0,0,0,0)).2.1 6) (iEq (lGet x (iNat x0.2) (0,0,0,0,0)).2.1 7)))))))
  (f:=λ x0=>((iOr .i64 x0.1 (iShl .i64 1 (lGet x (iNat x0.2) (0,0,0,0,0)).1)),(iAdd .i64 x0.2 1)))
  (λ st=>∃ i m:Nat,st=((m:Int),(i:Int))/\i<=x.length/\m<4294967296/\(∀ j,j<i->∀ p:Nat,(x.getD j (0,0,0,0,0)).1=(p:Int)->m.testBit p=true)/\∀ j k,j<k->k<i->(x.getD j (0,0,0,0,0)).1≠(x.getD k (0,0,0,0,0)).1) (λ st=>x.length-st.2.toNat) (λ st hI hc=>?_) (x0:=(0,0)) ⟨0,0,rfl,Gy _,by omega,λ j hj=>absurd hj (by omega),λ j k _ hk=>absurd hk (by omega)⟩
 . obtain⟨⟨i,m,k1,k2,k3,k4,k5⟩,_⟩:=key;rw[k1,Aq,As,Bl] at h;simp only at h
   have hi:i=x.length:=by omega
   subst hi;rw[List.pairwise_iff_getElem];intro j k hj hk hjk;have:=k5 j k hjk hk;rwa [G3 x _ hj,G3 x _ hk] at this
 . obtain⟨i,m,rfl,k2,k3,k4,k5⟩:=hI;simp only[AE,Aq (i:Int),As,Ah,Ap] at hc;obtain⟨c1,c2,_⟩:=hc
   have hi:i<x.length:=by omega
   obtain⟨h1,h2,_⟩:=hall _ (DD x i (0,0,0,0,0) hi);obtain⟨p,hp⟩:=Int.eq_ofNat_of_zero_le h1
   have hpl:p<32:=by omega
   have h2p:2^p<=2^31:=Nat.pow_le_pow_right (by omega) (by omega)
   have h31:(2:Nat)^31=2147483648:=by decide
   simp only[A8,Az,Be,hp,AF,A4,BB,B8,Bo,Bl] at c2
   have hb:m.testBit p=false:=by
    have:=c2.2.2.1;rw[lQ m p (by omega) (by omega)] at this
    cases hb:m.testBit p with
    |false=>rfl
    |true=>rw[hb] at this;exact absurd rfl this
   simp only[A8,Az,Be,hp];have e1:=R9 (a:=1) (k:=p) (by omega) (by omega);rw[show ((1:Nat):Int)=1 from rfl,Gw] at e1;rw[e1,Sw (a:=m) (b:=2^p) (by omega) (by omega)];refine⟨⟨i+1,m ||| 2^p,by rw[Bx (by unfold AO;omega)];simp,by omega,?_,λ j hj q hq=>?_,λ j k hjk hk=>?_⟩,by rw[Bx (by unfold AO;omega)];omega⟩
   . have:=Nat.or_lt_two_pow (x:=m) (y:=2^p) (n:=32) (by omega) (by omega);simpa using this
   . rw[Nat.testBit_or,Cn];rcases BJ j i with h|h
     . exact .inl (k4 j h q hq)
     . have:j=i:=by omega
       subst this;rw[hp] at hq
       have:p=q:=by omega
       right;rw[this,Nat.testBit_two_pow_self]
   . rcases BJ k i with h|h
     . exact k5 j k hjk h
     . have:k=i:=by omega
       subst this;intro e;have:=k4 j hjk p (by rw[e];exact hp);rw[hb] at this;cases this
theorem O3{x:BQ}(hl:x.length<=1048576):Cs x=true↔(∀ a∈x,Xv a)/\x.Pairwise (λ a b=>a.1≠b.1):=
 ⟨λ h=>⟨Rr hl h,zI hl h⟩,λ h=>Zaj hl h.1 h.2⟩
theorem aD{x:BQ}(hl:x.length<=1048576)(h:Cs x=true):x.length<=32:=by
 obtain⟨h1,h2⟩:=(O3 hl).1 h
 have hn:(x.map λ a=>a.1.toNat).Nodup:=by
  rw[List.nodup_iff_pairwise_ne,List.pairwise_map]
  refine h2.imp_of_mem λ {a b} ha hb hab e=>hab ?_
  have:=(h1 a ha).1;have:=(h1 b hb).1
  omega
 have hs:(x.map λ a=>a.1.toNat) ⊆ List.range 32:=λ q hq=>by
  obtain⟨a,ha,rfl⟩:=List.mem_map.1 hq
  have:=(h1 a ha).1;have:=(h1 a ha).2.1
  rw[List.mem_range];omega
 have:=hn.length_le_of_subset hs;simpa using this
section
set_option maxRecDepth 20000
theorem kF{c:Int->Bool}{f:Int->Int}(n:Nat)(t:Nat->Bool)(hn:(n:Int)<=9223372036854775806)(hc:∀ i:Nat,i<=n->c i=(decide (i<n)&&!t i))(hf:∀ i:Nat,i<n->f i=iAdd .i64 i 1):iLt (Am c f 0) (n:Int)=false↔∀ i,i<n->t i=false:=by
 rw[Sq n t hn hc hf,Aq,Bl,<- OU];have:=Ju t n 0;omega
structure EngOk (x:BZ):Prop where
 map:Ec (x.1,x.2.1)=true
 mac:x.2.2.1.length<=4
 macs:∀ m∈x.2.2.1,Io m=true
 held:Cs x.2.2.2.2.1=true
 hk:∀ a∈x.2.2.2.2.1,a.1<x.1/\(a.2.1≠9->a.2.2.2.2<x.2.1.length)
 on0:0<=x.2.2.2.2.2.1
 on1:x.2.2.2.2.2.1<=15
 f0:0<=x.2.2.2.1
 f2:x.2.2.2.1 % 2=0
 f1:x.2.2.2.1<((2^x.2.1.length:Nat):Int)
theorem mq(n:Nat)(h:n<=40):iShl .i64 1 (n:Int)=((2^n:Nat):Int):=by
 have hp:2^n<=2^40:=Nat.pow_le_pow_right (by omega) h;have e:=R9 (a:=1) (k:=n) (by omega) (by rw[Gw];exact Nat.lt_of_le_of_lt hp (by decide));rwa [Gw] at e
theorem VD(x:BZ)(hs:FZ x):D9 x=true↔EngOk x:=by
 obtain⟨k,l,mc,fx,hd,on,cp⟩:=x;have hmc:mc.length<=1048576:=hs.2.1.1;have hhd:hd.length<=1048576:=hs.2.2.1.1
 have s1:=kF (c:=J9 (k,l,mc,fx,hd,on,cp)) (f:=HZ) mc.length (λ i=>!Io (mc.getD i [])) (by omega)
  (λ i hi=>by simp only[J9,AE,Aq,As,AF,A8,Az,Be,G8]) (λ i hi=>rfl)
 have s2:=kF (c:=Lj (k,l,mc,fx,hd,on,cp)) (f:=HZ) hd.length (λ i=>decide (k<=(hd.getD i (0,0,0,0,0)).1)||(!decide ((hd.getD i (0,0,0,0,0)).2.1=9)&&decide ((l.length:Int)<=(hd.getD i (0,0,0,0,0)).2.2.2.2))) (by omega)
  (λ i hi=>by simp only[Lj,AE,A4,Aq,CK,Db,As,AF,A8,Az,Be,G8]) (λ i hi=>rfl)
 have m1:(∀ i,i<mc.length->(!Io (mc.getD i []))=false)↔∀ m∈mc,Io m=true:=by
  constructor
  . intro h m hm;obtain⟨i,hi,rfl⟩:=IP hm;have:=h i hi;rw[G3 mc [] hi] at this;simpa using this
  . intro h i hi;have:=h _ (DD mc i [] hi);simpa using this
 have m2:(∀ i,i<hd.length->(decide (k<=(hd.getD i (0,0,0,0,0)).1)||(!decide ((hd.getD i (0,0,0,0,0)).2.1=9)&&decide ((l.length:Int)<=(hd.getD i (0,0,0,0,0)).2.2.2.2)))=false)↔∀ a∈hd,a.1<k/\(a.2.1≠9->a.2.2.2.2<l.length):=by
  have one:∀ a:Int×Int×Int×Int×Int,(decide (k<=a.1)||(!decide (a.2.1=9)&&decide ((l.length:Int)<=a.2.2.2.2)))=false↔a.1<k/\(a.2.1≠9->a.2.2.2.2<l.length):=by
   intro a;simp only[B8,F7,CL,Ap,Bl];constructor
   . rintro⟨h1,h2⟩;exact⟨by omega,λ h9=>by rcases h2 with h|h;exact absurd h h9;omega⟩
   . rintro⟨h1,h2⟩;refine⟨by omega,?_⟩;by_cases h9:a.2.1=9
     . exact .inl h9
     . exact .inr (by have:=h2 h9;omega)
  constructor
  . intro h a ha;obtain⟨i,hi,rfl⟩:=IP ha;have:=h i hi;rw[G3 hd _ hi] at this;exact(one _).1 this
  . intro h i hi;exact(one _).2 (h _ (DD hd i _ hi))
 rw[e9];simp only;rw[As mc,As hd,As l];simp only[AE,AF,A4,Ah,BB,B8,CL,s1.trans m1,s2.trans m2];constructor
 . rintro⟨⟨a1,a2,a3,a4,a5⟩,b1,b2,b3,b4,b5⟩;have hl:l.length<=4:=(GU hs.1 a1).l2;rw[mq _ (by omega),Aq,Ap] at b5;rw[CK,Ap] at b3;rw[Bo,Ap,W3 b3] at b4;rw[CO,Bl] at a2 a5;rw[Aq,Bl] at a4;exact⟨a1,by simp only;omega,b1,a3,b2,by simp only;omega,by simp only;omega,b3,b4,b5⟩
 . rintro⟨a1,a2,a3,a4,a5,a6,a7,a8,a9,a10⟩;simp only at a1 a2 a3 a4 a5 a6 a7 a8 a9 a10;have hl:l.length<=4:=(GU hs.1 a1).l2;refine⟨⟨a1,by rw[CO,Bl];omega,a4,by rw[Aq,Bl];omega,by rw[CO,Bl];omega⟩,a3,a5,by rw[CK,Ap];exact a8,by rw[Bo,Ap,W3 a8];exact a9,by rw[mq _ (by omega),Aq,Ap];exact a10⟩
end
def B3(c:CA):Prop:=0<=c.2.1/\c.2.1<=c.1.length/\c.1.length<=1048576
theorem Xz(x:Int):0<=iAnd .i64 x 255/\iAnd .i64 x 255<=255:=by
 rw[cI]
 have h:(BitVec.ofInt IntKind.i64.bits x &&& BitVec.ofInt IntKind.i64.bits 255).toNat<=255:=by
  rw[BitVec.toNat_and];exact Nat.and_le_right
 have:IntKind.i64.wrap ((BitVec.ofInt IntKind.i64.bits x &&& BitVec.ofInt IntKind.i64.bits 255).toNat:Int)=((BitVec.ofInt IntKind.i64.bits x &&& BitVec.ofInt IntKind.i64.bits 255).toNat:Int):=KS (by unfold AO;omega);rw[this];omega
theorem W4(c:CA)(h:B3 c):Ir c/\0<=(BV c).1/\(BV c).1<=255/\B3 (c.1,(BV c).2):=by
 obtain⟨h1,h2,h3⟩:=h;rw[gC,fW];simp only[BA,Aq,As,Az,Ap,Bl];refine⟨⟨by omega,by omega,λ _=>by omega,λ _=>trivial⟩,?_,?_,?_⟩
 . split
   . exact(Xz _).1
   . exact(Xz _).1
 . split
   . exact(Xz _).2
   . exact(Xz _).2
 . unfold B3;simp only;split
   . rw[Bx (by unfold AO;omega)];omega
   . omega
theorem Fz(c:CA)(n:Int)(h:B3 c):D0 (c,n)/\B3 (c.1,(Ar (c,n)).2)/\(n<=0->(Ar (c,n)).1=0)/\(0<n->0<=(Ar (c,n)).1/\(Ar (c,n)).1<n):=by
 rw[fD,fG];obtain⟨a1,a2,a3,a4⟩:=W4 c h;obtain⟨b1,b2,b3,b4⟩:=W4 _ a4;obtain⟨c1,c2,c3,c4⟩:=W4 _ b4;obtain⟨d1,d2,d3,d4⟩:=W4 _ c4;simp only at b1 b2 b3 b4 c1 c2 c3 c4 d1 d2 d3 d4 ⊢;simp only[BA,Ew,Ap,Bl];by_cases hn:n<=0
 . simp only[Ac hn];exact⟨⟨λ _=>trivial,λ h=>absurd hn h⟩,h,λ _=>trivial,λ h=>by omega⟩
 . simp only[Ae hn];by_cases hm:n<=256
   . simp only[Ac hm];refine⟨⟨λ h=>absurd h hn,λ _=>⟨λ _=>⟨a1,by omega⟩,λ h=>absurd hm h⟩⟩,a4,λ h=>absurd h hn,λ _=>?_⟩;rw[W3 a2];exact⟨Int.emod_nonneg _ (by omega),Int.emod_lt_of_pos _ (by omega)⟩
   . simp only[Ae hm];refine⟨⟨λ h=>absurd h hn,λ _=>⟨λ h=>absurd h hm,λ _=>⟨a1,b1,c1,d1,by omega⟩⟩⟩,d4,λ h=>absurd h hn,λ _=>?_⟩;generalize (BV c).1=p at a2 a3;generalize (BV (c.1,(BV c).2)).1=q at b2 b3;generalize (BV (c.1,(BV (c.1,(BV c).2)).2)).1=r at c2 c3;generalize (BV (c.1,(BV (c.1,(BV (c.1,(BV c).2)).2)).2)).1=s at d2 d3;rw[bc (a:=p) (by unfold AO;omega),bc (a:=q) (by unfold AO;omega),bc (a:=r) (by unfold AO;omega),Bx (a:=p*16777216) (by unfold AO;omega),Bx (a:=p*16777216+q*65536) (by unfold AO;omega),Bx (a:=p*16777216+q*65536+r*256) (by unfold AO;omega),W3 (by omega)];exact⟨Int.emod_nonneg _ (by omega),Int.emod_lt_of_pos _ (by omega)⟩
theorem W7(c:CA)(n:Int)(h:B3 c):Ks (c,n)/\B3 (c.1,(Ct (c,n)).2):=by
 obtain⟨a1,a2,_⟩:=Fz c n h;rw[gk,gq];exact⟨a1,a2⟩
theorem ZbV(c:CA)(l:Bd)(hl:0<l.length)(h:B3 c):N5 (c,l)/\B3 (c.1,(Dk (c,l)).2)/\(Dk (c,l)).1∈l:=by
 obtain⟨a1,a2,_,a4⟩:=Fz c (lLen l) h;rw[qZ,qQ];have a4:=a4 (by rw[As];omega);simp only;generalize (Ar (c,lLen l)).1=i at a4 ⊢;rw[As] at a4;refine⟨⟨a1,a4,by rw[Az];omega⟩,a2,?_⟩;rw[A8,Az];exact DD l _ _ (by omega)
theorem Zdo(x:Bd)(h:x.length<=1048576):OD x/\B3 (KF x)/\(KF x).1=x:=by
 rw[wW,wj];refine⟨?_,⟨by simp,by simp,h⟩,rfl⟩;refine IV (λ st=>st.2) x.length (by omega) (λ st _ _ hc=>?_) (λ _=>rfl) (λ st h0 h1=>?_) (by simp) (by simp)
 . unfold YX at hc;simp only[AE,Aq,As,Ah,Ap] at hc;exact hc.1
 . unfold fT;refine⟨λ hc=>?_,λ _=>trivial⟩;simp only[AE,Aq,As,Ah,Ap] at hc;rw[Az];omega
theorem Zdf(x:Bd):OZ x=decide (1048576<x.length)/\VP x:=by
 rw[xK,yb];refine⟨?_,trivial⟩;rw[CO,As];congr 1;exact propext (by omega)
def PY(a:CH):Prop:=Bt a=true/\a.1≠1
theorem Dp(k c m n:Int):Bt (k,c,m,n)=true ↔
 ((k=0\/k=1\/k=10)/\c=0/\m=0/\n=0)\/(k=2/\n=0/\0<=c/\c<=56/\0<=m/\m<=15/\(c≠0\/m≠0))\/((k=3\/k=4)/\c=0/\m=0/\1<=n/\n<=3)\/((k=5\/k=9)/\c=0/\m=0/\0<=n/\n<=3) \/
 (k=6/\1<=c/\c<=56/\1<=m/\m<=15/\n=0)\/(k=7/\1<=c/\c<=56/\m=0/\1<=n/\n<=3)\/(k=8/\c=0/\1<=m/\m<=15/\n=0):=by
 rw[Qs]
 simp only[BA,A4,AE,Bo,Db,U1,US,Y5,CK,Ew]
 repeat' split
 all_goals simp only[Ah,Cn,BB,CL,F7,B8,Ap,Bl,GC,I7,AZ,JE,Hv,GC,decide_not] at *
 all_goals omega
theorem ZcN(c:CA)(n:Int)(h:B3 c)(n1:1<=n)(n4:n<=4):Ot (c,n)/\B3 (c.1,(Cl (c,n)).2)/\PY (Cl (c,n)).1/\((Cl (c,n)).1.1≠9->(Cl (c,n)).1.2.2.2<n):=by
 rw[uU,vq]
 obtain⟨m,em,m1,m3,mn⟩:∃ m,iMax 1 (iSub .i64 n 1)=m/\1<=m/\m<=3/\(1<n->m=n-1):=by
  refine⟨_,rfl,?_⟩;rw[EH (by unfold AO;omega),cC];split<;>omega
 have em':iMax 1 n=n:=by rw[cC];split<;>omega
 obtain⟨a1,a2,_,a4⟩:=Fz c 56 h;have a4:=a4 (by omega);obtain⟨b1,b2,_,b4⟩:=Fz _ 15 a2;have b4:=b4 (by omega);change B3 (c.1,(Ho (c,n)).2) at b2;change 0<=(Ho (c,n)).1/\(Ho (c,n)).1<15 at b4;obtain⟨c1,c2⟩:=W7 _ 2 b2;change B3 (c.1,(CE (c,n)).2) at c2
 have hc2:B3 (c.1,(bSel (CE (c,n)).1 (CE (c,n)).2.1 (CE (c,n)).2.1),(bSel (CE (c,n)).1 (CE (c,n)).2.2 (CE (c,n)).2.2)):=by
  simp only[BA,ite_self];exact c2
 obtain⟨d1,d2,_,d4⟩:=Fz _ (iMax 1 (iSub .i64 n 1)) hc2;change B3 (c.1,(Ek (c,n)).2) at d2
 have d4:0<=(Ek (c,n)).1/\(Ek (c,n)).1<m:=by
  have:=d4 (by rw[em];omega);rw[em] at this
  have e:Ek (c,n)=Ar ((c.1,(bSel (CE (c,n)).1 (CE (c,n)).2.1 (CE (c,n)).2.1),(bSel (CE (c,n)).1 (CE (c,n)).2.2 (CE (c,n)).2.2)),m):=by unfold Ek;rw[em]
  rw[e];exact this
 obtain⟨e1,e2,_,e4⟩:=Fz _ 16 d2;have e4:=e4 (by omega);change B3 (c.1,(AU (c,n)).2) at e2;change 0<=(AU (c,n)).1/\(AU (c,n)).1<16 at e4;obtain⟨f1,f2,_,f4⟩:=Fz _ 4 e2;have f4:=f4 (by omega);change B3 (c.1,(Oh (c,n)).2) at f2;change 0<=(Oh (c,n)).1/\(Oh (c,n)).1<4 at f4;obtain⟨g1,g2,_,g4⟩:=Fz _ 3 e2;have g4:=g4 (by omega);change B3 (c.1,(Ki (c,n)).2) at g2;change 0<=(Ki (c,n)).1/\(Ki (c,n)).1<3 at g4;obtain⟨i1,i2,_,i4⟩:=Fz _ (iMax 1 n) e2;have i4:=i4 (by rw[em'];omega);change B3 (c.1,(Og (c,n)).2) at i2;change 0<=(Og (c,n)).1/\(Og (c,n)).1<iMax 1 n at i4;rw[em'] at i4
 have hM:1<=bSel (CE (c,n)).1 2 (iAdd .i64 1 (Ho (c,n)).1)/\bSel (CE (c,n)).1 2 (iAdd .i64 1 (Ho (c,n)).1)<=15:=by
  rw[BA,Bx (by unfold AO;omega)];split<;>omega
 have hC:1<=iAdd .i64 1 (Ar (c,56)).1/\iAdd .i64 1 (Ar (c,56)).1<=56:=by rw[Bx (by unfold AO;omega)];omega
 have hN:1<=iAdd .i64 1 (Ek (c,n)).1/\iAdd .i64 1 (Ek (c,n)).1<=m:=by rw[Bx (by unfold AO;omega)];omega
 refine⟨?_,?_⟩
 . refine⟨a1,b1,c1,d1,e1,λ _=>trivial,λ _=>⟨λ _=>trivial,λ _=>⟨λ _=>trivial,λ _=>⟨λ _=>trivial,λ _=>⟨λ _=>f1,λ _=>⟨λ _=>trivial,λ _=>⟨λ _=>i1,λ _=>⟨λ _=>⟨λ _=>⟨g1,?_,?_⟩,λ _=>trivial⟩,λ _=>trivial⟩⟩⟩⟩⟩⟩⟩⟩
   . simp only[AG,AL];omega
   . simp only[AG,AL,Az];omega
 generalize bSel (CE (c,n)).1 2 (iAdd .i64 1 (Ho (c,n)).1)=M at hM ⊢;generalize iAdd .i64 1 (Ar (c,56)).1=C at hC ⊢;generalize iAdd .i64 1 (Ek (c,n)).1=N at hN ⊢;generalize Og (c,n)=s7 at i2 i4 ⊢;generalize Ki (c,n)=s6 at g2 g4 ⊢;generalize Oh (c,n)=s5 at f2 f4 ⊢;generalize AU (c,n)=s4 at e2 e4 ⊢
 have hL:1<n->PY (lGet [(3,0,0,N),(4,0,0,N),(7,C,0,N)] (iNat s6.1) (0,0,0,0))/\(lGet [(3,0,0,N),(4,0,0,N),(7,C,0,N)] (iNat s6.1) (0,0,0,0):Int×Int×Int×Int).2.2.2<n:=by
  intro hn;have:=mn hn;rw[A8,Az]
  have:s6.1=0\/s6.1=1\/s6.1=2:=by omega
  rcases this with e|e|e
  . rw[e];exact⟨⟨(Dp 3 0 0 N).2 (by omega),by simp⟩,by show N<n;omega⟩
  . rw[e];exact⟨⟨(Dp 4 0 0 N).2 (by omega),by simp⟩,by show N<n;omega⟩
  . rw[e];exact⟨⟨(Dp 7 C 0 N).2 (by omega),by simp⟩,by show N<n;omega⟩
 generalize lGet [(3,0,0,N),(4,0,0,N),(7,C,0,N)] (iNat s6.1) (0,0,0,0)=L at hL ⊢
 have g:∀ (b:Bool) (p q:CH×A6),(B3 (c.1,p.2)/\PY p.1/\(p.1.1≠9->p.1.2.2.2<n))->(b=false->B3 (c.1,q.2)/\PY q.1/\(q.1.1≠9->q.1.2.2.2<n))->B3 (c.1,(bSel b p q).2)/\PY (bSel b p q).1/\((bSel b p q).1.1≠9->(bSel b p q).1.2.2.2<n):=λ b p q hp hq=>by
  rw[BA];cases b
  . exact hq rfl
  . exact hp
 have hA:∀ (k c m z:Int),Bt (k,c,m,z)=true->k≠1->(k≠9->z<n)->PY (k,c,m,z)/\(k≠9->z<n):=λ k c m z h1 h2 h3=>⟨⟨h1,h2⟩,h3⟩
 refine g _ _ _ ⟨?_,hA _ _ _ _ ((Dp _ _ _ _).2 (by omega)) (by omega) (by omega)⟩ λ q0=>g _ _ _ ⟨e2,hA _ _ _ _ ((Dp _ _ _ _).2 (by omega)) (by omega) (by omega)⟩ λ q1=>g _ _ _ ⟨e2,hA _ _ _ _ ((Dp _ _ _ _).2 (by omega)) (by omega) (by omega)⟩ λ q2=>g _ _ _ ⟨e2,hA _ _ _ _ ((Dp _ _ _ _).2 (by omega)) (by omega) (by omega)⟩ λ q3=>g _ _ _ ⟨e2,hA _ _ _ _ ((Dp _ _ _ _).2 (by omega)) (by omega) (by omega)⟩ λ q4=>g _ _ _ ⟨f2,hA _ _ _ _ ((Dp _ _ _ _).2 (by omega)) (by omega) (λ h=>absurd rfl h)⟩ λ q5=>g _ _ _ ⟨e2,hA _ _ _ _ ((Dp _ _ _ _).2 (by omega)) (by omega) (by omega)⟩ λ q6=>g _ _ _ ⟨i2,hA _ _ _ _ ((Dp _ _ _ _).2 (by omega)) (by omega) (by omega)⟩ λ q7=>?_
 . simp only[BA,ite_self];exact e2
 . have hn:1<n:=by
    simp only[AE,AF,q1,q2,q3,q4,q5,q6,q7,Bool.not_false,Nw,A4,CO,B8,CL,Ap] at q0;exact q0.2
   exact⟨g2,(hL hn).1,λ _=>(hL hn).2⟩
section
set_option maxRecDepth 20000
abbrev FL:=Int×Int×Int×Int
abbrev dU:=Int×DX×Dg×Int×Bw×Int×Bool
theorem Zcz{a b:Nat}(ha:a<4611686018427387904)(hb:b<4611686018427387904):iXor .i64 (a:Int) (b:Int)=((a ^^^ b:Nat):Int):=by
 have e:(BitVec.ofInt 64 (a:Int) ^^^ BitVec.ofInt 64 (b:Int)).toNat=a ^^^ b:=by
  rw[BitVec.ofInt_natCast,BitVec.ofInt_natCast,BitVec.toNat_xor,BitVec.toNat_ofNat,BitVec.toNat_ofNat,Nat.mod_eq_of_lt (by omega),Nat.mod_eq_of_lt (by omega)]
 have h:a ^^^ b<2^62:=Nat.xor_lt_two_pow (by omega) (by omega);rw[nO];show IntKind.i64.wrap ((BitVec.ofInt 64 (a:Int) ^^^ BitVec.ofInt 64 (b:Int)).toNat:Int)=_;rw[e];exact KS (by unfold AO;omega)
def EW(a b:Nat):Nat:=a &&& (15-b)
theorem yL:∀ a b:Fin 16,(BitVec.ofInt 64 (a.val:Int) &&& ~~~BitVec.ofInt 64 (b.val:Int)).toNat=EW a.val b.val:=by decide +kernel
theorem bU(a b:Nat):EW a b<=a:=Nat.and_le_left
theorem ZL{a b:Nat}(ha:a<16)(hb:b<16):iAndNot .i64 (a:Int) (b:Int)=((EW a b:Nat):Int):=by
 have e:(BitVec.ofInt 64 (a:Int) &&& ~~~BitVec.ofInt 64 (b:Int)).toNat=EW a b:=yL ⟨a,ha⟩ ⟨b,hb⟩;have h:=bU a b;rw[j4];show IntKind.i64.wrap ((BitVec.ofInt 64 (a:Int) &&& ~~~BitVec.ofInt 64 (b:Int)).toNat:Int)=_;rw[e];exact KS (by unfold AO;omega)
theorem Zbv{n:Nat}(h:n<=40):iShl .i64 1 (n:Int)=((2^n:Nat):Int):=by
 have hp:2^n<=2^40:=Nat.pow_le_pow_right (by omega) h;have e:=R9 (a:=1) (k:=n) (by omega) (by rw[Gw];exact Nat.lt_of_le_of_lt hp (by decide));rwa [Gw] at e
theorem xG(c:Int):Ll c=EY c:=by
 rw[qx,pU,Gu];simp only[BA,A4,Bo,CK,Ew];by_cases h:1<=c
 . simp[h]
 . simp[h]
def JC(w:Bool)(c:Int)(m on:Nat)(cp:Bool):Nat:=if (cp=true/\w=true)/\c<=26/\EW (m ||| on) 2=0 then 2 else m ||| on
def C3(w:Bool)(x:dU)(a:FL):FL×dU:=
 if a.1=2 then
  if 0<a.2.1 then ((a.1,a.2.1,((JC w a.2.1 a.2.2.1.toNat x.2.2.2.2.2.1.toNat x.2.2.2.2.2.2:Nat):Int),a.2.2.2),x.1,x.2.1,x.2.2.1,x.2.2.2.1,x.2.2.2.2.1,0,(x.2.2.2.2.2.2&&w))
  else (a,x)
 else if a.1=4 then (a,x.1,x.2.1,x.2.2.1,((x.2.2.2.1.toNat ^^^ 2^a.2.2.2.toNat:Nat):Int),x.2.2.2.2)
 else if a.1=5 then (a,x.1,x.2.1,x.2.2.1,((EW (2^a.2.2.2.toNat) 1:Nat):Int),x.2.2.2.2)
 else if a.1=8 then (a,x.1,x.2.1,x.2.2.1,x.2.2.2.1,x.2.2.2.2.1,((if x.2.2.2.2.2.1.toNat &&& a.2.2.1.toNat=a.2.2.1.toNat then EW x.2.2.2.2.2.1.toNat a.2.2.1.toNat else x.2.2.2.2.2.1.toNat ||| a.2.2.1.toNat:Nat):Int),x.2.2.2.2.2.2)
 else if a.1=10 then (a,x.1,x.2.1,x.2.2.1,x.2.2.2.1,x.2.2.2.2.1,x.2.2.2.2.2.1,!x.2.2.2.2.2.2)
 else (a,x)
theorem zV(x:dU)(a:FL)(ha:Bt a=true)(f0:0<=x.2.2.2.1)(f1:x.2.2.2.1<=15)(o0:0<=x.2.2.2.2.2.1)(o1:x.2.2.2.2.2.1<=15) :
 Oa (x,a,a)/\OC (x,a,a)/\Om (x,a,a)=C3 (EY a.2.1) x a/\ON (x,a,a)=C3 (EY a.2.1) x a:=by
 obtain⟨k,L,mc,f,hd,on,cp⟩:=x
 obtain⟨kd,c,m,n⟩:=a
 have h:=(Dp kd c m n).1 ha
 simp only at f0 f1 o0 o1
 obtain⟨F,rfl⟩:=Int.eq_ofNat_of_zero_le f0
 obtain⟨O,rfl⟩:=Int.eq_ofNat_of_zero_le o0
 obtain⟨M,rfl⟩:=Int.eq_ofNat_of_zero_le (show 0<=m by omega)
 obtain⟨P,rfl⟩:=Int.eq_ofNat_of_zero_le (show 0<=n by omega)
 have hM:M<16:=by omega
 have hO:O<16:=by omega
 have hP:P<=3:=by omega
 have hor:M ||| O<2^4:=Nat.or_lt_two_pow (by omega) (by omega)
 have h24:(2:Nat)^4=16:=by decide
 have e2:((2:Nat):Int)=2:=rfl
 have h2P:2^P<=2^3:=Nat.pow_le_pow_right (by omega) hP
 have h23:(2:Nat)^3=8:=by decide
 have x1:iOr .i64 (M:Int) (O:Int)=((M ||| O:Nat):Int):=Sw (by omega) (by omega)
 have x2:iAndNot .i64 ((M ||| O:Nat):Int) 2=((EW (M ||| O) 2:Nat):Int):=ZL (b:=2) (by omega) (by omega)
 have x3:iShl .i64 1 (P:Int)=((2^P:Nat):Int):=Zbv (by omega)
 have x4:iXor .i64 (F:Int) ((2^P:Nat):Int)=((F ^^^ 2^P:Nat):Int):=Zcz (by omega) (by omega)
 have x5:iAndNot .i64 ((2^P:Nat):Int) 1=((EW (2^P) 1:Nat):Int):=ZL (b:=1) (by omega) (by omega)
 have x6:iAnd .i64 (O:Int) (M:Int)=((O &&& M:Nat):Int):=RW (by omega) (by omega)
 have x7:iAndNot .i64 (O:Int) (M:Int)=((EW O M:Nat):Int):=ZL hO hM
 have x8:iOr .i64 (O:Int) (M:Int)=((O ||| M:Nat):Int):=Sw (by omega) (by omega)
 have z0:((EW (M ||| O) 2:Nat):Int)=0↔EW (M ||| O) 2=0:=by omega
 have z1:((O &&& M:Nat):Int)=(M:Int)↔O &&& M=M:=by omega
 refine⟨?_,?_,?_,?_⟩
 . rw[sj]
   simp only[wB,pY];exact⟨λ _=>⟨λ _=>by rw[OR];trivial,λ _=>trivial⟩,λ _=>⟨λ _=>by omega,λ _=>⟨λ _=>by omega,λ _=>trivial⟩⟩⟩
 . rw[uf]
   simp only[qc];exact⟨λ _=>⟨λ _=>trivial,λ _=>⟨λ _=>trivial,λ _=>trivial⟩⟩,λ _=>⟨λ _=>by omega,λ _=>⟨λ _=>by omega,λ _=>trivial⟩⟩⟩
 . rw[rS,wP]
   unfold C3 JC;simp only[x1,x2,x3,x4,x5,x6,x7,x8,Be];generalize EY c=w;simp only[BA,A4,AF,AE,Bo,CO,Ew,z0,z1];by_cases k2:kd=2
   . by_cases hc:0<c
     . simp only[k2,hc,decide_true,GA,Bool.or_false,AJ,AP,AK,Sc];by_cases hw:(cp=true/\w=true)/\c<=26/\EW (M ||| O) 2=0
       . rw[Ac hw,Ac (by obtain⟨⟨a1,a2⟩,a3,a4⟩:=hw;simp[a1,a2,a3,a4])];obtain⟨⟨a1,a2⟩,a3,a4⟩:=hw;simp[a1,a2]
       . rw[Ae hw,Ae (by intro hh;apply hw;simp at hh;exact⟨⟨hh.1.2,hh.1.1⟩,hh.2⟩)];rw[Bool.and_comm]
     . simp only[k2,hc,decide_true,GA,decide_false,Bool.not_false,Bool.or_true,AK,AP]
   . simp only[k2,decide_false,Bool.not_false,Bool.true_or,AK,AP,AJ];by_cases k4:kd=4
     . simp only[k4,decide_true,AK]
     . simp only[k4,decide_false,AP,AJ];by_cases k5:kd=5
       . simp only[k5,decide_true,AK]
       . simp only[k5,decide_false,AP,AJ];by_cases k8:kd=8
         . simp only[k8,decide_true,AK,Ap];split<;>rfl
         . simp only[k8,decide_false,AP,AJ];by_cases k10:kd=10
           . simp only[k10,decide_true,AK]
           . simp only[k10,decide_false,AP,AJ]
 . rw[vI]
   unfold C3 JC;simp only[xG,x1,x2,x3,x4,x5,x6,x7,x8,Be];generalize EY c=w;simp only[BA,A4,AF,AE,Bo,CO,Ew,z0,z1];by_cases k2:kd=2
   . by_cases hc:0<c
     . have hc':¬ c=0:=by omega
       simp only[k2,hc,hc',decide_true,decide_false,GA,Bool.not_false,Bool.or_true,Bool.or_false,AJ,AP,AK,Sc,ite_self];by_cases hw:(cp=true/\w=true)/\c<=26/\EW (M ||| O) 2=0
       . rw[Ac hw,Ac (by obtain⟨⟨a1,a2⟩,a3,a4⟩:=hw;simp[a1,a2,a3,a4])];rfl
       . rw[Ae hw,Ae (by intro hh;apply hw;simpa using hh)]
     . have hc':c=0:=by omega
       simp only[k2,hc',decide_true,GA,Bool.or_false,AJ,AP,AK];simp
   . simp only[k2,decide_false,Bool.not_false,Bool.true_or,AK,AP,AJ];by_cases k4:kd=4
     . simp only[k4,decide_true,AK]
     . simp only[k4,decide_false,AP,AJ];by_cases k5:kd=5
       . simp only[k5,decide_true,AK]
       . simp only[k5,decide_false,AP,AJ];by_cases k8:kd=8
         . simp only[k8,decide_true,AK,Ap];split<;>rfl
         . simp only[k8,decide_false,AP,AJ];by_cases k10:kd=10
           . simp only[k10,decide_true,AK]
           . simp only[k10,decide_false,AP,AJ]
theorem Zcc:∀ F:Fin 16,∀ P l:Fin 5,F.val % 2=0->1<=P.val->P.val<l.val->F.val<2^l.val->(F.val ^^^ 2^P.val) % 2=0/\F.val ^^^ 2^P.val<2^l.val:=by decide +kernel
theorem ZcW:∀ P l:Fin 5,P.val<l.val->(EW (2^P.val) 1) % 2=0/\EW (2^P.val) 1<2^l.val:=by decide +kernel
end
theorem vY(x:SD):N8 x=Jj x:=by
 rw[qw,eD,fu];generalize bNot (iLt (Am _ _ _) _)=L;simp only[AE,AF,A4,Db,Bo];by_cases h:x.1.1=x.2.1<;>simp[h]
theorem gS(a b:DZ)(h:a.2.length<=1048576):TP (a,b)/\TN (a,b):=by
 obtain⟨m,a⟩:=a;obtain⟨n,b⟩:=b;rw[qj,qn,r8];have h:a.length<=1048576:=h
 have lp:∀ {c:Int->Bool} {f:Int->Int} {p:Int->Prop},(∀ st,c st=true->st<a.length)->(∀ st,f st=iAdd .i64 st 1)->(∀ st:Int,0<=st->st<=a.length->p st)->LoopOk c f p 0:=λ hc hf hp=>
  IV (λ st=>st) a.length (by omega) (λ st _ _ h=>hc st h) hf hp (by simp) (by simp)
 have cc:∀ {st:Int} {t:Bool},bAnd (iLt st (lLen a)) t=true->st<a.length:=λ {st t} h=>by
  rw[AE,Aq,As,Ah,Ap] at h;exact h.1
 have pp:a.length=b.length->∀ st:Int,0<=st->iLt st (lLen a)=true->(((0:Int)<=st/\st<(a.length:Int))/\iNat st<a.length/\((0:Int)<=st/\st<(b.length:Int))/\iNat st<b.length):=λ hl st h0 h1=>by
  rw[Aq,As,Ap] at h1;rw[Az];omega
 refine⟨⟨λ _=>trivial,λ hb=>?_⟩,λ _=>⟨λ _=>trivial,λ hb=>?_⟩,λ _=>trivial⟩
 . simp only[A4,Db,As,B8,CL,Ap] at hb;exact lp (λ st hc=>cc hc) (λ _=>rfl) (λ st h0 h1=>⟨pp (by omega) st h0,λ _=>trivial⟩)
 . simp only[Db,As,CL,Ap] at hb;exact lp (λ st hc=>cc hc) (λ _=>rfl) (λ st h0 h1=>⟨pp (by omega) st h0,λ _=>trivial⟩)
section
set_option maxRecDepth 20000
abbrev Dx:=Int×List Int
theorem vx(a b:Dx)(h:a.2.length<=1048576):Jj (a,b)=decide (a=b):=by
 obtain⟨m,x⟩:=a;obtain⟨n,y⟩:=b;simp only at h;rw[eD,fu];simp only
 rw[Sq (c:=λ x0=>bAnd (iLt x0 (lLen x)) (bNot (iNe (lGet x (iNat x0) 0) (lGet y (iNat x0) 0)))) (f:=λ x0=>iAdd .i64 x0 1) x.length (λ i=>!decide (x.getD i 0=y.getD i 0)) (by omega)
  (λ i hi=>by simp only[AE,AF,Db,Aq,As,A8,Az,Be,G8,Sc]) (λ i hi=>rfl)]
 have hall:=OU (t:=λ i=>!decide (x.getD i 0=y.getD i 0)) (n:=x.length);have hle:=Ju (λ i=>!decide (x.getD i 0=y.getD i 0)) x.length 0;generalize CP (λ i=>!decide (x.getD i 0=y.getD i 0)) x.length 0=q at hall hle;simp only[AE,AF,Db,Bo,Aq,As,Sc];rw[JU];simp only[Ah,BB,Ap,Bl,Al];constructor
 . rintro⟨h1,h2,h3⟩;refine⟨h1,cA (by omega) λ i hi hj=>?_⟩;have:=(hall.1 (by omega)) i hi;rw[CL,Ap,G3 x 0 hi,G3 y 0 hj] at this;exact this
 . rintro⟨rfl,rfl⟩
   have:=hall.2 λ i hi=>by simp
   refine⟨rfl,rfl,by omega⟩
theorem k9 {α S T:Type} {c:S×Int×T->Bool} {f:S×Int×T->S×Int×T} {p:S×Int×T->Prop} (x:List α) (d:α) (g:S×T->α->S×T) (s0:S×T) (hl:x.length<=2097152)
 (hc:∀ (s:S×T) (i:Nat),i<=x.length->c (s.1,(i:Int),s.2)=decide (i<x.length)) (hf:∀ (i:Nat),i<x.length->f (((x.take i).foldl g s0).1,(i:Int),((x.take i).foldl g s0).2)=((g ((x.take i).foldl g s0) (x.getD i d)).1,iAdd .i64 (i:Int) 1,(g ((x.take i).foldl g s0) (x.getD i d)).2))
 (hp:∀ (i:Nat),i<=x.length->p (((x.take i).foldl g s0).1,(i:Int),((x.take i).foldl g s0).2)) :
 LoopOk c f p (s0.1,0,s0.2)/\Am c f (s0.1,0,s0.2)=((x.foldl g s0).1,(x.length:Int),(x.foldl g s0).2):=by
 have:=Jx (c:=c) (f:=f) (p:=p) x.length (λ i=>(((x.take i).foldl g s0).1,(i:Int),((x.take i).foldl g s0).2)) (x0:=(s0.1,0,s0.2)) rfl (λ k hk=>by
  refine⟨hp k (by omega),by rw[hc _ k (by omega)];simpa using hk,?_⟩;rw[hf k hk,Bx (by unfold AO;omega),<- Jw x d hk,List.foldl_append]
  simp) ⟨hp _ (by omega),by rw[hc _ _ (by omega)];simp⟩
 refine⟨this.1,?_⟩
 rw[this.2,HG]
def F9(s:List Dx×Dx)(r:Dx):List Dx×Dx:=(if s.2=r then s.1 else s.1++[r],r)
def Mx(p:Dx)(l:List Dx):List Dx:=(l.foldl F9 ([],p)).1
theorem Zbo(P:Dx->Prop)(p:Dx)(hp:P p)(l:List Dx)(h:∀ r∈l,P r):(l.foldl F9 ([],p)).1.length<=l.length/\(∀ r∈(l.foldl F9 ([],p)).1,P r)/\P (l.foldl F9 ([],p)).2:=by
 have go : ∀ (l:List Dx) (s:List Dx×Dx),(∀ r∈l,P r)->(∀ r∈s.1,P r)->P s.2->(l.foldl F9 s).1.length<=s.1.length+l.length/\(∀ r∈(l.foldl F9 s).1,P r)/\P (l.foldl F9 s).2:=by
  intro l
  induction l with
  |nil=>intro s _ h2 h3;exact⟨by simp,h2,h3⟩
  | cons a l ih=>
    intro s h1 h2 h3;have ha:=h1 a G4
    have:=ih (F9 s a) (λ r hr=>h1 r (List.mem_cons_of_mem _ hr)) (by
     intro r hr
     unfold F9 at hr
     simp only at hr
     split at hr
     . exact h2 r hr
     . rw[CF,List.mem_singleton] at hr
       rcases hr with hr|rfl
       . exact h2 r hr
       . exact ha) ha
    refine⟨?_,this.2⟩;have h4:=this.1
    have h5:(F9 s a).1.length<=s.1.length+1:=by
     unfold F9;simp only;split
     . omega
     . simp
    rw[List.foldl_cons,AG];omega
 have:=go l ([],p) h (by simp) hp;exact⟨by simpa using this.1,this.2⟩
def JW(r:Dx):Prop:=r.2.length<=1048576
theorem jf(p:Dx)(l:List Dx)(hp:JW p)(hl:l.length<=2097152)(h:∀ r∈l,JW r) :
 Qq (p,l)/\Qf (p,l)/\Qr (p,l)=Mx p l/\Qg (p,l)=Mx p l:=by
 have g1:∀ i:Nat,lGet l (iNat (i:Int)) (0,[])=l.getD i (0,[]):=λ i=>by rw[A8,Az,Be]
 have inv:=λ i:Nat=>Zbo JW p hp (l.take i) λ r hr=>h r (KV hr)
 have len:∀ i:Nat,(l.take i).length<=2097152:=λ i=>by rw[Ex];omega
 have cp:∀ r:Dx,Ra r=r:=λ r=>by rw[vm,BD,CV]
 have fs:∀ (s:List Dx×Dx) (r:Dx),JW s.2->bSel (bNot (Jj (s.2,r))) (s.1++[r]) s.1=(F9 s r).1:=λ s r hs=>by
  rw[vx _ _ hs,BA,AF];unfold F9;by_cases e:s.2=r
  . simp[e]
  . simp[e]
 obtain⟨a1,a2⟩:=k9 (c:=TD (p,l)) (f:=TE (p,l)) (p:=Yo (p,l)) l (0,[]) F9 ([],p) hl
  (λ s i hi=>by simp only[TD,Aq,As,G8])
  (λ i hi=>by
   obtain⟨_,_,i3⟩:=inv i;have:=fs _ (l.getD i (0,[])) i3;simp only[TE,g1,vY,cp,BD]
   rw[this];rfl) (λ i hi=>by
   obtain⟨i1,_,i3⟩:=inv i;have li:=len i;simp only[Yo,g1,Aq,As,Ap];refine⟨λ hlt=>?_,λ _=>trivial⟩;have hm:=h _ (DD l i (0,[]) (by omega));have hb:((0:Int)<=(i:Int)/\(i:Int)<(l.length:Int))/\iNat (i:Int)<l.length:=⟨⟨by omega,hlt⟩,by rw[Az];omega⟩;refine⟨⟨hb.1,hb.2,(gS _ _ i3).1,⟨λ _=>⟨hb.1,hb.2,?_,?_⟩,λ _=>trivial⟩⟩,hb⟩
   . rw[uL];unfold Aw JW at *;simp only[AL];omega
   . unfold Aw;simp only[AG,AL];omega)
 obtain⟨b1,b2⟩:=k9 (c:=Tq (p,l)) (f:=Tp (p,l)) (p:=Yl (p,l)) l (0,[]) F9 ([],p) hl
  (λ s i hi=>by simp only[Tq,Aq,As,G8])
  (λ i hi=>by
   obtain⟨_,_,i3⟩:=inv i;have:=fs _ (l.getD i (0,[])) i3;simp only[Tp,g1,BD];rw[this]
   simp only[BA,ite_self];rfl) (λ i hi=>by
   obtain⟨i1,_,i3⟩:=inv i;have li:=len i;simp only[Yl,g1,Aq,As,Ap];refine⟨λ hlt=>?_,λ _=>trivial⟩;refine⟨⟨by omega,hlt⟩,by rw[Az];omega,(gS _ _ i3).2,λ _=>?_,λ _=>trivial⟩
   unfold Aw;simp only[AG,AL];omega)
 rw[qG,pz,qS,pA]
 exact⟨a1,b1,by rw[a2];rfl,by rw[b2];rfl⟩
end
theorem Wp (x):Fw x=B1 x:=by rw[vK,fY]
theorem Wd(x:HI)(h:x.1.2.2.2.2.1.length<=1048576):Q1 x/\Ls x:=by
 rw[vM,uK]
 have:∀ {c:Int->Bool} {f:Int->Int} {p:Int->Prop},(∀ st,c st=true->st<x.1.2.2.2.2.1.length)->(∀ st,f st=iAdd .i64 st 1)->(∀ st:Int,0<=st->st<=x.1.2.2.2.2.1.length->p st)->LoopOk c f p 0:=λ hc hf hp=>
  IV (λ st=>st) x.1.2.2.2.2.1.length (by omega) (λ st _ _ h=>hc st h) hf hp (by simp) (by simp)
 constructor
 all_goals
  refine this (λ st hc=>?_) (λ _=>rfl) (λ st h0 h1=>⟨λ hlt=>?_,λ _=>trivial⟩)
  . rw[AE,Aq,As,Ah,Ap] at hc;exact hc.1
  . rw[Aq,As,Ap] at hlt
    exact⟨⟨h0,hlt⟩,by rw[Az];omega⟩
theorem wq(k:Int)(x:DX)(on key:Int)(hs:Gm (k,x))(h:¬ BU ((k,x),on,key)<0) :
 MapOk k x/\Ec (k,x)=true/\0<=key/\key<k/\0<=BU ((k,x),on,key)/\BU ((k,x),on,key)<x.length:=by
 rw[Um,BA] at h ⊢
 by_cases hb:bOr (bNot (Ec (k,x))) (bOr (iLt key 0) (iGe key k))=true
 . rw[Ac hb] at h;exact absurd (by decide) h
 . rw[Ae hb] at h ⊢
   simp only[Aq,CK,AF,A4,GC,B8,CL,Bl] at hb;obtain⟨hk,h0,h1⟩:=hb;have m:=GU hs hk;refine⟨m,hk,by omega,by omega,by omega,?_⟩;rw[Y3]
   have:=m.l1;have:=m.l2
   have hv:∀ {c:Int->Bool} {f:Int->Int},(∀ st,c st=true->0<st)->(∀ st,f st=iSub .i64 st 1)->bSel (iGt (Am c f (iSub .i64 (lLen x) 1)) 0) (Am c f (iSub .i64 (lLen x) 1)) 0<x.length:=by
    intro c f hc hf
    have:=(MU (c:=c) (f:=f) (λ st:Int=>0<=st/\st<x.length) (λ st=>st.toNat) (λ st hI hcc=>by
     have:=hc st hcc;rw[hf,EH (by unfold AO;omega)]
     omega) (x0:=iSub .i64 (lLen x) 1) (by rw[As,EH (by unfold AO;omega)];omega)).1
    rw[BA];split<;>omega
   exact hv (λ st hc=>by rw[AE,CO,Ah,Ap] at hc;exact hc.1) (λ st=>rfl)
theorem xO(k:Int)(x:DX)(on key:Int)(hs:Gm (k,x)):Uw ((k,x),on,key)=Hp ((k,x),on,key):=by
 rw[rI,eX];simp only[jt k x on key hs]
theorem iO(k:Int)(x:DX)(on key:Int)(hs:Gm (k,x)):T6 ((k,x),on,key)/\Ue ((k,x),on,key):=by
 obtain⟨o1,o2⟩:=jA k x on key hs;rw[su,rT];simp only[jt k x on key hs]
 have fin:iLt (BU ((k,x),on,key)) 0=false->(((0:Int)<=BU ((k,x),on,key)/\BU ((k,x),on,key)<(x.length:Int))/\iNat (BU ((k,x),on,key))<x.length/\((0:Int)<=key/\key<((lGet x (iNat (BU ((k,x),on,key))) []).length:Int))/\iNat key<(lGet x (iNat (BU ((k,x),on,key))) []).length):=by
  intro h;rw[Aq,Bl] at h;obtain⟨m,_,h0,h1,h2,h3⟩:=wq k x on key hs h;have:=m.row (BU ((k,x),on,key)).toNat (by omega);rw[A8,Az,Az];omega
 exact⟨⟨o1,λ _=>trivial,fin⟩,o2,λ _=>trivial,fin⟩
theorem kl{c:Int->Bool}{f:Int->Int}{n:Nat}(hn:n<=1048576)(h1:∀ i:Nat,i<n->c i=true)(h2:c n=false)(h3:∀ i:Int,f i=iAdd .i64 i 1):Am c f 0=(n:Int):=
 (Jx (p:=λ _=>True) n (λ i=>(i:Int)) rfl (λ i hi=>⟨trivial,h1 i hi,by rw[h3,Bx (by unfold AO;omega)];omega⟩) ⟨trivial,h2⟩).2
theorem l7{k:Int}{x:List Hc}(h:MapOk k x):Ec (k,x)=true:=by
 obtain⟨k1,k2,l1,l2,row,act⟩:=h;rw[YT];rw[kl (n:=x.length) (by omega) ?_ ?_ λ _=>rfl]
 . simp only[AE,AF,A4,Aq,CO,As];simp;omega
 . intro i hi
   have e:lGet x (iNat (i:Int)) []=x.getD i []:=by rw[A8,Az,Be]
   have hr:=row i hi;rw[kl (n:=(x.getD i []).length) (by omega) ?_ ?_ λ _=>rfl]
   . simp only[e,AE,AF,Aq,Db,As,hr];simp;omega
   . intro j hj;have hact:=act i j hi hj
     have e2:lGet (x.getD i []) (iNat (j:Int)) (0,0,0,0)=(x.getD i []).getD j (0,0,0,0):=by rw[A8,Az,Be]
     simp only[e,e2,AE,AF,A4,BA,Aq,Bo,Db,CK,As];generalize (x.getD i []).getD j (0,0,0,0)=a at hact ⊢;obtain⟨a1,a2,a3⟩:=hact;rw[a1]
     have hj':(j:Int)<((x.getD i []).length:Int):=by omega
     simp only[hj',decide_true,Nw,GA,Bool.false_or]
     have h10:(!decide (a.1=9)&&decide ((x.length:Int)<=a.2.2.2))=false:=by
      by_cases h9:a.1=9
      . rw[JA h9];rfl
      . have:=a3 h9;rw[DQ (by omega:¬ (x.length:Int)<=a.2.2.2),Bool.and_false]
     by_cases hz:i=0
     . have:=a2 hz;rw[h10,DQ this];simp
     . rw[h10];simp[hz]
   . simp only[e,AE,Aq,As];simp
 . simp only[AE,Aq,As];simp
def ZdZ(n:Int)(i:Int)(a:CH):Prop:=Bt a=true/\(i=0->a.1≠1)/\(a.1≠9->a.2.2.2<n)
def XO(k n:Int)(i:Int)(r:Hc):Prop:=(r.length:Int)=k/\∀ a∈r,ZdZ n i a
def Se(k n:Int)(x:DX):Prop:=∀ i:Nat,i<x.length->XO k n i (x.getD i [])
theorem ZbG{k:Int}{x:List Hc}(k1:1<=k)(k2:k<=32)(l1:1<=x.length)(l2:x.length<=4)(h:Se k x.length x):MapOk k x:=
 ⟨k1,k2,l1,l2,λ i hi=>(h i hi).1,λ i j hi hj=>by
  obtain⟨a,b,c⟩:=(h i hi).2 _ (DD _ j (0,0,0,0) hj)
  exact⟨a,λ e=>b (by omega),c⟩⟩
theorem zn{k n:Int}{x:List Hc}{r:List CH}(h:Se k n x)(hr:XO k n x.length r):Se k n (x++[r]):=by
 intro i hi;simp only[Cv,AG,AL] at hi;by_cases hl:i<x.length
 . rw[Eg,Bv hl,<- Eg];exact h i hl
 . have:i=x.length:=by omega
   subst this;rw[Eg,De (BI _)];simpa using hr
theorem zo(c:CA)(k:Int)(x0:Nz)(h:B3 (c.1,x0.2.2))(k0:0<=k)(k2:k<=32)(hn:1<=iAdd .i64 1 (Ar (c,4)).1/\iAdd .i64 1 (Ar (c,4)).1<=4) :
 LoopOk (Ib (c,k)) (Jk (c,k) x0) (T1 (c,k) x0) ([],0,x0.2.2) /\
 XO k (iAdd .i64 1 (Ar (c,4)).1) x0.1 (Am (Ib (c,k)) (Jk (c,k) x0) ([],0,x0.2.2)).1 /\
 B3 (c.1,(Am (Ib (c,k)) (Jk (c,k) x0) ([],0,x0.2.2)).2.2):=by
 have key:=LR (c:=Ib (c,k)) (f:=Jk (c,k) x0) (p:=T1 (c,k) x0)
  (λ st=>B3 (c.1,st.2.2)/\0<=st.2.1/\st.2.1<=k/\XO st.2.1 (iAdd .i64 1 (Ar (c,4)).1) x0.1 st.1) (λ st=>(k-st.2.1).toNat) (λ st hI=>by
  obtain⟨r,j,cu⟩:=st
  obtain⟨i0,i1,i2,i3,i4⟩:=hI
  simp only at i0 i1 i2 i3 i4
  have s1:iAdd .i64 j 1=j+1:=Bx (by unfold AO;omega)
  unfold T1 Jk Ib
  simp only[s1,BD,Aq,CO,AE,Ap]
  generalize iAdd .i64 1 (Ar (c,4)).1=n at hn i4 ⊢
  obtain⟨d1,d2,d3,d4⟩:=ZcN (c.1,cu) n i0 hn.1 hn.2
  generalize Cl ((c.1,cu),n)=D at d2 d3 d4 ⊢
  obtain⟨o1,o2⟩:=W7 (c.1,D.2) 3 d2
  simp only at o2
  generalize Ct ((c.1,D.2),3)=O at o2 ⊢
  refine⟨⟨λ hc=>⟨d1,⟨λ _=>o1,λ _=>trivial⟩,?_⟩,λ _=>trivial⟩,λ hc=>⟨⟨?_,by omega,by omega,by simp only[Cv,AG,AL];omega,?_⟩,by omega⟩⟩
  . unfold Aw;simp only[AG,AL];omega
  . simp only[BA]
    by_cases hx:0<x0.1
    . simp only[hx,decide_true,AK,Nw,ite_self];exact o2
    . simp only[hx,decide_false,Sy,AJ,AP];exact d2
  . intro a ha
    rw[CF,List.mem_singleton] at ha;rcases ha with ha|rfl
    . exact i4 a ha
    . simp only[BA];split
      . rename_i hb;rw[Ah,Ap] at hb;exact⟨(Dp 1 0 0 0).2 (by omega),λ h=>by omega,λ _=>by simp only;omega⟩
      . exact⟨d3.1,λ _=>d3.2,d4⟩) (x0:=([],0,x0.2.2)) ⟨h,by simp,k0,by simp,by simp⟩
 obtain⟨q1,⟨q2,q3,q4,q5⟩,q6⟩:=key
 refine⟨q1,?_,q2⟩
 generalize Am (Ib (c,k)) (Jk (c,k) x0) ([],0,x0.2.2)=st at *
 unfold Ib at q6
 simp only[Aq,Bl] at q6
 have:st.2.1=k:=by omega
 rw[this] at q5
 exact q5
theorem Zbk(c:CA)(k:Int)(h:B3 c)(k0:1<=k)(k2:k<=32) :
 Ou (c,k)/\B3 (c.1,(Iu (c,k)).2)/\MapOk k (Iu (c,k)).1.2/\(Iu (c,k)).1.1=k:=by
 rw[uZ,uP]
 obtain⟨b1,b2,_,b4⟩:=Fz c 4 h
 have b4:=b4 (by omega)
 have hn:1<=iAdd .i64 1 (Ar (c,4)).1/\iAdd .i64 1 (Ar (c,4)).1<=4:=by rw[Bx (by unfold AO;omega)];omega
 have key:=LR (c:=MG (c,k)) (f:=Oe (c,k)) (p:=YQ (c,k))
  (λ st=>B3 (c.1,st.2.2)/\0<=st.1/\st.1<=iAdd .i64 1 (Ar (c,4)).1/\(st.2.1.length:Int)=st.1/\Se k (iAdd .i64 1 (Ar (c,4)).1) st.2.1) (λ st=>(iAdd .i64 1 (Ar (c,4)).1-st.1).toNat) (λ st hI=>by
  obtain⟨i,x,cu⟩:=st
  obtain⟨i0,i1,i2,i3,i4⟩:=hI
  simp only at i0 i1 i2 i3 i4
  have s1:iAdd .i64 i 1=i+1:=Bx (by unfold AO;omega)
  obtain⟨r1,r2,r3⟩:=zo c k (i,x,cu) i0 (by omega) k2 hn
  unfold YQ Oe MG
  simp only[s1,BD,Aq,Ap] at r1 r2 r3 ⊢
  refine⟨⟨λ hc=>⟨r1,?_⟩,λ _=>trivial⟩,λ hc=>⟨⟨r3,by omega,by omega,by simp only[Cv,AG,AL];omega,zn i4 (by rw[i3];exact r2)⟩,by omega⟩⟩
  unfold Aw;simp only[AG,AL];omega) (x0:=(0,[],(Ar (c,4)).2)) ⟨b2,by simp,by simp only;omega,by simp,λ i hi=>by simp at hi⟩
 obtain⟨q1,⟨q2,q3,q4,q5,q6⟩,q7⟩:=key
 generalize Am (MG (c,k)) (Oe (c,k)) (0,[],(Ar (c,4)).2)=st at *
 unfold MG at q7
 simp only[Aq,Bl] at q7
 have e:st.1=iAdd .i64 1 (Ar (c,4)).1:=by omega
 have l1:1<=st.2.1.length:=by omega
 have l2:st.2.1.length<=4:=by omega
 refine⟨⟨b1,q1⟩,q2,ZbG k0 k2 l1 l2 ?_,rfl⟩
 show Se k (st.2.1.length:Int) st.2.1
 rw[q5,e];exact q6
theorem ko(x:Bd)(k:Int)(h:x.length<=1048576):MI (x,k)/\B3 (Jq (x,k)):=by
 rw[ub,um];obtain⟨n1,n2,n3⟩:=Zdo x h;exact⟨n1,n2⟩
theorem wu(x:Bd)(p n:Int)(h:x.length<=1048576)(hn:0<n):TM (x,p,n)/\0<=EZ (x,p,n)/\EZ (x,p,n)<n:=by
 rw[pS,qA];obtain⟨a1,a2⟩:=ko x p h;obtain⟨b1,b2,_,b4⟩:=Fz _ n a2;exact⟨⟨a1,b1⟩,b4 hn⟩
theorem Zc9{k:Int}{x:List Hc}(h:MapOk k x):Gm (k,x):=by
 have:=h.k2;have:=h.l2;refine⟨⟨by show x.length<=1048576;omega,λ r hr=>?_⟩,trivial⟩;obtain⟨i,hi,rfl⟩:=List.mem_iff_getElem.1 hr;have:=h.row i hi;rw[Eg,Bc hi,HB] at this;exact⟨by omega,λ a _=>by simp[ZR]⟩
theorem zB(T:Int->Bool){c:Int->Bool}{f:Int->Int}{n:Nat}(h1:1<=n)(h2:n<=4)(hc:∀ st,c st=(decide (0<st)&&!T st))(hf:∀ st,f st=iSub .i64 st 1) :
 0<=Am c f ((n:Int)-1)/\Am c f ((n:Int)-1)<n/\(0<Am c f ((n:Int)-1)->T (Am c f ((n:Int)-1))=true)/\∀ p:Int,Am c f ((n:Int)-1)<p->p<n->T p=false:=by
 have key:=MU (c:=c) (f:=f) (λ st:Int=>0<=st/\st<n/\∀ p:Int,st<p->p<n->T p=false) (λ st=>st.toNat) (λ st hI hcc=>by
  obtain⟨i1,i2,i3⟩:=hI;rw[hc,Ah,Ap,BB] at hcc;rw[hf,EH (by unfold AO;omega)];refine⟨⟨by omega,by omega,λ p p1 p2=>?_⟩,by omega⟩;by_cases e:p=st
  . rw[e];exact hcc.2
  . exact i3 p (by omega) p2) (x0:=(n:Int)-1) ⟨by omega,by omega,λ p p1 p2=>by omega⟩
 obtain⟨⟨k1,k2,k3⟩,k4⟩:=key
 refine⟨k1,k2,λ h0=>?_,k3⟩
 rw[hc,JA h0,Nw,CL] at k4
 exact k4
theorem iI{k:Int}{x:List Hc}(hm:MapOk k x)(on key:Int)(h0:0<=key)(h1:key<k) :
 0<=BU ((k,x),on,key)/\BU ((k,x),on,key)<x.length /\
 (0<BU ((k,x),on,key)->iAnd .i64 (iShr .i64 on (BU ((k,x),on,key))) 1=1/\((x.getD (BU ((k,x),on,key)).toNat []).getD key.toNat (0,0,0,0)).1≠1) /\
 ∀ p:Int,BU ((k,x),on,key)<p->p<x.length->¬ (iAnd .i64 (iShr .i64 on p) 1=1/\((x.getD p.toNat []).getD key.toNat (0,0,0,0)).1≠1):=by
 have l1:=hm.l1
 have l2:=hm.l2
 rw[Um,BA,l7 hm]
 have hb:bOr (bNot true) (bOr (iLt key 0) (iGe key k))=false:=by
  rw[A4,A4,AF,Aq,CK,DQ (by omega),DQ (by omega)];rfl
 simp only[hb,AJ,AP]
 rw[Y3]
 simp only
 rw[As,EH (by unfold AO;omega)]
 obtain⟨q1,q2,q3,q4⟩:=zB (n:=x.length) (λ st=>decide (iAnd .i64 (iShr .i64 on st) 1=1)&&!decide (((x.getD st.toNat []).getD key.toNat (0,0,0,0)).1=1)) (c:=fun(x0:Int)=>(bAnd (iGt x0 0) (bNot (bAnd (iEq (Es (on,x0)) 1) (iNe (lGet (lGet x (iNat x0) []) (iNat key) (0,0,0,0)).1 1))))) (f:=fun(x0:Int)=>(iSub .i64 x0 1)) l1 l2
  (λ st=>by simp only[AE,AF,CO,Bo,Db,VQ,A8,Az]) (λ st=>rfl)
 generalize Am _ _ ((x.length:Int)-1)=st at *
 have e:bSel (iGt st 0) st 0=st:=by rw[BA,CO];split<;>simp_all<;>omega
 rw[e]
 simp only[Ah,BB,Ap,Bl,F7,CL] at q3 q4
 refine⟨q1,q2,q3,λ p p1 p2 h=>?_⟩
 rcases q4 p p1 p2 with h4|h4
 . exact h4 h.1
 . exact h.2 h4
theorem mW{a b:List Int}(ha:a.Pairwise (· < ·))(hb:b.Pairwise (· < ·))(h:∀ x,x∈a↔x∈b):a=b:=by
 induction a generalizing b with
 | nil=>
   cases b with
   |nil=>rfl
   |cons y b=>exact absurd ((h y).2 G4) List.not_mem_nil
 | cons x a ih=>
   cases b with
   |nil=>exact absurd ((h x).1 G4) List.not_mem_nil
   | cons y b=>
     obtain⟨a1,a2⟩:=List.pairwise_cons.1 ha;obtain⟨b1,b2⟩:=List.pairwise_cons.1 hb
     have e:x=y:=by
      rcases Cz.1 ((h x).1 G4) with e|e
      . exact e
      . rcases Cz.1 ((h y).2 G4) with g|g
        . exact g.symm
        . have:=a1 _ g;have:=b1 _ e;omega
     subst e;congr 1
     refine ih a2 b2 λ z=>⟨λ hz=>?_,λ hz=>?_⟩
     . rcases Cz.1 ((h z).1 (List.mem_cons_of_mem _ hz)) with e|e
       . subst e;have:=a1 _ hz;omega
       . exact e
     . rcases Cz.1 ((h z).2 (List.mem_cons_of_mem _ hz)) with e|e
       . subst e;have:=b1 _ hz;omega
       . exact e
theorem mI {α:Type} {c:Int->Bool} {f:Int->Int} {p:Int->Prop} (x:List α) (d:α) (q:α->Bool) (hl:x.length<=1048576)
 (hc:∀ i:Nat,i<=x.length->c (i:Int)=(decide (i<x.length)&&!q (x.getD i d))) (hf:∀ i:Nat,i<x.length->f (i:Int)=iAdd .i64 (i:Int) 1) (hp:∀ i:Nat,i<=x.length->p (i:Int)) :
 LoopOk c f p 0/\iLt (Am c f 0) (lLen x)=x.any q:=by
 obtain⟨h1,k,hk,h2,h3⟩:=ZbY (c:=c) (f:=f) (p:=p) (x0:=0) x.length (λ i=>(i:Int)) (λ i=>!q (x.getD i d)) rfl (λ i hi _=>hc i hi) (λ i hi _=>by rw[hf i hi,Bx (by unfold AO;omega)];simp) (λ i hi _=>hp i hi)
 refine⟨h1,?_⟩
 rw[h2,Aq,As,JU,Ap,List.any_eq_true]
 constructor
 . intro h
   have h4:¬ ∀ i,i<x.length->(!q (x.getD i d))=true:=λ hh=>by have:=h3.2 hh;omega
   simp only[Classical.not_forall,BB,I7] at h4;obtain⟨i,hi,g⟩:=h4;exact⟨_,DD x i d hi,g⟩
 . rintro⟨a,ha,g⟩
   obtain⟨i,hi,rfl⟩:=IP ha
   have h5:k≠x.length:=λ e=>by
    have:=h3.1 e i hi;rw[G3 x d hi,g] at this;exact absurd this (by decide)
   omega
theorem zL(l:Bd)(v:Int)(hl:l.length<=1048576):UM (l,v)/\OK (l,v)=decide (v∈l):=by
 rw[vp,uG]
 obtain⟨h1,h2⟩:=mI (c:=TV (l,v)) (f:=YN) (p:=YM (l,v)) l 0 (λ a=>decide (a=v)) hl
  (λ i hi=>by simp only[TV,AE,Aq,As,AF,Bo,A8,Az,Be,G8])
  (λ i hi=>rfl) (λ i hi=>by
   simp only[YM,Aq,As,Az,Be,Ap]
   exact⟨λ h=>⟨⟨by omega,by omega⟩,by omega⟩,λ _=>trivial⟩)
 refine⟨h1,?_⟩;rw[h2,JU,List.any_eq_true,Ap];constructor
 . rintro⟨a,ha,g⟩;rw[Ap] at g;exact g▸ha
 . intro h;exact⟨v,h,by simp⟩
def Zb1(C l:Bd):Prop:=l.Pairwise (· < ·)/\∀ z,z∈l↔(z∈C/\z≠0)
theorem Zbd{α:Type}(x:List α)(d:α){i:Nat}(h:i<x.length)(z:α):z∈x.take (i+1)↔z∈x.take i\/z=x.getD i d:=by
 rw[<- Jw x d h,CF,List.mem_singleton]
theorem ZbX{α:Type}(x:List α){i:Nat}{z:α}(h:z∈x.take i):∃ j,∃ (hj:j<x.length),j<i/\z=x[j]:=by
 obtain⟨j,hj,rfl⟩:=IP h;rw[Ex] at hj;exact⟨j,by omega,by omega,List.getElem_take ..⟩
theorem jn(C:Bd)(hl:C.length<=1048576):QU C/\Zb1 C (Lx C)/\(Lx C).length<=C.length:=by
 rw[tK,tj];simp only[eW,Ug,DMk.ok]
 have hs:(D1 C 0).1=Dr C:=by rw[ig]
 have hsl:=ah C
 have hso:(Dr C).Pairwise (λ a b=>a<=b):=by
  have:=List.pairwise_mergeSort (le:=λ x y:Int=>decide (x<=y)) (by simp;intros;omega) (by simp;intros;omega) C;exact this.imp (by simp)
 have hmem:∀ z,z∈Dr C↔z∈C:=λ z=>(List.mergeSort_perm C _).mem_iff
 generalize Dr C=S at hs hsl hso hmem
 have key := Pt (c:=Qp C) (f:=TS C) (p:=Yx C) (x0:=([],0))
  (λ st=>∃ i:Nat,st.2=(i:Int)/\i<=S.length/\st.1.length<=i/\st.1.Pairwise (· < ·)/\∀ z,z∈st.1↔(z∈S.take i/\z≠0)) (λ st=>S.length-st.2.toNat) (by
  rintro⟨l,n⟩ ⟨i,h1,hi,hli,hp,hm⟩
  simp only at h1 hli hp hm
  subst h1
  simp only[Qp,TS,Yx,Ug,hs,Aq,As,A8,Az,Be,Ap]
  generalize hv:S.getD i 0=v
  obtain⟨g1,g2⟩:=zL l v (by omega)
  have r1:Aw ((l.length+[v].length)*1):=by unfold Aw;simp only[AG,AL];omega
  refine⟨⟨λ h=>⟨⟨by omega,by omega⟩,by omega,⟨λ _=>g1,λ _=>trivial⟩,⟨λ _=>r1,λ _=>trivial⟩⟩,λ _=>trivial⟩,λ h=>?_⟩
  have hi':i<S.length:=by omega
  refine⟨⟨i+1,by rw[Bx (by unfold AO;omega)];simp,by omega,?_,?_,?_⟩,by rw[Bx (by unfold AO;omega)];omega⟩
  . rw[BA,BD];split
    . simp only[Cv,AG,AL];omega
    . omega
  . rw[BA,BD];split
    . next hb=>
      rw[AE,AF,g2,Ah,Db] at hb;obtain⟨b1,b2⟩:=hb;simp only[BB,Bl] at b2;refine List.pairwise_append.2 ⟨hp,List.pairwise_singleton _ _,λ a ha b hb=>?_⟩;rw[List.mem_singleton] at hb;subst hb;obtain⟨j,hj,hji,e⟩:=ZbX S ((hm a).1 ha).1;have hle:=List.pairwise_iff_getElem.1 hso j i hj hi' hji;rw[<- G3 S 0 hi',hv] at hle
      have:a≠b:=λ e=>b2 (e▸ha)
      omega
    . exact hp
  . intro z
    rw[Zbd S 0 hi',hv,BA,BD];split
    . next hb=>
      rw[AE,AF,g2,Ah,Db] at hb;obtain⟨b1,b2⟩:=hb
      have b1:v≠0:=by simpa using b1
      rw[CF,List.mem_singleton,hm];constructor
      . rintro(⟨h3,h4⟩|e)
        . exact⟨.inl h3,h4⟩
        . exact⟨.inr e,e▸b1⟩
      . rintro⟨h3|e,h4⟩
        . exact .inl ⟨h3,h4⟩
        . exact .inr e
    . next hb=>
      rw[AE,AF,g2,Ah,Db] at hb;rw[hm];constructor
      . rintro⟨h3,h4⟩;exact⟨.inl h3,h4⟩
      . rintro⟨h3|e,h4⟩
        . exact⟨h3,h4⟩
        . subst e
          have hz:z∈l:=by
           refine Classical.byContradiction λ hn=>hb ⟨by simpa using h4,by simpa using hn⟩
          exact(hm z).1 hz) ⟨0,rfl,Gy _,BI _,List.Pairwise.nil,by simp⟩
 obtain⟨k1,⟨i,k2,k3,k4,k5,k6⟩,k7⟩:=key;simp only[Qp,Ug,hs,k2,Aq,As,Bl] at k7
 have:i=S.length:=by omega
 subst this;rw[HG] at k6;refine⟨⟨by unfold Aw;omega,⟨trivial,by rw[hJ];show C.length<4611686018427387904;omega⟩,k1⟩,⟨k5,λ z=>by rw[k6,hmem]⟩,by omega⟩
theorem Zj{a:Int×Int×Int×Int}(h:Bt a=true):0<=a.2.1/\a.2.1<=56:=by
 rw[Qs] at h;simp only[BA,A4,AE,Bo,Db,U1,CK,Ew] at h
 repeat' split at h
 all_goals simp only[Ah,Cn,BB,CL,F7,B8,Ap,Bl,GC,I7,AZ,JE] at *
 all_goals omega
def Cy(x:BQ):List Int:=x.map λ a=>a.2.2.1
theorem jy(x:BQ){i:Nat}(h:i<x.length):(Cy x).getD i 0=(x.getD i (0,0,0,0,0)).2.2.1:=by
 rw[G3 x _ h,G3 (Cy x) 0 (by simpa [Cy] using h)];simp[Cy]
theorem lO(x:BQ)(hl:x.length<=1048576) :
 LoopOk J8 (Lk x) (Yu x) (1,[])/\(Am J8 (Lk x) (1,[])).2.Pairwise (· < ·)/\∀ z,z∈(Am J8 (Lk x) (1,[])).2↔(z∈Cy x/\1<=z/\z<=56):=by
 have inner:∀ (c:Int) (l:Bd),l.length<=60->LoopOk (N3 x (c,l)) Qi (TK x (c,l)) 0/\iLt (Am (N3 x (c,l)) Qi 0) (lLen x)=decide (c∈Cy x):=by
  intro c l hll
  obtain⟨h1,h2⟩:=mI (c:=N3 x (c,l)) (f:=Qi) (p:=TK x (c,l)) x (0,0,0,0,0) (λ a=>decide (a.2.2.1=c)) hl
   (λ i hi=>by simp only[N3,AE,Aq,As,AF,Bo,A8,Az,Be,G8])
   (λ i hi=>rfl) (λ i hi=>by
    have r1:Aw ((l.length+[c].length)*1):=by unfold Aw;simp only[AG,AL];omega
    simp only[TK,Aq,As,Az,Be,Ap]
    exact⟨λ h=>⟨⟨by omega,by omega⟩,by omega,λ _=>r1,λ _=>trivial⟩,λ _=>trivial⟩)
  refine⟨h1,?_⟩;rw[h2,JU,List.any_eq_true,Ap,Cy,List.mem_map];simp only[Ap]
 have key:=Pt (c:=J8) (f:=Lk x) (p:=Yu x) (x0:=(1,[]))
  (λ st=>1<=st.1/\st.1<=57/\(st.2.length:Int)<st.1/\st.2.Pairwise (· < ·)/\∀ z,z∈st.2↔(z∈Cy x/\1<=z/\z<st.1)) (λ st=>57-st.1.toNat) (by
  rintro⟨c,l⟩ ⟨h1,h2,h3,h4,h5⟩
  simp only at h1 h2 h3 h4 h5
  obtain⟨i1,i2⟩:=inner c l (by omega)
  refine⟨⟨λ _=>i1,λ _=>trivial⟩,λ h=>?_⟩
  simp only[J8,Ew,Ap] at h
  have s1:iAdd .i64 c 1=c+1:=Bx (by unfold AO;omega)
  simp only[Lk,s1,i2,BA,BD,Ap]
  refine⟨⟨by omega,by omega,?_,?_,λ z=>?_⟩,by omega⟩
  . split
    . simp only[Cv,AG,AL];omega
    . omega
  . split
    . refine List.pairwise_append.2 ⟨h4,List.pairwise_singleton _ _,λ a ha b hb=>?_⟩;rw[List.mem_singleton] at hb;have:=((h5 a).1 ha).2.2;omega
    . exact h4
  . split
    . next hb=>
      rw[CF,List.mem_singleton,h5];constructor
      . rintro(⟨a1,a2,a3⟩|e)
        . exact⟨a1,a2,by omega⟩
        . subst e;exact⟨hb,by omega,by omega⟩
      . rintro⟨a1,a2,a3⟩;by_cases e:z=c
        . exact .inr e
        . exact .inl ⟨a1,a2,by omega⟩
    . next hb=>
      rw[h5];constructor
      . rintro⟨a1,a2,a3⟩;exact⟨a1,a2,by omega⟩
      . rintro⟨a1,a2,a3⟩
        have:z≠c:=λ e=>hb (e▸a1)
        exact⟨a1,a2,by omega⟩) ⟨by simp,by simp,by simp,List.Pairwise.nil,by simp⟩
 obtain⟨k1,⟨k2,k3,k4,k5,k6⟩,k7⟩:=key
 simp only[J8,Ew,Bl] at k7
 refine⟨k1,k5,λ z=>?_⟩
 rw[k6]
 constructor
 . rintro⟨a,b,c⟩;exact⟨a,b,by omega⟩
 . rintro⟨a,b,c⟩;exact⟨a,b,by omega⟩
theorem Zck(x:BQ)(hl:x.length<=1048576) :
 LoopOk (MA x) (N1 x) (TL x) (0,0)/\LoopOk (J7 x) (Ka x) (TQ x) ([],0,0) /\
 (Am (J7 x) (Ka x) ([],0,0)).2.2=(Am (MA x) (N1 x) (0,0)).2/\(Am (J7 x) (Ka x) ([],0,0)).1=Cy x:=by
 obtain⟨a1,a2,⟨i,h1,h2,h3⟩,a4⟩:=aq (c:=MA x) (f:=N1 x) (p:=TL x) (d:=J7 x) (g:=Ka x) (q:=TQ x) (x0:=(0,0)) (y0:=([],0,0))
  (λ s t=>∃ i:Nat,i<=x.length/\s.1=(i:Int)/\t=((Cy x).take i,s.1,s.2)) (λ s=>x.length-s.1.toNat) (by
   rintro⟨n,m⟩ t ⟨i,hi,h1,rfl⟩
   simp only at h1
   subst h1
   have hcl:(Cy x).length=x.length:=by simp[Cy]
   have hlen:((Cy x).take i).length=i:=by rw[Ex];omega
   have s1:iAdd .i64 (i:Int) 1=(i:Int)+1:=Bx (by unfold AO;omega)
   simp only[MA,N1,TL,J7,Ka,TQ,Aq,As,Az,Be,Ap,s1,hlen,AG,AL,BD,A8]
   refine⟨⟨λ h=>⟨⟨⟨by omega,by omega⟩,by omega,λ _=>trivial,λ _=>⟨⟨by omega,by omega⟩,by omega⟩⟩,λ _=>⟨⟨by omega,by omega⟩,by omega⟩,λ _=>trivial⟩,λ _=>trivial⟩,⟨λ h=>⟨⟨by omega,by omega⟩,by omega,by unfold Aw;omega⟩,λ _=>trivial⟩,trivial,λ h=>⟨⟨i+1,by omega,by omega,?_⟩,by omega⟩⟩
   have hi':i<x.length:=by omega
   rw[<- Jw (Cy x) 0 (by omega),jy x hi']) ⟨0,by omega,rfl,rfl⟩
 refine⟨a1,a2,by rw[h3],?_⟩
 rw[h3]
 simp only[MA,h2,Aq,As,Bl] at a4
 rw[PO]
 simp only[Cy,A9];omega
theorem MQ(x:BQ)(hl:x.length<=1048576):Lq x/\Lp x/\BR x=BS x/\(BR x).2.length<=1048576:=by
 rw[sq,sy,e6,sG,O7];have o1:=T8 x hl;have o2:=Uc x hl;by_cases h:Cs x=true
 . obtain⟨m1,m2,m3,m4⟩:=Zck x hl;obtain⟨s1,s2,s3⟩:=lO x hl
   have hcl:(Cy x).length=x.length:=by simp[Cy]
   obtain⟨c1,⟨c2,c3⟩,c4⟩:=jn (Cy x) (by omega);have hh:=Rr hl h
   have e:Lx (Cy x)=(Am J8 (Lk x) (1,[])).2:=mW c2 s2 λ z=>by
    rw[c3,s3];constructor
    . rintro⟨a,b⟩;refine⟨a,?_⟩;obtain⟨k,hk,rfl⟩:=List.mem_map.1 a;have:=Zj (hh k hk).2.2.1;omega
    . rintro⟨a,b,c⟩;exact⟨a,by omega⟩
   rw[m3,m4,<- e];refine⟨⟨o1,λ _=>trivial,λ _=>⟨m1,s1⟩⟩,⟨o2,λ _=>trivial,λ _=>⟨m2,c1⟩⟩,rfl,?_⟩;rw[BA];split
   . simp
   . simp only;omega
 . have hb:bNot (Cs x)=true:=by rw[AF];simpa using h
   rw[hb];simp[Dn,o1,o2]
theorem j7 {α S:Type} {c:S×Int->Bool} {f:S×Int->S×Int} {p:S×Int->Prop} (x:List α) (d:α) (g:S->α->S) (s0:S) (hl:x.length<=1048576)
 (hc:∀ (s:S) (i:Nat),i<=x.length->c (s,(i:Int))=decide (i<x.length)) (hf:∀ (s:S) (i:Nat),i<x.length->f (s,(i:Int))=(g s (x.getD i d),iAdd .i64 (i:Int) 1)) (hp:∀ (s:S) (i:Nat),i<=x.length->p (s,(i:Int))) :
 LoopOk c f p (s0,0)/\Am c f (s0,0)=(x.foldl g s0,(x.length:Int)):=by
 have:=Jx (c:=c) (f:=f) (p:=p) x.length (λ i=>((x.take i).foldl g s0,(i:Int))) (x0:=(s0,0)) rfl (λ k hk=>by
  refine⟨hp _ k (by omega),by rw[hc _ k (by omega)];simpa using hk,?_⟩;rw[hf _ k hk,Bx (by unfold AO;omega),<- Jw x d hk,List.foldl_append]
  simp) ⟨hp _ _ (by omega),by rw[hc _ _ (by omega)];simp⟩
 refine⟨this.1,?_⟩
 rw[this.2,HG]
theorem yE {α S:Type} {c:Int×S->Bool} {f:Int×S->Int×S} {p:Int×S->Prop} (x:List α) (d:α) (g:S->α->S) (s0:S) (hl:x.length<=1048576)
 (hc:∀ (s:S) (i:Nat),i<=x.length->c ((i:Int),s)=decide (i<x.length)) (hf:∀ (s:S) (i:Nat),i<x.length->f ((i:Int),s)=(iAdd .i64 (i:Int) 1,g s (x.getD i d))) (hp:∀ (s:S) (i:Nat),i<=x.length->p ((i:Int),s)) :
 LoopOk c f p (0,s0)/\Am c f (0,s0)=((x.length:Int),x.foldl g s0):=by
 have:=Jx (c:=c) (f:=f) (p:=p) x.length (λ i=>((i:Int),(x.take i).foldl g s0)) (x0:=(0,s0)) rfl (λ k hk=>by
  refine⟨hp _ k (by omega),by rw[hc _ k (by omega)];simpa using hk,?_⟩;rw[hf _ k hk,Bx (by unfold AO;omega),<- Jw x d hk,List.foldl_append]
  simp) ⟨hp _ _ (by omega),by rw[hc _ _ (by omega)];simp⟩
 refine⟨this.1,?_⟩
 rw[this.2,HG]
theorem lk(c:Int)(x:Bd)(s:Bool):x.foldl (λ s a=>bOr s (iEq a c)) s=(s||decide (c∈x)):=by
 induction x generalizing s with
 |nil=>simp
 | cons a x ih=>
   rw[List.foldl_cons,ih,A4,Bo,Bool.or_assoc];congr 1;rw[JU];simp only[Cn,Ap,Cz];constructor
   . rintro(h|h)
     . exact .inl h.symm
     . exact .inr h
   . rintro(h|h)
     . exact .inl h.symm
     . exact .inr h
theorem bq:∀ (l:Bd) (lo hi:Int),l.Pairwise (· < ·)->(∀ z∈l,lo<=z/\z<=hi)->lo<=hi+1->(l.length:Int)<=hi-lo+1
 |[],lo,hi,_,_,h=>by simp;omega
 | a::l,lo,hi,hp,hm,h=>by
   rw[List.pairwise_cons] at hp
   have ha:=hm a (by simp)
   have:=bq l (a+1) hi hp.2 (λ z hz=>⟨by have:=hp.1 z hz;omega,(hm z (by simp[hz])).2⟩) (by omega)
   rw[AG]
   omega
section
set_option maxRecDepth 20000
theorem kt(l:BQ)(hl:l.length<=1048576)(hh:Cs l=true):(BR l).2.Pairwise (· < ·)/\∀ z∈(BR l).2,1<=z/\z<=56:=by
 obtain⟨_,_,r3,_⟩:=MQ l hl;obtain⟨_,s2,s3⟩:=lO l hl;rw[r3,e6,O7,hh]
 have hb:bNot true=false:=by rw[AF];rfl
 rw[hb,CQ];exact⟨s2,λ z hz=>((s3 z).1 hz).2⟩
def Yj(m:Int)(a:Ff):Int:=iOr .i64 m a.2.2.2.1
theorem yV(l dn:BQ)(hl:l.length<=1048576)(hh:Cs l=true)(hd:dn.length<=1000)(hc:∀ a∈dn,0<=a.2.2.1/\a.2.2.1<=56) :
 Oi (l,dn)/\N6 (BR l,dn.map Bh)/\Kj (BR l,dn.map Bh)=Ft (l,dn)/\(Ft (l,dn)).2.Pairwise (· < ·)/\(∀ z,z∈(Ft (l,dn)).2↔(z∈(BR l).2\/z∈Cy dn/\z≠0))/\(Ft (l,dn)).1=dn.foldl Yj (BR l).1:=by
 obtain⟨o1,_,r3,_⟩:=MQ l hl
 obtain⟨b1,b2⟩:=kt l hl hh
 have b3:=bq _ 1 56 b1 b2 (by omega)
 have hcd:(Cy dn).length=dn.length:=by simp[Cy]
 obtain⟨m1,m2⟩:=yE (c:=TH (l,dn)) (f:=TG (l,dn)) (p:=Yp (l,dn)) dn (0,0,0,0,0) Yj (BS l).1 (by omega)
  (λ s i hi=>by simp only[TH,Aq,As,G8])
  (λ s i hi=>by simp only[TG,Yj,A8,Az,Be])
  (λ s i hi=>by
   simp only[Yp,Aq,As,Az,Be,Ap]
   exact⟨λ h=>⟨⟨by omega,by omega⟩,by omega⟩,λ _=>trivial⟩)
 have in4:∀ (st:Ei),LoopOk (Ji (l,dn)) (Jh (l,dn) st) (TJ (l,dn)) (false,0)/\(Am (Ji (l,dn)) (Jh (l,dn) st) (false,0)).1=decide (st.2∈(BR l).2):=by
  intro st;rw[r3] at b3
  obtain⟨k1,k2⟩:=j7 (c:=Ji (l,dn)) (f:=Jh (l,dn) st) (p:=TJ (l,dn)) (BS l).2 0 (λ s a=>bOr s (iEq a st.2)) false (by omega)
   (λ s i hi=>by simp only[Ji,Aq,As,G8])
   (λ s i hi=>by simp only[Jh,A8,Az,Be])
   (λ s i hi=>by
    simp only[TJ,Aq,As,Az,Be,Ap]
    exact⟨λ h=>⟨λ _=>trivial,λ _=>⟨⟨by omega,by omega⟩,by omega⟩⟩,λ _=>trivial⟩)
  refine⟨k1,?_⟩;rw[k2,lk,r3,Bool.false_or]
 have in3:∀ (st:Ei) (b:Bool),LoopOk (Li (l,dn)) (Lh (l,dn) st) (TO (l,dn)) (b,0)/\(Am (Li (l,dn)) (Lh (l,dn) st) (b,0)).1=(b||decide (st.2∈Cy dn)):=by
  intro st b
  obtain⟨k1,k2⟩:=j7 (c:=Li (l,dn)) (f:=Lh (l,dn) st) (p:=TO (l,dn)) dn (0,0,0,0,0) (λ s a=>bOr s (iEq a.2.2.1 st.2)) b (by omega)
   (λ s i hi=>by simp only[Li,Aq,As,G8])
   (λ s i hi=>by simp only[Lh,A8,Az,Be])
   (λ s i hi=>by
    simp only[TO,Aq,As,Az,Be,Ap]
    exact⟨λ h=>⟨λ _=>trivial,λ _=>⟨⟨by omega,by omega⟩,by omega⟩⟩,λ _=>trivial⟩)
  refine⟨k1,?_⟩;rw[k2];have:=lk st.2 (Cy dn) b;rw[Cy,List.foldl_map] at this;exact this
 have key:=Pt (c:=N2) (f:=Qk (l,dn)) (p:=eA (l,dn)) (x0:=([],1))
  (λ st=>1<=st.2/\st.2<=57/\(st.1.length:Int)<st.2/\st.1.Pairwise (· < ·)/\∀ z,z∈st.1↔((z∈(BR l).2\/z∈Cy dn)/\1<=z/\z<st.2)) (λ st=>57-st.2.toNat) (by
  rintro⟨ks,c⟩ ⟨h1,h2,h3,h4,h5⟩
  simp only at h1 h2 h3 h4 h5
  obtain⟨i1,i2⟩:=in4 (ks,c)
  obtain⟨j1,j2⟩:=in3 (ks,c) (Am (Ji (l,dn)) (Jh (l,dn) (ks,c)) (false,0)).1
  rw[i2] at j2
  have r1:Aw ((ks.length+[c].length)*1):=by unfold Aw;simp only[AG,AL];omega
  refine⟨⟨λ _=>⟨i1,j1,λ _=>r1,λ _=>trivial⟩,λ _=>trivial⟩,λ h=>?_⟩
  simp only[N2,Ew,Ap] at h
  have s1:iAdd .i64 c 1=c+1:=Bx (by unfold AO;omega)
  simp only[Qk,s1,i2,j2,BA,BD,Cn,Ap]
  refine⟨⟨by omega,by omega,?_,?_,λ z=>?_⟩,by omega⟩
  . split
    . simp only[Cv,AG,AL];omega
    . omega
  . split
    . refine List.pairwise_append.2 ⟨h4,List.pairwise_singleton _ _,λ a ha b hb=>?_⟩;rw[List.mem_singleton] at hb;have:=((h5 a).1 ha).2.2;omega
    . exact h4
  . split
    . next hb=>
      rw[CF,List.mem_singleton,h5];constructor
      . rintro(⟨a1,a2,a3⟩|e)
        . exact⟨a1,a2,by omega⟩
        . subst e;exact⟨hb,by omega,by omega⟩
      . rintro⟨a1,a2,a3⟩;by_cases e:z=c
        . exact .inr e
        . exact .inl ⟨a1,a2,by omega⟩
    . next hb=>
      rw[h5];constructor
      . rintro⟨a1,a2,a3⟩;exact⟨a1,a2,by omega⟩
      . rintro⟨a1,a2,a3⟩
        have:z≠c:=λ e=>hb (e▸a1)
        exact⟨a1,a2,by omega⟩) ⟨by simp,by simp,by simp,List.Pairwise.nil,by simp⟩
 obtain⟨k1,⟨k2,k3,k4,k5,k6⟩,k7⟩:=key
 simp only[N2,Ew,Bl] at k7
 generalize hK:Am N2 (Qk (l,dn)) ([],1)=K at k2 k3 k4 k5 k6 k7
 have kmem:∀ z,z∈K.1↔(z∈(BR l).2\/z∈Cy dn/\z≠0):=by
  intro z;rw[k6];constructor
  . rintro⟨a|a,b,c⟩
    . exact .inl a
    . exact .inr ⟨a,by omega⟩
  . rintro(a|⟨a,b⟩)
    . have:=b2 z a;exact⟨.inl a,by omega,by omega⟩
    . obtain⟨q,hq,rfl⟩:=List.mem_map.1 a;have:=hc q hq;exact⟨.inr a,by omega,by omega⟩
 have hp5:(dn.map Bh).length=dn.length:=A9 ..
 have cp:C7 (BR l).2=(BR l).2:=by rw[Ug];try rfl
 have okc:QE (BR l).2:=by rw[eW];unfold Aw;omega
 have W:=Jx (c:=My (BR l,dn.map Bh)) (f:=N0 (BR l,dn.map Bh)) (p:=TC (BR l,dn.map Bh)) dn.length
  (λ i=>((BR l).2++(Cy dn).take i,(i:Int),(dn.take i).foldl Yj (BR l).1)) (x0:=((BR l).2,0,(BR l).1)) (by simp) (λ i hi=>by
   have g1:(lGet (dn.map Bh) (iNat (i:Int)) (0,0))=Bh (dn.getD i (0,0,0,0,0)):=by rw[A8,Az,Be,ky]
   refine⟨?_,?_,?_⟩
   . simp only[TC,Aq,As,hp5,Az,Be,Ap,Cv,Ex,AG,AL];exact⟨λ _=>⟨⟨by omega,by omega⟩,by omega,by unfold Aw;omega⟩,λ _=>trivial⟩
   . simp only[My,Aq,As,hp5,Ap];omega
   . simp only[N0,g1,BD,Cm];rw[Bx (by unfold AO;omega),<- Jw (Cy dn) 0 (by omega),jy dn hi,<- Jw dn (0,0,0,0,0) hi,List.foldl_append]
     rfl) (by
   refine⟨?_,?_⟩
   . simp only[TC,Aq,As,hp5,Ap];exact⟨λ h=>absurd h (by omega),λ _=>trivial⟩
   . simp only[My,Aq,As,hp5];simp)
 have tk:(Cy dn).take dn.length=Cy dn:=by rw[<- hcd];exact HG ..
 obtain⟨w1,w2⟩:=W
 simp only[tk,HG] at w2
 obtain⟨c1,⟨c2,c3⟩,c4⟩:=jn ((BR l).2++Cy dn) (by rw[Cv];omega)
 have e:Lx ((BR l).2++Cy dn)=K.1:=mW c2 k5 λ z=>by
  rw[c3,kmem,CF];constructor
  . rintro⟨a|a,b⟩
    . exact .inl a
    . exact .inr ⟨a,b⟩
  . rintro(a|⟨a,b⟩)
    . have:=b2 z a;exact⟨.inl a,by omega⟩
    . exact⟨.inr a,b⟩
 rw[sv,qL,sH,qO]
 simp only[cp,w2,m2,hK]
 refine⟨⟨o1,m1,k1⟩,⟨okc,w1,c1⟩,?_,k5,kmem,by rw[r3]⟩
 rw[e,r3]
end
section
set_option maxRecDepth 20000
def mA(s:CS):Int×Int×Int×Int×Int:=(0,2,s.2.1,s.2.2,0)
def Ey(dn:BQ)(s:CS):BQ:=if s.1=1 then dn++[mA s] else if s.1=2 then Dl (dn,B5 (dn,s)) else dn
def Le(dn:BQ)(s:CS):Prop:=0<=s.1/\s.1<=2/\Bt (2,s.2.1,s.2.2,0)=true/\(s.1=2↔0<=B5 (dn,s))
def BP(x:CX)(i:Nat):BQ:=(x.take i).foldl Ey []
theorem Ph(x:CX){i:Nat}(h:i<x.length):BP x (i+1)=Ey (BP x i) (x.getD i (0,0,0)):=by
 unfold BP;rw[<- Jw x (0,0,0) h,List.foldl_append];rfl
theorem ZbT {c:BQ×Int->Bool} {f:BQ×Int->BQ×Int} (x:CX) (h1:¬ (Am c f ([],0)).2<lLen x) (hc:∀ (dn:BQ) (i:Nat),c (dn,(i:Int))=true->i<x.length/\Le dn (x.getD i (0,0,0)))
 (hf:∀ (dn:BQ) (i:Nat),i<x.length->f (dn,(i:Int))=(Ey dn (x.getD i (0,0,0)),(i:Int)+1)):(Am c f ([],0)).1=BP x x.length/\∀ i,i<x.length->Le (BP x i) (x.getD i (0,0,0)):=by
 have key:=MU (c:=c) (f:=f) (λ st=>∃ i:Nat,st=(BP x i,(i:Int))/\i<=x.length/\∀ j,j<i->Le (BP x j) (x.getD j (0,0,0))) (λ st=>x.length-st.2.toNat) (λ st hI hcc=>by
  obtain⟨i,rfl,hi,hj⟩:=hI;obtain⟨g1,g2⟩:=hc _ i hcc;rw[hf _ i g1];refine⟨⟨i+1,by rw[Ph x g1];simp,by omega,λ j hj'=>?_⟩,by simp only;omega⟩;rcases BJ j i with h|h
  . exact hj j h
  . have:j=i:=by omega
    subst this;exact g2) (x0:=([],0)) ⟨0,rfl,Gy _,λ j hj=>by omega⟩
 obtain⟨⟨i,e,hi,hj⟩,_⟩:=key
 rw[e,As] at h1
 rw[e]
 simp only at h1
 have:i=x.length:=by omega
 subst this
 exact⟨rfl,hj⟩
theorem xR(x:CX)(h:x.length<=1048576)(hm:Gh x=true):x.length<=8/\BP x x.length=[]/\∀ i,i<x.length->Le (BP x i) (x.getD i (0,0,0)):=by
 rw[Y0,AE,AE,Ah,Ah] at hm;obtain⟨h1,h2,h3⟩:=hm;rw[AF,BB,Aq _ (lLen x),Bl] at h1;rw[Ew,As,Ap] at h2;rw[Bo,As,Ap] at h3
 obtain⟨g1,g2⟩:=ZbT x h1 (λ dn i hc=>by
  simp only[As,A8,Az,Be,ME,LG,Gu,AE,AF,A4,Nc,Aq,Bo,CK,Ah,BB,B8,CL,Ap,AZ] at hc;obtain⟨c1,⟨c2,c3⟩,c4,c5⟩:=hc;refine⟨by omega,c2,c3,c4,?_⟩;have:=congrArg (·=true) c5
  simpa using this) (λ dn i hi=>by
  simp only[A8,Az,Be,ME,BA,Bo,Ap,BD];rw[Bx (by unfold AO;omega)]
  rfl)
 refine⟨by omega,?_,g2⟩;rw[<- g1];exact FD (by omega)
end
end
end Go.Ag
