/- Part 7 of what FnNothingStays needs. No conditions. -/
import Derived.Test.YtbkpfpcnjpggaaaLibF
namespace Go.Ag
set_option linter.unusedSimpArgs false
set_option linter.unusedVariables false
noncomputable section
section
set_option maxRecDepth 8000
def rM:DCode:=(.seq [2,1] (.region [oa 0 1 (.boxB 0 2 (.t 0)),oa 1 2 (.allocB 1 [Ab,.nils])]) (.seq [2] (.region [oa 0 3 (.fieldA 0 (.t 1)),xB 1 4 (.loadB 0 none (.t 3)) (rg 1),oa 3 6 (.fieldA 1 (.t 1)),xA 4 7 (.loadB 0 none (.t 6)) [3],⟨2,some 5,.a false (.litSlice 1 0 [] []) (some (.one (.int .i64))),none,[]⟩,xA 5 8 (.app 1 (.t 5) (.t 7)) [2,3,4],xA 6 9 (.build [Ab,.nils] [(0,1,(.t 4)),(1,1,(.t 8))]) (rg 6),xS 7 (.storeB 1 2 (.t 2) (.t 9)) (rg 7)]) .ret))
def Kh:Fn:=⟨⟨1,10,2,false,[.cell 2 (some 2)],rM⟩,[.agg [AD,(.frz,.sl (.one (.int .i64)))]],.one (.agg [Au,(.own,.sl (.one (.int .i64)))])⟩
theorem r5:Kh.A:=A8 trivial
def QH:Dt->Int×List (Int):=Kh.V
def YE:Dt->Prop:=Kh.O
theorem rA:Kh.B:=Ba trivial (by kernel_rfl) (λ x=>by kernel_rfl)
def ou:DCode:=(.seq [2,1] (.region [oa 0 2 (.boxB 0 2 (.t 0)),oa 1 4 (.mv (.c .nils))]) (.seq [5,2,1] (.region [⟨0,some 7,.a false (.litSlice 2 0 [] []) (some (.cons (.int .i64) (.one (.sl (.one (.int .i64)))))),none,[]⟩,om 1 5 7]) (.seq [5] (.seq [6,5,2,1] (.region [oi 0 6 0]) (.block 0 (.loop [1,2,5,6] 1 (.seq [6,5,2,1] (.seq [11,6,5,2,1] (.region [om 0 8 6,on 1 9 1,oa 2 10 (.len (.t 9)),oa 3 11 (.bin .lss (.t 8) (.t 10))]) (.cond (.t 11) .skip (.exit 0))) (.seq [6,5,2,1] (.block 1 (.seq [6,5,2,1] (.seq [20,6,5,2,1] (.region [oa 0 14 (.loadB 0 (some 2) (.t 2)),on 1 15 1,om 2 16 6,xA 3 17 (.indexA 2 (.t 15) (.t 16)) [1,2],xA 4 18 (.loadH (some 2) (.t 17)) [1,2,3],xF 5 19 JT [(.t 14),(.t 18)] (rg 5),xA 6 20 (.un .not (.t 19)) (rg 6)]) (.cond (.t 20) (.region [om 0 21 5,on 1 22 1,om 2 23 6,oa 3 24 (.indexA 2 (.t 22) (.t 23)),oa 4 25 (.loadH (some 2) (.t 24)),oF 5 26 Kh [(.t 25)],⟨6,some 27,.a false (.litSlice 2 1 [Ab,.nils] [(0,2,(.t 26))]) (some (.cons (.int .i64) (.one (.sl (.one (.int .i64)))))),none,[]⟩,oa 7 28 (.app 2 (.t 21) (.t 27)),om 8 5 28]) .skip)) (.region [on 0 29 1,om 1 30 6,oa 2 31 (.indexA 2 (.t 29) (.t 30)),ob 3 32 (.loadH (some 2) (.t 31)),os 4 (.storeB 0 2 (.t 2) (.t 32))]))) (.region [om 0 12 6,oa 1 13 (.bin .add (.t 12) Av),om 2 6 13])))))) (.seq [4] (.region [om 0 33 5,om 1 4 33]) .ret))))
def HS:Fn:=⟨⟨2,34,1,false,[.tmp 4],ou⟩,[.agg [AD,(.frz,.sl (.one (.int .i64)))],.one .frz (.sl (.cons (.int .i64) (.one (.sl (.one (.int .i64))))))],.one (.one .own (.sl (.cons (.int .i64) (.one (.sl (.one (.int .i64)))))))⟩
theorem dE:HS.A:=A8 ⟨nZ,r5,trivial⟩
def Qd:Jw->List Dt:=HS.V
def P9:Jw->Prop:=HS.O
theorem dC:HS.B:=Ba ⟨n6,rA,trivial⟩ (by kernel_rfl) (λ x=>by kernel_rfl)
def qX:DCode:=(.seq [4,2,1] (.region [oa 0 2 (.boxB 0 7 (.t 0)),oa 1 4 (.allocB 1 [Ab,.nils,.nils,Ab,.nils,Ab,CW]),oa 2 5 (.mv (.c .nils)),oa 3 6 (.mv Ar)]) (.seq [7,4,2] (.region [oa 0 9 (.loadB 0 (some 7) (.t 2)),om 1 10 1,oF 2 11 GI [(.t 9),(.t 10)],om 3 7 11]) (.seq [7,4,2] (.seq [18,7,4,2] (.region [oa 0 12 (.loadB 0 (some 7) (.t 2)),oF 1 13 GG [(.t 12)],oa 2 14 (.un .not (.t 13)),om 3 15 14,og 4 16 (.mv (.t 7)) 15 false,og 5 17 (.bin .lss (.t 16) AE) 15 false,oa 6 18 (.pick (.t 15) A7 (.t 17))]) (.cond (.t 18) (.seq [6,5,4] (.region [oa 0 19 (.build [Ab,.nils,.nils,Ab,.nils,Ab,CW] []),⟨1,some 20,.a false (.litSlice 2 0 [] []) (some (.cons (.int .i64) (.one (.sl (.one (.int .i64)))))),none,[]⟩,os 2 (.storeB 1 7 (.t 4) (.t 19)),om 3 5 20,oa 4 6 (.mv Ar)]) .ret) .skip)) (.seq [8,7,4,2] (.region [oa 0 21 (.loadB 0 (some 7) (.t 2)),oF 1 22 GK [(.t 21)],oa 2 8 (.allocB 2 [Ab,.nils,.nils,Ab,.nils,Ab,CW]),os 3 (.storeB 2 7 (.t 8) (.t 22))]) (.seq [8,4,2] (.region [oa 0 23 (.fieldA 4 (.t 8)),oa 1 24 (.loadB 2 none (.t 23)),om 2 25 7,oF 3 26 GC [(.t 24),(.t 25)],oa 4 27 (.fieldA 4 (.t 8)),os 5 (.storeB 2 1 (.t 27) (.t 26))]) (.seq [6,5,4] (.region [oa 0 28 (.loadB 2 (some 7) (.t 8)),oa 1 29 (.fieldA 4 (.t 2)),xA 2 30 (.loadB 0 none (.t 29)) [1],oa 4 32 (.fieldA 4 (.t 8)),xA 5 33 (.loadB 2 none (.t 32)) [4],xF 3 31 EO [(.t 30)] [1,2],xF 6 34 EO [(.t 33)] [1,2,3,4,5],⟨7,some 35,.a false (.litSlice 2 1 [Ab,.nils] [(0,2,(.t 34))]) (some (.cons (.int .i64) (.one (.sl (.one (.int .i64)))))),none,[1,2,3,4,5,6]⟩,xF 8 36 HS [(.t 31),(.t 35)] [1,2,3,4,5,6,7],⟨9,none,.clm (.t 8) 28 (.storeB 1 7 (.t 4) (.t 28)),none,[0,1,2,3,4,5,6,7,8]⟩,xA 10 5 (.mv (.t 36)) (rg 10),xA 11 6 (.mv A7) (rg 11)]) .ret))))))
def J8:Fn:=⟨⟨2,37,3,false,[.cell 4 (some 7),.tmp 5,.tmp 6],qX⟩,[.agg [AD,(.frz,.sl (.one (.sl BS))),(.frz,.sl (.one (.sl BV))),AD,(.frz,.sl BE),AD,(.frz,.bool)],.one .frz (.int .i64)],.tup [.agg [Au,(.own,.sl (.one (.sl BS))),(.own,.sl (.one (.sl BV))),Au,(.own,.sl BE),Au,(.own,.bool)],.one .own (.sl (.cons (.int .i64) (.one (.sl (.one (.int .i64)))))),.one .own (.bool)]⟩
theorem qB:J8.A:=A8 ⟨eV,Yk,YM,XX,Qe,Qe,dE,trivial⟩
def QE:HJ->B8×E3×Bool:=J8.V
def Qx:HJ->Prop:=J8.O
theorem rm:J8.B:=Ba ⟨eE,Yd,YF,XT,Qh,Qh,dC,trivial⟩ (by kernel_rfl) (λ x=>by kernel_rfl)
def nA:DCode:=(.seq [2,1] (.region [oa 0 1 (.boxB 0 7 (.t 0)),oa 1 2 (.allocB 1 [Ab,.nils,.nils,Ab,.nils,Ab,CW])]) (.seq [2,1] (.region [oa 0 3 (.fieldA 0 (.t 1)),oa 1 4 (.loadB 0 (some 2) (.t 3)),oF 2 5 JX [(.t 4)],oa 3 6 (.fieldA 0 (.t 1)),os 4 (.storeB 0 2 (.t 6) (.t 5))]) (.seq [2,1] (.region [oa 0 7 (.fieldA 2 (.t 1)),oa 1 8 (.loadB 0 none (.t 7)),oF 2 9 JW [(.t 8)],oa 3 10 (.fieldA 2 (.t 1)),os 4 (.storeB 0 1 (.t 10) (.t 9))]) (.seq [2,1] (.region [oa 0 11 (.fieldA 4 (.t 1)),oa 1 12 (.loadB 0 none (.t 11)),oa 2 13 (.app 5 (.c .nils) (.t 12)),oa 3 14 (.fieldA 4 (.t 1)),os 4 (.storeB 0 1 (.t 14) (.t 13))]) (.seq [2] (.region [ob 0 15 (.loadB 0 (some 7) (.t 1)),os 1 (.storeB 1 7 (.t 2) (.t 15))]) .ret)))))
def JU:Fn:=⟨⟨1,16,2,false,[.cell 2 (some 7)],nA⟩,[.agg [AD,(.frz,.sl (.one (.sl BS))),(.frz,.sl (.one (.sl BV))),AD,(.frz,.sl BE),AD,(.frz,.bool)]],.one (.agg [Au,(.own,.sl (.one (.sl BS))),(.own,.sl (.one (.sl BV))),Au,(.own,.sl BE),Au,(.own,.bool)])⟩
theorem nK:JU.A:=A8 ⟨nU,nM,trivial⟩
def B4:B8->Int×DW×Df×Int×Bv×Int×Bool:=JU.V
def P4:B8->Prop:=JU.O
theorem nP:JU.B:=Ba ⟨oe,nC,trivial⟩ (by kernel_rfl) (λ x=>by kernel_rfl)
def m9:DCode:=(.seq [2,1] (.region [oa 0 2 (.boxB 0 2 (.t 0)),oa 1 4 (.mv (.c .nils))]) (.seq [5,2,1] (.region [oa 0 5 (.mv (.c .nils))]) (.seq [5] (.seq [10,9,8,5,2] (.region [on 0 8 1,oa 1 9 (.len (.t 8)),oi 2 10 0]) (.block 0 (.loop [2,5,8,9,10] 1 (.seq [11,10,9,8,5,2] (.region [oa 0 11 (.bin .lss (.t 10) (.t 9))]) (.seq [10,9,8,5,2] (.cond (.t 11) .skip (.exit 0)) (.seq [10,9,8,5,2] (.block 1 (.seq [10,9,8,7,5,2] (.region [oa 0 12 (.indexA 2 (.t 8) (.t 10)),ob 1 13 (.loadH (some 2) (.t 12)),oa 2 7 (.allocB 1 [Ab,.nils]),os 3 (.storeB 1 2 (.t 7) (.t 13))]) (.seq [10,9,8,7,5,2] (.seq [17,10,9,8,7,5,2] (.region [oa 0 14 (.loadB 0 (some 2) (.t 2)),oa 1 15 (.loadB 1 (some 2) (.t 7)),oF 2 16 FI [(.t 14),(.t 15)],oa 3 17 (.un .not (.t 16))]) (.cond (.t 17) (.region [om 0 18 5,ob 1 19 (.loadB 1 (some 2) (.t 7)),⟨2,some 20,.a false (.litSlice 2 1 [Ab,.nils] [(0,2,(.t 19))]) (some (.cons (.int .i64) (.one (.slf (.one (.int .i64)))))),none,[]⟩,oa 3 21 (.app 2 (.t 18) (.t 20)),om 4 5 21]) .skip)) (.region [ob 0 22 (.loadB 1 (some 2) (.t 7)),os 1 (.storeB 0 2 (.t 2) (.t 22))])))) (.region [oa 0 23 (.bin .add (.t 10) Av),om 1 10 23]))))))) (.seq [4] (.region [om 0 24 5,om 1 4 24]) .ret))))
def HN:Fn:=⟨⟨2,25,2,false,[.tmp 4],m9⟩,[.agg [AD,(.frz,.sl (.one (.int .i64)))],.one .frz (.sl (.cons (.int .i64) (.one (.sl (.one (.int .i64))))))],.one (.one .own (.sl (.cons (.int .i64) (.one (.slf (.one (.int .i64)))))))⟩
theorem mY:HN.A:=A8 ⟨XP,trivial⟩
def PZ:Jw->List Dt:=HN.V
def PY:Jw->Prop:=HN.O
theorem nf:HN.B:=Ba ⟨XL,trivial⟩ (by kernel_rfl) (λ x=>by kernel_rfl)
def qv:DCode:=(.seq [4,2,1] (.region [oa 0 2 (.boxB 0 7 (.t 0)),oa 1 4 (.allocB 1 [Ab,.nils,.nils,Ab,.nils,Ab,CW]),oa 2 5 (.mv (.c .nils))]) (.seq [6,4,2,1] (.region [oa 0 8 (.loadB 0 (some 7) (.t 2)),oF 1 9 JU [(.t 8)],oa 2 6 (.allocB 2 [Ab,.nils,.nils,Ab,.nils,Ab,CW]),os 3 (.storeB 2 7 (.t 6) (.t 9))]) (.seq [7,6,4,2] (.region [oa 0 10 (.loadB 0 (some 7) (.t 2)),om 1 11 1,oF 2 12 GL [(.t 10),(.t 11)],om 3 7 12]) (.seq [6,4,2] (.region [oa 0 13 (.fieldA 4 (.t 6)),xA 1 14 (.loadB 2 none (.t 13)) (rg 1),om 2 15 7,xA 3 16 (.slice 5 (.t 14) none (some (.t 15))) (rg 3),oa 4 17 (.fieldA 4 (.t 6)),xA 5 18 (.loadB 2 none (.t 17)) [4],om 6 19 7,xA 7 20 (.bin .add (.t 19) Av) [6],xA 8 21 (.slice 5 (.t 18) (some (.t 20)) none) [4,5,6,7],⟨9,some 22,.aw [(0,5)] false (.app 5 (.t 16) (.t 21)) none,none,rg 9⟩,xA 10 23 (.fieldA 4 (.t 6)) (rg 10),xS 11 (.storeB 2 1 (.t 23) (.t 22)) (rg 11)]) (.seq [5,4] (.region [⟨0,some 24,.fzb (.t 6) (.loadB 2 (some 7) (.t 6)),none,[]⟩,oa 1 25 (.fieldA 4 (.t 2)),xA 2 26 (.loadB 0 none (.t 25)) [1],oa 4 28 (.fieldA 4 (.t 6)),xA 5 29 (.loadB 2 none (.t 28)) [4],xF 3 27 GD [(.t 26)] [1,2],xF 6 30 GD [(.t 29)] [1,2,3,4,5],⟨7,some 31,.a false (.litSlice 2 1 [Ab,.nils] [(0,2,(.t 30))]) (some (.cons (.int .i64) (.one (.sl (.one (.int .i64)))))),none,[1,2,3,4,5,6]⟩,⟨8,some 32,.call true HN.S HN.P HN.D [(.t 27),(.t 31)],none,[1,2,3,4,5,6,7]⟩,xS 9 (.storeB 1 7 (.t 4) (.t 24)) (rg 9),xA 10 5 (.mv (.t 32)) (rg 10)]) .ret)))))
def Kc:Fn:=⟨⟨2,33,3,false,[.cell 4 (some 7),.tmp 5],qv⟩,[.agg [AD,(.frz,.sl (.one (.sl BS))),(.frz,.sl (.one (.sl BV))),AD,(.frz,.sl BE),AD,(.frz,.bool)],.one .frz (.int .i64)],.tup [.agg [AD,(.frz,.sl (.one (.sl BS))),(.frz,.sl (.one (.sl BV))),AD,(.frz,.sl BE),AD,(.frz,.bool)],.one .own (.sl (.cons (.int .i64) (.one (.slf (.one (.int .i64))))))]⟩
theorem rj:Kc.A:=A8 ⟨nK,eN,Yo,Yo,mY,trivial⟩
def Ub:HJ->B8×E3:=Kc.V
def Ys:HJ->Prop:=Kc.O
theorem qF:Kc.B:=Ba ⟨nP,eI,Yl,Yl,nf,trivial⟩ (by kernel_rfl) (λ x=>by kernel_rfl)
def qZ:DCode:=(.seq [4,2,1] (.region [oa 0 2 (.boxB 0 7 (.t 0)),oa 1 4 (.allocB 1 [Ab,.nils,.nils,Ab,.nils,Ab,CW]),oa 2 5 (.mv (.c .nils)),oa 3 6 (.mv Ar)]) (.seq [4,2,1] (.seq [17,4,2,1] (.region [oa 0 9 (.loadB 0 (some 7) (.t 2)),oF 1 10 J2 [(.t 9)],oa 2 11 (.un .not (.t 10)),om 3 12 11,og 4 13 (.loadB 0 (some 7) (.t 2)) 12 false,og 5 14 (.mv (.t 1)) 12 false,⟨6,some 15,.call false GL.S GL.P GL.D [(.t 13),(.t 14)],(some (12,false)),[]⟩,og 7 16 (.bin .lss (.t 15) AE) 12 false,oa 8 17 (.pick (.t 12) A7 (.t 16))]) (.cond (.t 17) (.seq [6,5,4] (.region [oa 0 18 (.build [Ab,.nils,.nils,Ab,.nils,Ab,CW] []),os 1 (.storeB 1 7 (.t 4) (.t 18)),⟨2,some 5,.fzb (.t 4) (.mv (.c .nils)),none,[]⟩,oa 3 6 (.mv Ar)]) .ret) .skip)) (.seq [8,7,4] (.region [oa 0 20 (.loadB 0 (some 7) (.t 2)),om 1 21 1,oF 2 22 Kc [(.t 20),(.t 21)],om 3 19 22,oa 4 23 (.extract (.t 19) 0),oa 5 24 (.extract (.t 19) 1),oa 6 7 (.allocB 2 [Ab,.nils,.nils,Ab,.nils,Ab,CW]),os 7 (.storeB 2 7 (.t 7) (.t 23)),om 8 8 24]) (.seq [6,5,4] (.region [ob 0 25 (.loadB 2 (some 7) (.t 7)),om 1 26 8,os 2 (.storeB 1 7 (.t 4) (.t 25)),om 3 5 26,oa 4 6 (.mv A7)]) .ret))))
def Kf:Fn:=⟨⟨2,27,3,false,[.cell 4 (some 7),.tmp 5,.tmp 6],qZ⟩,[.agg [AD,(.frz,.sl (.one (.sl BS))),(.frz,.sl (.one (.sl BV))),AD,(.frz,.sl BE),AD,(.frz,.bool)],.one .frz (.int .i64)],.tup [.agg [AD,(.frz,.sl (.one (.sl BS))),(.frz,.sl (.one (.sl BV))),AD,(.frz,.sl BE),AD,(.frz,.bool)],.one .own (.sl (.cons (.int .i64) (.one (.slf (.one (.int .i64)))))),.one .own (.bool)]⟩
theorem q9:Kf.A:=A8 ⟨pM,eN,rj,trivial⟩
def N9:HJ->B8×E3×Bool:=Kf.V
def Qy:HJ->Prop:=Kf.O
theorem qt:Kf.B:=Ba ⟨pS,eI,qF,trivial⟩ (by kernel_rfl) (λ x=>by kernel_rfl)
def nS:DCode:=(.seq [0] (.region [oa 0 2 (.mv Ar)]) (.seq [2] (.region [om 0 3 0,oF 1 4 BF [(.t 3),Av,(.c (.int .i64 36))],om 2 5 4,og 3 6 (.mv (.t 0)) 5 false,og 4 7 (.bin .eql (.t 6) (.c (.int .i64 39))) 5 false,oa 5 8 (.pick (.t 5) A7 (.t 7)),om 6 9 8,og 7 10 (.mv (.t 0)) 9 false,og 8 11 (.bin .eql (.t 10) (.c (.int .i64 42))) 9 false,oa 9 12 (.pick (.t 9) A7 (.t 11)),om 10 2 12]) .ret))
def JR:Fn:=⟨⟨1,13,0,true,[.tmp 2],nS⟩,[.one .frz (.int .i64)],.one (.one .own (.bool))⟩
theorem nE:JR.A:=A8 ⟨F6,trivial⟩
def IX:Int->Bool:=JR.V
def XK:Int->Prop:=JR.O
theorem nF:JR.B:=Ba ⟨F8,trivial⟩ (by kernel_rfl) (λ x=>by kernel_rfl)
def tR:DCode:=(.seq [4,3,0] (.region [oa 0 3 (.boxB 0 4 (.t 1)),oa 1 4 (.allocB 1 [Ab,Ab,Ab,Ab])]) (.seq [4,3,0] (.region [oa 0 5 (.fieldA 2 (.t 3)),xA 1 6 (.loadB 0 none (.t 5)) (rg 1),om 2 7 0,xA 3 8 (.nilck (.t 7)) [2],xA 4 9 (.fieldA 5 (.t 8)) [2,3],xA 5 10 (.loadH none (.t 9)) [2,3,4],xA 6 11 (.bin .or (.t 6) (.t 10)) (rg 6),xA 7 12 (.fieldA 2 (.t 3)) (rg 7),xS 8 (.storeB 0 1 (.t 12) (.t 11)) (rg 8)]) (.seq [4,3,0] (.region [om 0 13 0,oa 1 14 (.nilck (.t 13)),oa 2 15 (.fieldA 5 (.t 14)),os 3 (.storeH 1 (.t 15) AE)]) (.seq [4,3,0] (.seq [19,4,3,0] (.region [oa 0 16 (.fieldA 1 (.t 3)),oa 1 17 (.loadB 0 none (.t 16)),oF 2 18 JR [(.t 17)],oa 3 19 (.un .not (.t 18))]) (.cond (.t 19) (.region [om 0 20 0,oa 1 21 (.nilck (.t 20)),oa 2 22 (.fieldA 6 (.t 21)),os 3 (.storeH 1 (.t 22) Ar)]) .skip)) (.seq [4,3] (.seq [37,4,3] (.region [om 0 23 0,oa 1 24 (.nilck (.t 23)),oa 2 25 (.fieldA 6 (.t 24)),oa 3 26 (.loadH none (.t 25)),om 4 27 26,og 5 28 (.fieldA 1 (.t 3)) 27 true,og 6 29 (.loadB 0 none (.t 28)) 27 true,og 7 30 (.bin .leq (.t 29) (.c (.int .i64 26))) 27 true,oa 8 31 (.pick (.t 27) (.t 30) Ar),om 9 32 31,og 10 33 (.fieldA 2 (.t 3)) 32 true,og 11 34 (.loadB 0 none (.t 33)) 32 true,og 12 35 (.bin .andNot (.t 34) (.c (.int .i64 2))) 32 true,og 13 36 (.bin .eql (.t 35) AE) 32 true,oa 14 37 (.pick (.t 32) (.t 36) Ar)]) (.cond (.t 37) (.region [oa 0 38 (.fieldA 2 (.t 3)),os 1 (.storeB 0 1 (.t 38) (.c (.int .i64 2)))]) .skip)) (.seq [4] (.region [ob 0 39 (.loadB 0 (some 4) (.t 3)),os 1 (.storeB 1 4 (.t 4) (.t 39))]) .ret))))))
def Lk:DFun:=⟨2,40,2,false,[.cell 4 (some 4)],tR⟩
@[irreducible] def OA:Bc:=EZ Lk.er.er
@[irreducible] def QN:Cf:=Db Lk.er
theorem ug:Eg OA QN:=by unfold OA QN;exact Gb (f:=Lk.er) ⟨nE,trivial⟩
def U2:List HT:=[.agg [AD,AD,AD,AD]]
def U8:List (Ql×CT):=[Au,(.own,.sl (.one (.sl BS))),(.own,.sl (.one (.sl BV))),Au,(.own,.sl BE),Au,(.own,.bool)]
def U6:QT:=.one (.agg [Au,Au,Au,Au])
def UE:List (Ql×CT):=[Au,Au,Au,Au]
@[irreducible] def QQ(x:PD):CI×B8:=(shut λ x=>Ma Lk U2 UE U8 U6 x).1 x
@[irreducible] def QL(x:PD):Prop:=(shut λ x=>LW Lk U2 UE U8 U6 x).1 x
def fQ:CO:=MO U2 UE U8 U6 QL QQ
theorem uf:D2 QN fQ:=by unfold QN;exact Q3 (f:=Lk) (hs:=U2) (c2:=UE) (cs:=U8) (q:=U6) ⟨nF,trivial⟩ (by kernel_rfl) (λ x=>by kernel_rfl) (λ x h=>by unfold QL at h;exact Eq.mp (congrFun (shut _).2 x) h) (λ x=>by unfold QQ;exact(congrFun (shut _).2 x).symm)
def pF:DCode:=(.seq [4,3,0] (.region [oa 0 3 (.boxB 0 4 (.t 1)),oa 1 4 (.allocB 1 [Ab,Ab,Ab,Ab])]) (.seq [4,3] (.seq [6,4,3,0] (.region [oa 0 5 (.fieldA 0 (.t 3)),oa 1 6 (.loadB 0 none (.t 5))]) (.block 0 (.seq [7,6,4,3,0] (.region [oa 0 8 (.bin .eql (.t 6) (.c (.int .i64 2))),om 1 7 8]) (.cond (.t 7) (.seq [11,4,3,0] (.region [oa 0 9 (.fieldA 1 (.t 3)),oa 1 10 (.loadB 0 none (.t 9)),oa 2 11 (.bin .gtr (.t 10) AE)]) (.cond (.t 11) (.seq [4] (.region [om 0 12 0,oa 1 13 (.loadB 0 (some 4) (.t 3)),op 2 14 OA QN fQ [(.t 12),(.t 13)],os 3 (.storeB 1 4 (.t 4) (.t 14))]) .ret) .skip)) (.seq [15,6,4,3,0] (.region [oa 0 16 (.bin .eql (.t 6) (.c (.int .i64 4))),om 1 15 16]) (.cond (.t 15) (.region [om 0 17 0,om 1 18 0,xA 2 19 (.nilck (.t 18)) [1],xA 3 20 (.fieldA 3 (.t 19)) [1,2],xA 4 21 (.loadH none (.t 20)) [1,2,3],oa 5 22 (.fieldA 3 (.t 3)),xA 6 23 (.loadB 0 none (.t 22)) [5],xA 7 24 (.bin .shl Av (.t 23)) [5,6],xA 8 25 (.bin .xor (.t 21) (.t 24)) [1,2,3,4,5,6,7],xA 9 26 (.nilck (.t 17)) (rg 9),xA 10 27 (.fieldA 3 (.t 26)) (rg 10),xS 11 (.storeH 1 (.t 27) (.t 25)) (rg 11)]) (.seq [28,6,4,3,0] (.region [oa 0 29 (.bin .eql (.t 6) (.c (.int .i64 5))),om 1 28 29]) (.cond (.t 28) (.region [om 0 30 0,oa 1 31 (.fieldA 3 (.t 3)),oa 2 32 (.loadB 0 none (.t 31)),oa 3 33 (.bin .shl Av (.t 32)),oa 4 34 (.bin .andNot (.t 33) Av),oa 5 35 (.nilck (.t 30)),oa 6 36 (.fieldA 3 (.t 35)),os 7 (.storeH 1 (.t 36) (.t 34))]) (.seq [37,6,4,3,0] (.region [oa 0 38 (.bin .eql (.t 6) (.c (.int .i64 8))),om 1 37 38]) (.cond (.t 37) (.seq [48,4,3,0] (.region [om 0 39 0,xA 1 40 (.nilck (.t 39)) (rg 1),xA 2 41 (.fieldA 5 (.t 40)) (rg 2),xA 3 42 (.loadH none (.t 41)) (rg 3),oa 4 43 (.fieldA 2 (.t 3)),xA 5 44 (.loadB 0 none (.t 43)) [4],xA 6 45 (.bin .and (.t 42) (.t 44)) (rg 6),oa 7 46 (.fieldA 2 (.t 3)),xA 8 47 (.loadB 0 none (.t 46)) [7],xA 9 48 (.bin .eql (.t 45) (.t 47)) (rg 9)]) (.cond (.t 48) (.region [om 0 49 0,om 1 50 0,xA 2 51 (.nilck (.t 50)) [1],xA 3 52 (.fieldA 5 (.t 51)) [1,2],xA 4 53 (.loadH none (.t 52)) [1,2,3],oa 5 54 (.fieldA 2 (.t 3)),xA 6 55 (.loadB 0 none (.t 54)) [5],xA 7 56 (.bin .andNot (.t 53) (.t 55)) [1,2,3,4,5,6],xA 8 57 (.nilck (.t 49)) (rg 8),xA 9 58 (.fieldA 5 (.t 57)) (rg 9),xS 10 (.storeH 1 (.t 58) (.t 56)) (rg 10)]) (.region [om 0 59 0,om 1 60 0,xA 2 61 (.nilck (.t 60)) [1],xA 3 62 (.fieldA 5 (.t 61)) [1,2],xA 4 63 (.loadH none (.t 62)) [1,2,3],oa 5 64 (.fieldA 2 (.t 3)),xA 6 65 (.loadB 0 none (.t 64)) [5],xA 7 66 (.bin .or (.t 63) (.t 65)) [1,2,3,4,5,6],xA 8 67 (.nilck (.t 59)) (rg 8),xA 9 68 (.fieldA 5 (.t 67)) (rg 9),xS 10 (.storeH 1 (.t 68) (.t 66)) (rg 10)]))) (.seq [69,4,3,0] (.region [oa 0 70 (.bin .eql (.t 6) (.c (.int .i64 10))),om 1 69 70]) (.cond (.t 69) (.region [om 0 71 0,om 1 72 0,oa 2 73 (.nilck (.t 72)),oa 3 74 (.fieldA 6 (.t 73)),oa 4 75 (.loadH none (.t 74)),oa 5 76 (.un .not (.t 75)),oa 6 77 (.nilck (.t 71)),oa 7 78 (.fieldA 6 (.t 77)),os 8 (.storeH 1 (.t 78) (.t 76))]) .skip)))))))))))) (.seq [4] (.region [ob 0 79 (.loadB 0 (some 4) (.t 3)),os 1 (.storeB 1 4 (.t 4) (.t 79))]) .ret)))
def K8:DFun:=⟨2,80,2,false,[.cell 4 (some 4)],pF⟩
@[irreducible] def N4:Bc:=EZ K8.er.er
@[irreducible] def Qv:Cf:=Db K8.er
theorem p8:Eg N4 Qv:=by unfold N4 Qv;exact Gb (f:=K8.er) ⟨ug,trivial⟩
def TZ:List HT:=[.agg [AD,AD,AD,AD]]
def TY:List (Ql×CT):=[Au,(.own,.sl (.one (.sl BS))),(.own,.sl (.one (.sl BV))),Au,(.own,.sl BE),Au,(.own,.bool)]
def TT:QT:=.one (.agg [Au,Au,Au,Au])
def TM:List (Ql×CT):=[Au,Au,Au,Au]
@[irreducible] def N0(x:PD):CI×B8:=(shut λ x=>Ma K8 TZ TM TY TT x).1 x
@[irreducible] def NQ(x:PD):Prop:=(shut λ x=>LW K8 TZ TM TY TT x).1 x
def dV:CO:=MO TZ TM TY TT NQ N0
theorem oY:D2 Qv dV:=by unfold Qv;exact Q3 (f:=K8) (hs:=TZ) (c2:=TM) (cs:=TY) (q:=TT) ⟨uf,trivial⟩ (by kernel_rfl) (λ x=>by kernel_rfl) (λ x h=>by unfold NQ at h;exact Eq.mp (congrFun (shut _).2 x) h) (λ x=>by unfold N0;exact(congrFun (shut _).2 x).symm)
def uc:DCode:=(.seq [6,3,2,1] (.region [oa 0 3 (.boxB 0 7 (.t 0)),oa 1 6 (.allocB 1 [Ab,.nils,.nils,Ab,.nils,Ab,CW]),oa 2 7 (.mv (.c .nils)),oa 3 8 (.mv Ar)]) (.seq [6,3,2,1] (.seq [29,6,3,2,1] (.region [oa 0 12 (.loadB 0 (some 7) (.t 3)),oF 1 13 GG [(.t 12)],oa 2 14 (.un .not (.t 13)),om 3 15 14,og 4 16 (.mv (.t 1)) 15 false,og 5 17 (.fieldA 0 (.t 3)) 15 false,og 6 18 (.fieldA 0 (.t 17)) 15 false,og 7 19 (.loadB 0 none (.t 18)) 15 false,og 8 20 (.bin .sub (.t 19) Av) 15 false,⟨9,some 21,.call false BF.S BF.P BF.D [(.t 16),AE,(.t 20)],(some (15,false)),[]⟩,og 10 22 (.un .not (.t 21)) 15 false,oa 11 23 (.pick (.t 15) A7 (.t 22)),om 12 24 23,og 13 25 (.loadB 0 (some 7) (.t 3)) 24 false,og 14 26 (.mv (.t 1)) 24 false,⟨15,some 27,.call false GI.S GI.P GI.D [(.t 25),(.t 26)],(some (24,false)),[]⟩,og 16 28 (.bin .geq (.t 27) AE) 24 false,oa 17 29 (.pick (.t 24) A7 (.t 28))]) (.cond (.t 29) (.seq [8,7,6] (.region [oa 0 30 (.build [Ab,.nils,.nils,Ab,.nils,Ab,CW] []),⟨1,some 31,.a false (.litSlice 2 0 [] []) (some (.cons (.int .i64) (.one (.sl (.one (.int .i64)))))),none,[]⟩,os 2 (.storeB 1 7 (.t 6) (.t 30)),om 3 7 31,oa 4 8 (.mv Ar)]) .ret) .skip)) (.seq [9,6,3,2,1] (.region [oa 0 32 (.loadB 0 (some 7) (.t 3)),oF 1 33 GK [(.t 32)],oa 2 9 (.allocH [Ab,.nils,.nils,Ab,.nils,Ab,CW]),os 3 (.storeH 7 (.t 9) (.t 33))]) (.seq [10,9,6,3,2,1] (.region [oa 9 10 (.allocH [Ab,Ab,Ab,Ab]),oa 0 34 (.fieldA 0 (.t 3)),xA 1 35 (.loadB 0 (some 2) (.t 34)) (rg 1),oa 2 36 (.fieldA 3 (.t 3)),xA 3 37 (.loadB 0 none (.t 36)) [2],oa 4 38 (.fieldA 4 (.t 3)),xA 5 39 (.loadB 0 none (.t 38)) [4],om 7 41 1,xF 6 40 J7 [(.t 37),(.t 39)] [2,3,4,5],xF 8 42 J4 [(.t 35),(.t 40),(.t 41)] (rg 8),xS 10 (.storeH 4 (.t 10) (.t 42)) (rg 10)]) (.seq [10,9,6,3,1] (.seq [43,10,9,6,3,1] (.region [om 0 43 2]) (.cond (.t 43) (.region [oa 0 44 (.loadH (some 4) (.t 10)),oF 1 45 Ki [(.t 44)],os 2 (.storeH 4 (.t 10) (.t 45))]) (.region [oa 0 46 (.loadH (some 4) (.t 10)),oF 1 47 Ko [(.t 46)],os 2 (.storeH 4 (.t 10) (.t 47))]))) (.seq [10,9,6,3,1] (.region [oa 0 48 (.loadH (some 4) (.t 10)),op 1 49 N4 Qv dV [(.t 9),(.t 48)],os 2 (.storeH 4 (.t 10) (.t 49))]) (.seq [10,9,6,3] (.region [oa 0 50 (.fieldA 4 (.t 9)),ob 1 51 (.loadH none (.t 50)),om 2 52 1,ob 3 53 (.loadH (some 4) (.t 10)),oa 4 54 (.build [Ab,Ab,Ab,Ab,Ab] [(0,1,(.t 52)),(1,4,(.t 53))]),⟨5,some 55,.a false (.litSlice 5 1 [Ab,Ab,Ab,Ab,Ab] [(0,5,(.t 54))]) (some BE),none,[]⟩,oa 6 56 (.app 5 (.t 51) (.t 55)),oa 7 57 (.fieldA 4 (.t 9)),os 8 (.storeH 1 (.t 57) (.t 56))]) (.seq [11,10,9,6,3] (.region [⟨0,some 58,.a false (.litSlice 2 0 [] []) (some (.cons (.int .i64) (.one (.sl (.one (.int .i64)))))),none,[]⟩,om 1 11 58]) (.seq [11,9,6,3] (.seq [69,11,10,9,6,3] (.region [oa 0 59 (.fieldA 0 (.t 10)),oa 1 60 (.loadH none (.t 59)),oa 2 61 (.bin .eql (.t 60) (.c (.int .i64 9))),om 3 62 61,og 4 63 (.fieldA 3 (.t 10)) 62 true,og 5 64 (.loadH none (.t 63)) 62 true,og 6 65 (.fieldA 2 (.t 3)) 62 true,og 7 66 (.loadB 0 none (.t 65)) 62 true,og 8 67 (.len (.t 66)) 62 true,og 9 68 (.bin .lss (.t 64) (.t 67)) 62 true,oa 10 69 (.pick (.t 62) (.t 68) Ar)]) (.cond (.t 69) (.region [oa 0 70 (.fieldA 4 (.t 9)),xA 1 71 (.loadH none (.t 70)) (rg 1),oa 2 72 (.fieldA 2 (.t 3)),xA 3 73 (.loadB 0 none (.t 72)) [2],oa 4 74 (.fieldA 3 (.t 10)),xA 5 75 (.loadH none (.t 74)) [4],xA 6 76 (.indexA 1 (.t 73) (.t 75)) [2,3,4,5],xA 7 77 (.loadH none (.t 76)) [2,3,4,5,6],xF 8 78 JM [(.t 71),(.t 77)] (rg 8),xA 9 11 (.mv (.t 78)) (rg 9)]) .skip)) (.seq [11,9,6,3] (.region [om 0 79 11,oa 1 80 (.fieldA 4 (.t 9)),oa 2 81 (.loadH none (.t 80)),oF 3 82 EO [(.t 81)],⟨4,some 83,.a false (.litSlice 2 1 [Ab,.nils] [(0,2,(.t 82))]) (some (.cons (.int .i64) (.one (.sl (.one (.int .i64)))))),none,[]⟩,oa 5 84 (.app 2 (.t 79) (.t 83)),om 6 11 84]) (.seq [8,7,6] (.region [oa 0 85 (.loadH (some 7) (.t 9)),oa 1 86 (.fieldA 4 (.t 3)),xA 2 87 (.loadB 0 none (.t 86)) [1],on 4 89 11,xF 3 88 EO [(.t 87)] [1,2],xF 5 90 HS [(.t 88),(.t 89)] [1,2,3,4],⟨6,none,.clm (.t 9) 85 (.storeB 1 7 (.t 6) (.t 85)),none,[0,1,2,3,4,5]⟩,xA 7 7 (.mv (.t 90)) (rg 7),xA 8 8 (.mv A7) (rg 8)]) .ret)))))))))))
def Kq:Fn:=⟨⟨3,91,2,false,[.cell 6 (some 7),.tmp 7,.tmp 8],uc⟩,[.agg [AD,(.frz,.sl (.one (.sl BS))),(.frz,.sl (.one (.sl BV))),AD,(.frz,.sl BE),AD,(.frz,.bool)],.one .frz (.int .i64),.one .frz (.bool)],.tup [.agg [Au,(.own,.sl (.one (.sl BS))),(.own,.sl (.one (.sl BV))),Au,(.own,.sl BE),Au,(.own,.bool)],.one .own (.sl (.cons (.int .i64) (.one (.sl (.one (.int .i64)))))),.one .own (.bool)]⟩
theorem sZ:Kq.A:=A8 ⟨Yk,F6,eV,YM,pJ,qa,sI,td,p8,nj,Qe,Qe,dE,trivial⟩
def Ln:E6->B8×E3×Bool:=Kq.V
def Oo:E6->Prop:=Kq.O
theorem tl:Kq.B:=Ba ⟨Yd,F8,eE,YF,oT,pV,sj,ta,oY,nt,Qh,Qh,dC,trivial⟩ (by kernel_rfl) (λ x=>by kernel_rfl)
end
section
set_option maxRecDepth 100000
theorem rG (x):QH x=(x.1,(lApp [] x.2)):=(Kh.v x).trans (by kernel_rfl)
theorem sE (x):YE x=(As (((List.length ([]:List Int))+(List.length x.2))*1)):=(Kh.o x).trans (by kernel_rfl)
def Te(x:Jw)(x0:LS):Bool:=(iLt x0.2.1 (lLen x.2))
def Tf(x:Jw)(x0:LS):LS:=((bSel (bNot (NL (x0.2.2,(lGet x.2 (iNat x0.2.1) (0,[]))))) (lApp x0.1 [(QH (lGet x.2 (iNat x0.2.1) (0,[])))]) x0.1),(iAdd .i64 x0.2.1 1),(lGet x.2 (iNat x0.2.1) (0,[])))
def XI(x:Jw)(x0:LS):Prop:=(((iLt x0.2.1 (lLen x.2))=true->(((((0:Int)<=x0.2.1)/\(x0.2.1<(((List.length x.2):Int))))/\(((iNat x0.2.1)<(List.length x.2))/\((Tp (x0.2.2,(lGet x.2 (iNat x0.2.1) (0,[]))))/\(((bNot (NL (x0.2.2,(lGet x.2 (iNat x0.2.1) (0,[])))))=true->((((0:Int)<=x0.2.1)/\(x0.2.1<(((List.length x.2):Int))))/\(((iNat x0.2.1)<(List.length x.2))/\((YE (lGet x.2 (iNat x0.2.1) (0,[])))/\(As (((List.length x0.1)+(List.length [(QH (lGet x.2 (iNat x0.2.1) (0,[])))]))*2))))))/\((bNot (NL (x0.2.2,(lGet x.2 (iNat x0.2.1) (0,[])))))=false->True)))))/\((((0:Int)<=x0.2.1)/\(x0.2.1<(((List.length x.2):Int))))/\((iNat x0.2.1)<(List.length x.2)))))/\((iLt x0.2.1 (lLen x.2))=false->True))
theorem oB (x):Qd x=(Al (Te x) (Tf x) ([],0,x.1)).1:=(HS.v x).trans (by kernel_rfl)
theorem oJ (x):P9 x=(LoopOk (Te x) (Tf x) (XI x) ([],0,x.1)):=(HS.o x).trans (by kernel_rfl)
theorem qJ (x):QE x=(bSel (bOr (bNot (F4 x.1)) (iLt (Fj x) 0)) ((0,[],[],0,[],0,false),[],false) (((DI x.1).1,(DI x.1).2.1,(DI x.1).2.2.1,(DI x.1).2.2.2.1,(Dk ((DI x.1).2.2.2.2.1,(Fj x))),(DI x.1).2.2.2.2.2),(Qd ((Bb x.1.2.2.2.2.1),[(Bb (Dk ((DI x.1).2.2.2.2.1,(Fj x))))])),true)):=(J8.v x).trans (by kernel_rfl)
theorem ru (x):Qx x=((QC x)/\((NU x.1)/\(((bOr (bNot (F4 x.1)) (iLt (Fj x) 0))=true->True)/\((bOr (bNot (F4 x.1)) (iLt (Fj x) 0))=false->((Oc x.1)/\((Mm ((DI x.1).2.2.2.2.1,(Fj x)))/\((Lb x.1.2.2.2.2.1)/\((Lb (Dk ((DI x.1).2.2.2.2.1,(Fj x))))/\((P9 ((Bb x.1.2.2.2.2.1),[(Bb (Dk ((DI x.1).2.2.2.2.1,(Fj x))))]))/\(((List.length (DI x.1).2.1)=(List.length (DI x.1).2.1))/\(((List.length (DI x.1).2.2.1)=(List.length (DI x.1).2.2.1))/\((List.length (Dk ((DI x.1).2.2.2.2.1,(Fj x))))=(List.length (Dk ((DI x.1).2.2.2.2.1,(Fj x)))))))))))))))):=(J8.o x).trans (by kernel_rfl)
theorem nQ (x):B4 x=((HQ (x.1,x.2.1)).1,(HQ (x.1,x.2.1)).2,(Mn x.2.2.1),x.2.2.2):=(JU.v x).trans (by kernel_rfl)
theorem n8 (x):P4 x=((P3 (x.1,x.2.1))/\((P6 x.2.2.1)/\(As ((List.length x.2.2.2.2.1)*5)))):=(JU.o x).trans (by kernel_rfl)
def SX(x:Jw)(x0:LS):Bool:=(iLt x0.2.1 (lLen x.2))
def SW(x:Jw)(x0:LS):LS:=((bSel (bNot (FH (x0.2.2,(lGet x.2 (iNat x0.2.1) (0,[]))))) (lApp x0.1 [(lGet x.2 (iNat x0.2.1) (0,[]))]) x0.1),(iAdd .i64 x0.2.1 1),(bSel (bNot (FH (x0.2.2,(lGet x.2 (iNat x0.2.1) (0,[]))))) (lGet x.2 (iNat x0.2.1) (0,[])).1 (lGet x.2 (iNat x0.2.1) (0,[])).1),(bSel (bNot (FH (x0.2.2,(lGet x.2 (iNat x0.2.1) (0,[]))))) (lGet x.2 (iNat x0.2.1) (0,[])).2 (lGet x.2 (iNat x0.2.1) (0,[])).2))
def XF(x:Jw)(x0:LS):Prop:=(((iLt x0.2.1 (lLen x.2))=true->((((0:Int)<=x0.2.1)/\(x0.2.1<(((List.length x.2):Int))))/\(((iNat x0.2.1)<(List.length x.2))/\((NG (x0.2.2,(lGet x.2 (iNat x0.2.1) (0,[]))))/\(((bNot (FH (x0.2.2,(lGet x.2 (iNat x0.2.1) (0,[])))))=true->(As (((List.length x0.1)+(List.length [(lGet x.2 (iNat x0.2.1) (0,[]))]))*2)))/\((bNot (FH (x0.2.2,(lGet x.2 (iNat x0.2.1) (0,[])))))=false->True))))))/\((iLt x0.2.1 (lLen x.2))=false->True))
theorem nb (x):PZ x=(Al (SX x) (SW x) ([],0,x.1)).1:=(HN.v x).trans (by kernel_rfl)
theorem na (x):PY x=(LoopOk (SX x) (SW x) (XF x) ([],0,x.1)):=(HN.o x).trans (by kernel_rfl)
theorem qH (x):Ub x=(((B4 x.1).1,(B4 x.1).2.1,(B4 x.1).2.2.1,(B4 x.1).2.2.2.1,(lApp (lTake (B4 x.1).2.2.2.2.1 (lN (lSub (B4 x.1).2.2.2.2.1 0 (iNat (Cj x))))) (lSub (B4 x.1).2.2.2.2.1 (iNat (iAdd .i64 (Cj x) 1)) (lN (B4 x.1).2.2.2.2.1))),(B4 x.1).2.2.2.2.2),(PZ ((BL x.1.2.2.2.2.1),[(BL (lApp (lTake (B4 x.1).2.2.2.2.1 (lN (lSub (B4 x.1).2.2.2.2.1 0 (iNat (Cj x))))) (lSub (B4 x.1).2.2.2.2.1 (iNat (iAdd .i64 (Cj x) 1)) (lN (B4 x.1).2.2.2.2.1))))]))):=(Kc.v x).trans (by kernel_rfl)
theorem qu (x):Ys x=((P4 x.1)/\((Oh x)/\((((0:Int)<=(Cj x))/\((0<=(iNat (Cj x)))/\(((iNat (Cj x))<=(List.length (B4 x.1).2.2.2.2.1))/\(0<(List.length (B4 x.1).2.2.2.2.1)))))/\((((0:Int)<=(iAdd .i64 (Cj x) 1))/\(((iNat (iAdd .i64 (Cj x) 1))<=(lN (B4 x.1).2.2.2.2.1))/\(((lN (B4 x.1).2.2.2.2.1)<=(List.length (B4 x.1).2.2.2.2.1))/\(0<(List.length (B4 x.1).2.2.2.2.1)))))/\(((0<(List.length (B4 x.1).2.2.2.2.1))/\(((List.length (lSub (B4 x.1).2.2.2.2.1 0 (iNat (Cj x))))<=(List.length (B4 x.1).2.2.2.2.1))/\(As (((List.length (lSub (B4 x.1).2.2.2.2.1 0 (iNat (Cj x))))+(List.length (lSub (B4 x.1).2.2.2.2.1 (iNat (iAdd .i64 (Cj x) 1)) (lN (B4 x.1).2.2.2.2.1))))*5))))/\((JY x.1.2.2.2.2.1)/\((JY (lApp (lTake (B4 x.1).2.2.2.2.1 (lN (lSub (B4 x.1).2.2.2.2.1 0 (iNat (Cj x))))) (lSub (B4 x.1).2.2.2.2.1 (iNat (iAdd .i64 (Cj x) 1)) (lN (B4 x.1).2.2.2.2.1))))/\(PY ((BL x.1.2.2.2.2.1),[(BL (lApp (lTake (B4 x.1).2.2.2.2.1 (lN (lSub (B4 x.1).2.2.2.2.1 0 (iNat (Cj x))))) (lSub (B4 x.1).2.2.2.2.1 (iNat (iAdd .i64 (Cj x) 1)) (lN (B4 x.1).2.2.2.2.1))))]))))))))):=(Kc.o x).trans (by kernel_rfl)
theorem qO (x):N9 x=(bSel (bOr (bNot (Ea x.1)) (iLt (Cj x) 0)) ((0,[],[],0,[],0,false),[],false) ((Ub x).1,(Ub x).2,true)):=(Kf.v x).trans (by kernel_rfl)
theorem qR (x):Qy x=(((NV x.1)/\(((bNot (Ea x.1))=true->True)/\((bNot (Ea x.1))=false->(Oh x))))/\(((bOr (bNot (Ea x.1)) (iLt (Cj x) 0))=true->True)/\((bOr (bNot (Ea x.1)) (iLt (Cj x) 0))=false->(Ys x)))):=(Kf.o x).trans (by kernel_rfl)
theorem oh (x):IX x=(bOr (BD (x,1,36)) (bOr (iEq x 39) (iEq x 42))):=(JR.v x).trans (by kernel_rfl)
theorem nV (x):XK x=(Ec (x,1,36)):=(JR.o x).trans (by kernel_rfl)
theorem tv (x):QQ x=((x.2.2.1,x.2.2.2.1,(bSel (bAnd (bAnd (bNot (bNot (IX x.2.2.2.1))) x.1.2.2.2.2.2.2) (bAnd (iLe x.2.2.2.1 26) (iEq (iAndNot .i64 (iOr .i64 x.2.2.2.2.1 x.1.2.2.2.2.2.1) 2) 0))) 2 (iOr .i64 x.2.2.2.2.1 x.1.2.2.2.2.2.1)),x.2.2.2.2.2),x.1.1,x.1.2.1,x.1.2.2.1,x.1.2.2.2.1,x.1.2.2.2.2.1,0,(bAnd (bNot (bNot (IX x.2.2.2.1))) x.1.2.2.2.2.2.2)):=by unfold QQ;exact(congrFun (shut _).2 x).trans (by kernel_rfl)
theorem tD (x):QL x=(XK x.2.2.2.1):=by unfold QL;exact(congrFun (shut _).2 x).trans (by kernel_rfl)
theorem p5 (x):N0 x=(bSel (bOr (bNot (iEq x.2.2.1 2)) (bNot (iGt x.2.2.2.1 0))) (x.2.2,x.1.1,x.1.2.1,x.1.2.2.1,(bSel (iEq x.2.2.1 2) x.1.2.2.2.1 (bSel (iEq x.2.2.1 4) (iXor .i64 x.1.2.2.2.1 (iShl .i64 1 x.2.2.2.2.2)) (bSel (iEq x.2.2.1 5) (iAndNot .i64 (iShl .i64 1 x.2.2.2.2.2) 1) x.1.2.2.2.1))),x.1.2.2.2.2.1,(bSel (iEq x.2.2.1 2) x.1.2.2.2.2.2.1 (bSel (iEq x.2.2.1 4) x.1.2.2.2.2.2.1 (bSel (iEq x.2.2.1 5) x.1.2.2.2.2.2.1 (bSel (iEq x.2.2.1 8) (bSel (iEq (iAnd .i64 x.1.2.2.2.2.2.1 x.2.2.2.2.1) x.2.2.2.2.1) (iAndNot .i64 x.1.2.2.2.2.2.1 x.2.2.2.2.1) (iOr .i64 x.1.2.2.2.2.2.1 x.2.2.2.2.1)) x.1.2.2.2.2.2.1)))),(bSel (iEq x.2.2.1 2) x.1.2.2.2.2.2.2 (bSel (iEq x.2.2.1 4) x.1.2.2.2.2.2.2 (bSel (iEq x.2.2.1 5) x.1.2.2.2.2.2.2 (bSel (iEq x.2.2.1 8) x.1.2.2.2.2.2.2 (bSel (iEq x.2.2.1 10) (bNot x.1.2.2.2.2.2.2) x.1.2.2.2.2.2.2)))))) (QQ x)):=by unfold N0;exact(congrFun (shut _).2 x).trans (by kernel_rfl)
theorem o9 (x):NQ x=(((iEq x.2.2.1 2)=true->(((iGt x.2.2.2.1 0)=true->(QL x))/\((iGt x.2.2.2.1 0)=false->True)))/\((iEq x.2.2.1 2)=false->(((iEq x.2.2.1 4)=true->((0:Int)<=x.2.2.2.2.2))/\((iEq x.2.2.1 4)=false->(((iEq x.2.2.1 5)=true->((0:Int)<=x.2.2.2.2.2))/\((iEq x.2.2.1 5)=false->True)))))):=by unfold NQ;exact(congrFun (shut _).2 x).trans (by kernel_rfl)
def Lc(x:E6):=BD (x.2.1,0,(iSub .i64 x.1.1 1))
def Ci(x:E6):=TU ((x.1.1,x.1.2.1),(Qu (x.1.2.2.2.1,x.1.2.2.2.2.1)),x.2.1)
def BJ(x:E6):=N0 ((DI x.1),((bSel x.2.2 (DH (Ci x)).1 (DJ (Ci x)).1),(bSel x.2.2 (DH (Ci x)).2.1 (DJ (Ci x)).2.1),(bSel x.2.2 (DH (Ci x)).2.2.1 (DJ (Ci x)).2.2.1),(bSel x.2.2 (DH (Ci x)).2.2.2 (DJ (Ci x)).2.2.2)),(bSel x.2.2 (DH (Ci x)).1 (DJ (Ci x)).1),(bSel x.2.2 (DH (Ci x)).2.1 (DJ (Ci x)).2.1),(bSel x.2.2 (DH (Ci x)).2.2.1 (DJ (Ci x)).2.2.1),(bSel x.2.2 (DH (Ci x)).2.2.2 (DJ (Ci x)).2.2.2))
def QA(x:E6):=Bb (lApp (BJ x).2.2.2.2.2.1 [(x.2.1,(BJ x).1)])
def Qs(x:E6):=Fe ((lApp (BJ x).2.2.2.2.2.1 [(x.2.1,(BJ x).1)]),(lGet x.1.2.2.1 (iNat (BJ x).1.2.2.2) []))
theorem fD (x):Ln x=(bSel (bOr (bNot (F4 x.1)) (bOr (bNot (Lc x)) (iGe (Fj (x.1,x.2.1)) 0))) ((0,[],[],0,[],0,false),[],false) (((BJ x).2.1,(BJ x).2.2.1,(BJ x).2.2.2.1,(BJ x).2.2.2.2.1,(lApp (BJ x).2.2.2.2.2.1 [(x.2.1,(BJ x).1)]),(BJ x).2.2.2.2.2.2),(Qd ((Bb x.1.2.2.2.2.1),(lApp (bSel (bAnd (iEq (BJ x).1.1 9) (iLt (BJ x).1.2.2.2 (lLen x.1.2.2.1))) (Qs x) []) [(QA x)]))),true)):=(Kq.v x).trans (by kernel_rfl)
theorem fv (x):Oo x=(((NU x.1)/\(((bNot (F4 x.1))=true->True)/\((bNot (F4 x.1))=false->((Ec (x.2.1,0,(iSub .i64 x.1.1 1)))/\(((bNot (Lc x))=true->True)/\((bNot (Lc x))=false->(QC (x.1,x.2.1))))))))/\(((bOr (bNot (F4 x.1)) (bOr (bNot (Lc x)) (iGe (Fj (x.1,x.2.1)) 0)))=true->True)/\((bOr (bNot (F4 x.1)) (bOr (bNot (Lc x)) (iGe (Fj (x.1,x.2.1)) 0)))=false->((Oc x.1)/\((TP (x.1.2.2.2.1,x.1.2.2.2.2.1))/\((TK ((x.1.1,x.1.2.1),(Qu (x.1.2.2.2.1,x.1.2.2.2.2.1)),x.2.1))/\(((x.2.2=true->(Uo (Ci x)))/\(x.2.2=false->(UC (Ci x))))/\((NQ ((DI x.1),((bSel x.2.2 (DH (Ci x)).1 (DJ (Ci x)).1),(bSel x.2.2 (DH (Ci x)).2.1 (DJ (Ci x)).2.1),(bSel x.2.2 (DH (Ci x)).2.2.1 (DJ (Ci x)).2.2.1),(bSel x.2.2 (DH (Ci x)).2.2.2 (DJ (Ci x)).2.2.2)),(bSel x.2.2 (DH (Ci x)).1 (DJ (Ci x)).1),(bSel x.2.2 (DH (Ci x)).2.1 (DJ (Ci x)).2.1),(bSel x.2.2 (DH (Ci x)).2.2.1 (DJ (Ci x)).2.2.1),(bSel x.2.2 (DH (Ci x)).2.2.2 (DJ (Ci x)).2.2.2)))/\((As (((List.length (BJ x).2.2.2.2.2.1)+(List.length [(x.2.1,(BJ x).1)]))*5))/\((((bAnd (iEq (BJ x).1.1 9) (iLt (BJ x).1.2.2.2 (lLen x.1.2.2.1)))=true->((((0:Int)<=(BJ x).1.2.2.2)/\((BJ x).1.2.2.2<(((List.length x.1.2.2.1):Int))))/\(((iNat (BJ x).1.2.2.2)<(List.length x.1.2.2.1))/\(NC ((lApp (BJ x).2.2.2.2.2.1 [(x.2.1,(BJ x).1)]),(lGet x.1.2.2.1 (iNat (BJ x).1.2.2.2) []))))))/\((bAnd (iEq (BJ x).1.1 9) (iLt (BJ x).1.2.2.2 (lLen x.1.2.2.1)))=false->True))/\((Lb (lApp (BJ x).2.2.2.2.2.1 [(x.2.1,(BJ x).1)]))/\((As (((List.length (bSel (bAnd (iEq (BJ x).1.1 9) (iLt (BJ x).1.2.2.2 (lLen x.1.2.2.1))) (Qs x) []))+(List.length [(QA x)]))*2))/\((Lb x.1.2.2.2.2.1)/\((P9 ((Bb x.1.2.2.2.2.1),(lApp (bSel (bAnd (iEq (BJ x).1.1 9) (iLt (BJ x).1.2.2.2 (lLen x.1.2.2.1))) (Qs x) []) [(QA x)])))/\(((List.length (BJ x).2.2.1)=(List.length (BJ x).2.2.1))/\(((List.length (BJ x).2.2.2.1)=(List.length (BJ x).2.2.2.1))/\((List.length (lApp (BJ x).2.2.2.2.2.1 [(x.2.1,(BJ x).1)]))=(List.length (lApp (BJ x).2.2.2.2.2.1 [(x.2.1,(BJ x).1)]))))))))))))))))))):=(Kq.o x).trans (by kernel_rfl)
@[irreducible] def Ml(x:Int):Bool:=(bSel (iGe x 1) (bOr (iLe x 36) (bOr (iEq x 39) (iEq x 42))) (bOr (iEq x 39) (iEq x 42)))
@[irreducible] def dx(x:Int):Prop:=True
@[irreducible] def YT(x:PD):CI×B8:=(bSel (bOr (bNot (iEq x.2.2.1 2)) (bNot (iEq x.2.2.2.1 0))) ((x.2.2.1,x.2.2.2.1,(bSel (iEq x.2.2.1 2) (bSel (bAnd (bAnd x.1.2.2.2.2.2.2 (Ml x.2.2.2.1)) (bAnd (iLe x.2.2.2.1 26) (iEq (iAndNot .i64 (iOr .i64 x.2.2.2.2.1 x.1.2.2.2.2.2.1) 2) 0))) 2 (iOr .i64 x.2.2.2.2.1 x.1.2.2.2.2.2.1)) x.2.2.2.2.1),x.2.2.2.2.2),x.1.1,x.1.2.1,x.1.2.2.1,(bSel (iEq x.2.2.1 2) x.1.2.2.2.1 (bSel (iEq x.2.2.1 4) (iXor .i64 x.1.2.2.2.1 (iShl .i64 1 x.2.2.2.2.2)) (bSel (iEq x.2.2.1 5) (iAndNot .i64 (iShl .i64 1 x.2.2.2.2.2) 1) x.1.2.2.2.1))),x.1.2.2.2.2.1,(bSel (iEq x.2.2.1 2) (bSel (bAnd (bAnd x.1.2.2.2.2.2.2 (Ml x.2.2.2.1)) (bAnd (iLe x.2.2.2.1 26) (iEq (iAndNot .i64 (iOr .i64 x.2.2.2.2.1 x.1.2.2.2.2.2.1) 2) 0))) 0 0) (bSel (iEq x.2.2.1 4) x.1.2.2.2.2.2.1 (bSel (iEq x.2.2.1 5) x.1.2.2.2.2.2.1 (bSel (iEq x.2.2.1 8) (bSel (iEq (iAnd .i64 x.1.2.2.2.2.2.1 x.2.2.2.2.1) x.2.2.2.2.1) (iAndNot .i64 x.1.2.2.2.2.2.1 x.2.2.2.2.1) (iOr .i64 x.1.2.2.2.2.2.1 x.2.2.2.2.1)) x.1.2.2.2.2.2.1)))),(bSel (iEq x.2.2.1 2) (bSel (bAnd (bAnd x.1.2.2.2.2.2.2 (Ml x.2.2.2.1)) (bAnd (iLe x.2.2.2.1 26) (iEq (iAndNot .i64 (iOr .i64 x.2.2.2.2.1 x.1.2.2.2.2.2.1) 2) 0))) (bAnd x.1.2.2.2.2.2.2 (Ml x.2.2.2.1)) (bAnd x.1.2.2.2.2.2.2 (Ml x.2.2.2.1))) (bSel (iEq x.2.2.1 4) x.1.2.2.2.2.2.2 (bSel (iEq x.2.2.1 5) x.1.2.2.2.2.2.2 (bSel (iEq x.2.2.1 8) x.1.2.2.2.2.2.2 (bSel (iEq x.2.2.1 10) (bNot x.1.2.2.2.2.2.2) x.1.2.2.2.2.2.2)))))) (x.2.2,x.1))
@[irreducible] def YJ(x:PD):Prop:=(((iEq x.2.2.1 2)=true->(((iEq x.2.2.2.1 0)=true->True)/\((iEq x.2.2.2.1 0)=false->((x.1.2.2.2.2.2.2=true->(dx x.2.2.2.1))/\(x.1.2.2.2.2.2.2=false->True)))))/\((iEq x.2.2.1 2)=false->(((iEq x.2.2.1 4)=true->((0:Int)<=x.2.2.2.2.2))/\((iEq x.2.2.1 4)=false->(((iEq x.2.2.1 5)=true->((0:Int)<=x.2.2.2.2.2))/\((iEq x.2.2.1 5)=false->True))))))
def I8(x:E6):=N5 ((x.1.1,x.1.2.1),(El (x.1.2.2.2.1,x.1.2.2.2.2.1)),x.2.1)
def EA(x:E6):=Y9 (lGet (lGet x.1.2.1 (iNat (I8 x)) []) (iNat x.2.1) (0,0,0,0))
def ED(x:E6):=YY (lGet (lGet x.1.2.1 (iNat (I8 x)) []) (iNat x.2.1) (0,0,0,0))
def BI(x:E6):=YT ((B4 x.1),((bSel x.2.2 (ED x).1 (EA x).1),(bSel x.2.2 (ED x).2.1 (EA x).2.1),(bSel x.2.2 (ED x).2.2.1 (EA x).2.2.1),(bSel x.2.2 (ED x).2.2.2 (EA x).2.2.2)),(bSel x.2.2 (ED x).1 (EA x).1),(bSel x.2.2 (ED x).2.1 (EA x).2.1),(bSel x.2.2 (ED x).2.2.1 (EA x).2.2.1),(bSel x.2.2 (ED x).2.2.2 (EA x).2.2.2))
def Qw(x:E6):=BL (lApp (BI x).2.2.2.2.2.1 [(x.2.1,(BI x).1)])
def Qq(x:E6):=P1 ((lApp (BI x).2.2.2.2.2.1 [(x.2.1,(BI x).1)]),(lGet x.1.2.2.1 (iNat (BI x).1.2.2.2) []))
@[irreducible] def Y3(x:E6):B8×E3:=(((BI x).2.1,(BI x).2.2.1,(BI x).2.2.2.1,(BI x).2.2.2.2.1,(lApp (BI x).2.2.2.2.2.1 [(x.2.1,(BI x).1)]),(BI x).2.2.2.2.2.2),(PZ ((BL x.1.2.2.2.2.1),(lApp (bSel (bAnd (iEq (BI x).1.1 9) (iLt (BI x).1.2.2.2 (lLen x.1.2.2.1))) (Qq x) []) [(Qw x)]))))
@[irreducible] def fq(x:E6):Prop:=((P4 x.1)/\((Qk (x.1.2.2.2.1,x.1.2.2.2.2.1))/\((T9 ((x.1.1,x.1.2.1),(El (x.1.2.2.2.1,x.1.2.2.2.2.1)),x.2.1))/\((((0:Int)<=(I8 x))/\((I8 x)<(((List.length x.1.2.1):Int))))/\(((iNat (I8 x))<(List.length x.1.2.1))/\((((0:Int)<=x.2.1)/\(x.2.1<(((List.length (lGet x.1.2.1 (iNat (I8 x)) [])):Int))))/\(((iNat x.2.1)<(List.length (lGet x.1.2.1 (iNat (I8 x)) [])))/\(((x.2.2=true->(YH (lGet (lGet x.1.2.1 (iNat (I8 x)) []) (iNat x.2.1) (0,0,0,0))))/\(x.2.2=false->(YN (lGet (lGet x.1.2.1 (iNat (I8 x)) []) (iNat x.2.1) (0,0,0,0)))))/\((YJ ((B4 x.1),((bSel x.2.2 (ED x).1 (EA x).1),(bSel x.2.2 (ED x).2.1 (EA x).2.1),(bSel x.2.2 (ED x).2.2.1 (EA x).2.2.1),(bSel x.2.2 (ED x).2.2.2 (EA x).2.2.2)),(bSel x.2.2 (ED x).1 (EA x).1),(bSel x.2.2 (ED x).2.1 (EA x).2.1),(bSel x.2.2 (ED x).2.2.1 (EA x).2.2.1),(bSel x.2.2 (ED x).2.2.2 (EA x).2.2.2)))/\((As (((List.length (BI x).2.2.2.2.2.1)+(List.length [(x.2.1,(BI x).1)]))*5))/\((((bAnd (iEq (BI x).1.1 9) (iLt (BI x).1.2.2.2 (lLen x.1.2.2.1)))=true->((((0:Int)<=(BI x).1.2.2.2)/\((BI x).1.2.2.2<(((List.length x.1.2.2.1):Int))))/\(((iNat (BI x).1.2.2.2)<(List.length x.1.2.2.1))/\(P0 ((lApp (BI x).2.2.2.2.2.1 [(x.2.1,(BI x).1)]),(lGet x.1.2.2.1 (iNat (BI x).1.2.2.2) []))))))/\((bAnd (iEq (BI x).1.1 9) (iLt (BI x).1.2.2.2 (lLen x.1.2.2.1)))=false->True))/\((JY (lApp (BI x).2.2.2.2.2.1 [(x.2.1,(BI x).1)]))/\((As (((List.length (bSel (bAnd (iEq (BI x).1.1 9) (iLt (BI x).1.2.2.2 (lLen x.1.2.2.1))) (Qq x) []))+(List.length [(Qw x)]))*2))/\((JY x.1.2.2.2.2.1)/\((PY ((BL x.1.2.2.2.2.1),(lApp (bSel (bAnd (iEq (BI x).1.1 9) (iLt (BI x).1.2.2.2 (lLen x.1.2.2.1))) (Qq x) []) [(Qw x)])))/\(((List.length (BI x).2.2.1)=(List.length (BI x).2.2.1))/\(((List.length (BI x).2.2.2.1)=(List.length (BI x).2.2.2.1))/\((List.length (lApp (BI x).2.2.2.2.2.1 [(x.2.1,(BI x).1)]))=(List.length (lApp (BI x).2.2.2.2.2.1 [(x.2.1,(BI x).1)]))))))))))))))))))))
@[irreducible] def U9(x:E6):B8×E3×Bool:=(bSel (bOr (bNot (Ea x.1)) (bOr (iLt x.2.1 0) (bOr (iGe x.2.1 x.1.1) (iGe (Cj (x.1,x.2.1)) 0)))) ((0,[],[],0,[],0,false),[],false) ((Y3 x).1,(Y3 x).2,true))
@[irreducible] def UQ(x:E6):Prop:=(((NV x.1)/\(((bNot (Ea x.1))=true->True)/\((bNot (Ea x.1))=false->(((iLt x.2.1 0)=true->True)/\((iLt x.2.1 0)=false->(((iGe x.2.1 x.1.1)=true->True)/\((iGe x.2.1 x.1.1)=false->(Oh (x.1,x.2.1)))))))))/\(((bOr (bNot (Ea x.1)) (bOr (iLt x.2.1 0) (bOr (iGe x.2.1 x.1.1) (iGe (Cj (x.1,x.2.1)) 0))))=true->True)/\((bOr (bNot (Ea x.1)) (bOr (iLt x.2.1 0) (bOr (iGe x.2.1 x.1.1) (iGe (Cj (x.1,x.2.1)) 0))))=false->(fq x))))
attribute [irreducible] QH YE Qd P9 QE Qx B4 P4 PZ PY Ub Ys N9 Qy IX XK Ln Oo
end
section
set_option maxRecDepth 8000
def tQ:DCode:=(.seq [4,1,0] (.region [oa 0 4 (.allocB 0 [Ab,.nils,.nils,Ab,.nils,Ab,CW])]) (.seq [5,4,1,0] (.region [⟨0,some 9,.a false (.litSlice 1 0 [] []) (some (.one (.sl BV))),none,[]⟩,om 1 5 9]) (.seq [5,4,1,0] (.seq [6,5,4,1,0] (.region [om 0 10 0,op 1 11 Cb Dy EP [(.t 10),(.c (.int .i64 4))],om 2 6 11]) (.block 0 (.loop [0,1,4,5,6] 1 (.seq [6,5,4,1,0] (.seq [13,6,5,4,1,0] (.region [om 0 12 6,oa 1 13 (.bin .gtr (.t 12) AE)]) (.cond (.t 13) .skip (.exit 0))) (.seq [6,5,4,1,0] (.block 1 (.region [om 0 16 5,om 1 17 0,op 2 18 Ol QG fo [(.t 17)],⟨3,some 19,.a false (.litSlice 1 1 [.nils] [(0,1,(.t 18))]) (some (.one (.sl BV))),none,[]⟩,oa 4 20 (.app 1 (.t 16) (.t 19)),om 5 5 20])) (.region [om 0 14 6,oa 1 15 (.bin .sub (.t 14) Av),om 2 6 15])))))) (.seq [7,4] (.region [om 0 22 0,om 1 23 1,op 2 24 On QM fm [(.t 22),(.t 23)],on 3 25 5,oF 4 26 J0 [(.t 24),(.t 25)],om 5 21 26,oa 6 27 (.extract (.t 21) 0),oa 7 28 (.extract (.t 21) 1),oa 8 7 (.allocB 1 [Ab,.nils,.nils,Ab,.nils,Ab,CW]),os 9 (.storeB 1 7 (.t 7) (.t 27)),om 10 8 28]) (.seq [4] (.region [ob 0 29 (.loadB 1 (some 7) (.t 7)),os 1 (.storeB 0 7 (.t 4) (.t 29))]) .ret)))))
def Lj:DFun:=⟨2,30,2,false,[.cell 4 (some 7)],tQ⟩
@[irreducible] def Oz:Bc:=EZ Lj.er.er
@[irreducible] def QS:Cf:=Db Lj.er
theorem ud:Eg Oz QS:=by unfold Oz QS;exact Gb (f:=Lj.er) ⟨Fh,r9,rD,oC,trivial⟩
def U3:List HT:=[.one .frz (.int .i64)]
def U5:List (Ql×CT):=[(.frz,.sl (.one (.int .u8))),Au,Au]
def Va:QT:=.one (.agg [Au,(.own,.sl (.one (.sl BS))),(.own,.sl (.one (.sl BV))),Au,(.own,.sl BE),Au,(.own,.bool)])
@[irreducible] def AM(x:Cw):B8×A0:=(shut λ x=>HK Lj U3 U5 Va x).1 x
@[irreducible] def Om(x:Cw):Prop:=(shut λ x=>HA Lj U3 U5 Va x).1 x
def fF:CO:=Im U3 U5 Va Om AM
theorem tS:D2 QS fF:=by unfold QS;exact Ks (f:=Lj) (hs:=U3) (cs:=U5) (q:=Va) ⟨Fg,sB,rV,oL,trivial⟩ (by kernel_rfl) (λ x=>by kernel_rfl) (λ x h=>by unfold Om at h;exact Eq.mp (congrFun (shut _).2 x) h) (λ x=>by unfold AM;exact(congrFun (shut _).2 x).symm)
def sm:DCode:=(.seq [4,1,0] (.region [oa 0 4 (.allocB 0 [Ab,.nils,.nils,Ab,.nils,Ab,CW])]) (.seq [5,4,1,0] (.region [om 0 11 0,om 1 12 1,op 2 13 Oz QS fF [(.t 11),(.t 12)],oa 3 5 (.allocB 1 [Ab,.nils,.nils,Ab,.nils,Ab,CW]),os 4 (.storeB 1 7 (.t 5) (.t 13))]) (.seq [5,4] (.seq [6,5,4,1,0] (.region [om 0 14 0,op 1 15 Cb Dy EP [(.t 14),(.c (.int .i64 8))],om 2 6 15]) (.block 0 (.loop [0,1,4,5,6] 1 (.seq [6,5,4,1,0] (.seq [17,6,5,4,1,0] (.region [om 0 16 6,oa 1 17 (.bin .gtr (.t 16) AE)]) (.cond (.t 17) .skip (.exit 0))) (.seq [6,5,4,1,0] (.scope (.block 1 (.seq [7,6,5,4,1,0] (.region [om 0 20 0,om 1 21 1,op 2 22 Cb Dy EP [(.t 20),(.t 21)],om 3 7 22]) (.seq [10,8,7,6,5,4,1,0] (.region [oa 9 8 (.allocH [Ab,.nils,.nils,Ab,.nils,Ab,CW]),oa 0 24 (.loadB 1 (some 7) (.t 5)),om 1 25 7,om 2 26 0,xP 3 27 Hj Ja eX [(.t 26),(.c (.int .i64 2))] [2],xF 4 28 Kq [(.t 24),(.t 25),(.t 27)] (rg 4),xA 5 23 (.mv (.t 28)) (rg 5),xA 6 29 (.extract (.t 23) 0) (rg 6),xA 7 30 (.extract (.t 23) 1) [0,1,2,3,4,5],xA 8 31 (.extract (.t 23) 2) [0,1,2,3,4,5],xS 10 (.storeH 7 (.t 8) (.t 29)) [0,1,2,3,4,5,6,9],xB 11 9 (.mv (.t 30)) [0,1,2,3,4,5,6,7,9,10],xA 12 10 (.mv (.t 31)) (rg 12)]) (.seq [8,6,5,4,1,0] (.seq [33,8,7,6,5,4,1,0] (.region [om 0 32 10,oa 1 33 (.un .not (.t 32))]) (.cond (.t 33) (.region [oa 0 35 (.loadB 1 (some 7) (.t 5)),om 1 36 7,oF 2 37 J8 [(.t 35),(.t 36)],om 3 34 37,oa 4 38 (.extract (.t 34) 0),oa 5 39 (.extract (.t 34) 1),oa 6 40 (.extract (.t 34) 2),os 7 (.storeH 7 (.t 8) (.t 38))]) .skip)) (.region [ob 0 41 (.loadH (some 7) (.t 8)),os 1 (.storeB 1 7 (.t 5) (.t 41))])))))) (.region [om 0 18 6,oa 1 19 (.bin .sub (.t 18) Av),om 2 6 19])))))) (.seq [4] (.region [ob 0 42 (.loadB 1 (some 7) (.t 5)),os 1 (.storeB 0 7 (.t 4) (.t 42))]) .ret))))
def Lf:DFun:=⟨2,43,2,false,[.cell 4 (some 7)],sm⟩
@[irreducible] def Oi:Bc:=EZ Lf.er.er
@[irreducible] def QJ:Cf:=Db Lf.er
theorem sz:Eg Oi QJ:=by unfold Oi QJ;exact Gb (f:=Lf.er) ⟨ud,Fh,Fh,Ug,sZ,qB,trivial⟩
def UW:List HT:=[.one .frz (.int .i64)]
def UL:List (Ql×CT):=[(.frz,.sl (.one (.int .u8))),Au,Au]
def Uw:QT:=.one (.agg [Au,(.own,.sl (.one (.sl BS))),(.own,.sl (.one (.sl BV))),Au,(.own,.sl BE),Au,(.own,.bool)])
@[irreducible] def My(x:Cw):B8×A0:=(shut λ x=>HK Lf UW UL Uw x).1 x
@[irreducible] def N6(x:Cw):Prop:=(shut λ x=>HA Lf UW UL Uw x).1 x
def fy:CO:=Im UW UL Uw N6 My
theorem rZ:D2 QJ fy:=by unfold QJ;exact Ks (f:=Lf) (hs:=UW) (cs:=UL) (q:=Uw) ⟨tS,Fg,Fg,ql,tl,rm,trivial⟩ (by kernel_rfl) (λ x=>by kernel_rfl) (λ x h=>by unfold N6 at h;exact Eq.mp (congrFun (shut _).2 x) h) (λ x=>by unfold My;exact(congrFun (shut _).2 x).symm)
def nY:DCode:=(.seq [4,1,0] (.region [oa 0 4 (.allocB 0 [Ab,.nils,.nils,Ab,.nils,Ab,CW])]) (.seq [4] (.region [on 0 5 0,op 1 6 Ll Oq YS [(.t 5),(.c (.int .i64 7))],om 2 7 1,op 3 8 Oi QJ fy [(.t 6),(.t 7)],os 4 (.storeB 0 7 (.t 4) (.t 8))]) .ret))
def JV:Fn:=⟨⟨2,9,1,false,[.cell 4 (some 7)],nY⟩,[.one .frz (.sl (.one (.int .u8))),.one .frz (.int .i64)],.one (.agg [Au,(.own,.sl (.one (.sl BS))),(.own,.sl (.one (.sl BV))),Au,(.own,.sl BE),Au,(.own,.bool)])⟩
theorem nN:JV.A:=A8 ⟨eP,sz,trivial⟩
def Cp:Eh->Int×DW×Df×Int×Bv×Int×Bool:=JV.V
def Ti:Eh->Prop:=JV.O
theorem nX:JV.B:=Ba ⟨eC,rZ,trivial⟩ (by kernel_rfl) (λ x=>by kernel_rfl)
end
section
set_option maxRecDepth 100000
def I0(x0:Df×CR):Bool:=(iGt x0.2.1 0)
def IZ(x:Cw)(x0:Df×CR):(Df×CR):=((lApp x0.1 [(Jc (x.1.1,x0.2.2)).1]),(iSub .i64 x0.2.1 1),(Jc (x.1.1,x0.2.2)).2)
def Yx(x:Cw)(x0:Df×CR):Prop:=(((iGt x0.2.1 0)=true->((N8 (x.1.1,x0.2.2))/\(As (((List.length x0.1)+(List.length [(Jc (x.1.1,x0.2.2)).1]))*1))))/\((iGt x0.2.1 0)=false->True))
theorem tC (x):AM x=((NX ((H7 ((x.1.1,(Al I0 (IZ x) ([],(Aq (x.1,4)))).2.2),x.2)).1,(Al I0 (IZ x) ([],(Aq (x.1,4)))).1)).1,(H7 ((x.1.1,(Al I0 (IZ x) ([],(Aq (x.1,4)))).2.2),x.2)).2):=by unfold AM;exact(congrFun (shut _).2 x).trans (by kernel_rfl)
theorem tN (x):Om x=((DY (x.1,4))/\((LoopOk I0 (IZ x) (Yx x) ([],(Aq (x.1,4))))/\((N7 ((x.1.1,(Al I0 (IZ x) ([],(Aq (x.1,4)))).2.2),x.2))/\(Tu ((H7 ((x.1.1,(Al I0 (IZ x) ([],(Aq (x.1,4)))).2.2),x.2)).1,(Al I0 (IZ x) ([],(Aq (x.1,4)))).1))))):=by unfold Om;exact(congrFun (shut _).2 x).trans (by kernel_rfl)
def Ei(x:Cw):=Aq ((x.1.1,(AM x).2),8)
def Mr(x:Cw)(x0:LR):=Aq ((x.1.1,x0.2.2.2.2.2.2.2.2),x.2)
def TG(x:Cw)(x0:LR):=Oe ((x.1.1,(Mr x x0).2),(0,[],[],0,[],0,false),2)
def K9(x:Cw)(x0:LR):=QE ((x0.2.1,x0.2.2.1,x0.2.2.2.1,x0.2.2.2.2.1,x0.2.2.2.2.2.1,x0.2.2.2.2.2.2.1,x0.2.2.2.2.2.2.2.1),(Mr x x0).1)
def EN(x:Cw)(x0:LR):=Ln ((x0.2.1,x0.2.2.1,x0.2.2.2.1,x0.2.2.2.2.1,x0.2.2.2.2.2.1,x0.2.2.2.2.2.2.1,x0.2.2.2.2.2.2.2.1),(Mr x x0).1,(TG x x0).1)
def HR(x0:LR):Bool:=(iGt x0.1 0)
def HU(x:Cw)(x0:LR):LR:=((iSub .i64 x0.1 1),(bSel (bNot (EN x x0).2.2) (K9 x x0).1.1 (EN x x0).1.1),(bSel (bNot (EN x x0).2.2) (K9 x x0).1.2.1 (EN x x0).1.2.1),(bSel (bNot (EN x x0).2.2) (K9 x x0).1.2.2.1 (EN x x0).1.2.2.1),(bSel (bNot (EN x x0).2.2) (K9 x x0).1.2.2.2.1 (EN x x0).1.2.2.2.1),(bSel (bNot (EN x x0).2.2) (K9 x x0).1.2.2.2.2.1 (EN x x0).1.2.2.2.2.1),(bSel (bNot (EN x x0).2.2) (K9 x x0).1.2.2.2.2.2.1 (EN x x0).1.2.2.2.2.2.1),(bSel (bNot (EN x x0).2.2) (K9 x x0).1.2.2.2.2.2.2 (EN x x0).1.2.2.2.2.2.2),(TG x x0).2)
def X8(x:Cw)(x0:LR):Prop:=(((iGt x0.1 0)=true->((DY ((x.1.1,x0.2.2.2.2.2.2.2.2),x.2))/\((NZ ((x.1.1,(Mr x x0).2),(0,[],[],0,[],0,false),2))/\((Oo ((x0.2.1,x0.2.2.1,x0.2.2.2.1,x0.2.2.2.2.1,x0.2.2.2.2.2.1,x0.2.2.2.2.2.2.1,x0.2.2.2.2.2.2.2.1),(Mr x x0).1,(TG x x0).1))/\(((bNot (EN x x0).2.2)=true->(Qx ((x0.2.1,x0.2.2.1,x0.2.2.2.1,x0.2.2.2.2.1,x0.2.2.2.2.2.1,x0.2.2.2.2.2.2.1,x0.2.2.2.2.2.2.2.1),(Mr x x0).1)))/\((bNot (EN x x0).2.2)=false->True))))))/\((iGt x0.1 0)=false->True))
theorem sk (x):My x=(((Al HR (HU x) ((Ei x).1,(AM x).1.1,(AM x).1.2.1,(AM x).1.2.2.1,(AM x).1.2.2.2.1,(AM x).1.2.2.2.2.1,(AM x).1.2.2.2.2.2.1,(AM x).1.2.2.2.2.2.2,(Ei x).2)).2.1,(Al HR (HU x) ((Ei x).1,(AM x).1.1,(AM x).1.2.1,(AM x).1.2.2.1,(AM x).1.2.2.2.1,(AM x).1.2.2.2.2.1,(AM x).1.2.2.2.2.2.1,(AM x).1.2.2.2.2.2.2,(Ei x).2)).2.2.1,(Al HR (HU x) ((Ei x).1,(AM x).1.1,(AM x).1.2.1,(AM x).1.2.2.1,(AM x).1.2.2.2.1,(AM x).1.2.2.2.2.1,(AM x).1.2.2.2.2.2.1,(AM x).1.2.2.2.2.2.2,(Ei x).2)).2.2.2.1,(Al HR (HU x) ((Ei x).1,(AM x).1.1,(AM x).1.2.1,(AM x).1.2.2.1,(AM x).1.2.2.2.1,(AM x).1.2.2.2.2.1,(AM x).1.2.2.2.2.2.1,(AM x).1.2.2.2.2.2.2,(Ei x).2)).2.2.2.2.1,(Al HR (HU x) ((Ei x).1,(AM x).1.1,(AM x).1.2.1,(AM x).1.2.2.1,(AM x).1.2.2.2.1,(AM x).1.2.2.2.2.1,(AM x).1.2.2.2.2.2.1,(AM x).1.2.2.2.2.2.2,(Ei x).2)).2.2.2.2.2.1,(Al HR (HU x) ((Ei x).1,(AM x).1.1,(AM x).1.2.1,(AM x).1.2.2.1,(AM x).1.2.2.2.1,(AM x).1.2.2.2.2.1,(AM x).1.2.2.2.2.2.1,(AM x).1.2.2.2.2.2.2,(Ei x).2)).2.2.2.2.2.2.1,(Al HR (HU x) ((Ei x).1,(AM x).1.1,(AM x).1.2.1,(AM x).1.2.2.1,(AM x).1.2.2.2.1,(AM x).1.2.2.2.2.1,(AM x).1.2.2.2.2.2.1,(AM x).1.2.2.2.2.2.2,(Ei x).2)).2.2.2.2.2.2.2.1),(Al HR (HU x) ((Ei x).1,(AM x).1.1,(AM x).1.2.1,(AM x).1.2.2.1,(AM x).1.2.2.2.1,(AM x).1.2.2.2.2.1,(AM x).1.2.2.2.2.2.1,(AM x).1.2.2.2.2.2.2,(Ei x).2)).2.2.2.2.2.2.2.2):=by unfold My;exact(congrFun (shut _).2 x).trans (by kernel_rfl)
theorem sr (x):N6 x=((Om x)/\((DY ((x.1.1,(AM x).2),8))/\(LoopOk HR (HU x) (X8 x) ((Ei x).1,(AM x).1.1,(AM x).1.2.1,(AM x).1.2.2.1,(AM x).1.2.2.2.1,(AM x).1.2.2.2.2.1,(AM x).1.2.2.2.2.2.1,(AM x).1.2.2.2.2.2.2,(Ei x).2)))):=by unfold N6;exact(congrFun (shut _).2 x).trans (by kernel_rfl)
theorem od (x):Cp x=(My ((Jb (x.1,7)),x.2)).1:=(JV.v x).trans (by kernel_rfl)
theorem n5 (x):Ti x=((Mt (x.1,7))/\(N6 ((Jb (x.1,7)),x.2))):=(JV.o x).trans (by kernel_rfl)
attribute [irreducible] Cp Ti
end
theorem AG(a:Bool):bNot a=!a:=by simp only[Ps]
theorem Az(a b:Bool):bAnd a b=(a&&b):=by simp only[cy]
theorem AW(a b:Bool):bOr a b=(a||b):=by simp only[mJ]
theorem RB(a b:Bool):bIff a b=(a == b):=by simp only[kV]
theorem Bw{α:Type}(c:Bool)(x y:α):bSel c x y=if c=true then x else y:=by cases c<;>simp[De,CS]
theorem Bt(a b:Int):iEq a b=decide (a=b):=by
 rw[W9];by_cases h:a=b<;>simp[h]
theorem C8(a b:Int):iNe a b=!decide (a=b):=by
 rw[mH];by_cases h:a=b<;>simp[h]
theorem Ao(a b:Int):iLt a b=decide (a<b):=by simp only[my]
theorem DQ(a b:Int):iLe a b=decide (a<=b):=by simp only[mE]
theorem CG(a b:Int):iGt a b=decide (b<a):=by simp only[ma]
theorem CL(a b:Int):iGe a b=decide (b<=a):=by simp only[mg]
theorem lD(a b:dj):sEq a b=(a == b):=by simp only[mi]
theorem kZ(a b:dj):sNe a b=!(a == b):=by simp only[mI]
section
variable {α:Type}
theorem An(l:List α):lLen l=(l.length:Int):=by simp only[bU]
theorem HG(l:List α):lN l=l.length:=by simp only[SG]
theorem A3(l:List α)(j:Nat)(d:α):lGet l j d=l.getD j d:=by simp only[bB]
theorem kN(l:List α)(j:Nat)(x:α):lSet l j x=l.set j x:=by simp only[cj]
theorem Il(l:List α)(a b:Nat):lSub l a b=(l.drop a).take (b-a):=by simp only[bI]
theorem VV(l:List α)(n:Nat):lTake l n=l.take n:=by simp only[bu]
theorem BB(l m:List α):lApp l m=l++m:=by simp only[MY]
theorem kD(n:Int)(x:α):lRep n x=List.replicate n.toNat x:=by simp only[lr]
theorem Aw(a:Int):iNat a=a.toNat:=by simp only[bW]
theorem j7(a b:dj):sAdd a b=a++b:=by simp only[lS]
end
def AL(n:Int):Prop:=-9223372036854775808<=n/\n<=9223372036854775807
theorem KA{n:Int}(h:AL n):IntKind.i64.wrap n=n:=by
 obtain⟨h1,h2⟩:=h;show (if decide (n % 18446744073709551616>=9223372036854775808)=true then n % 18446744073709551616-18446744073709551616 else n % 18446744073709551616)=n;simp only[Ap];split<;>omega
theorem Bs{a b:Int}(h:AL (a+b)):iAdd .i64 a b=a+b:=by rw[lO];exact KA h
theorem EF{a b:Int}(h:AL (a-b)):iSub .i64 a b=a-b:=by rw[ln];exact KA h
theorem aB{a b:Int}(h:AL (a*b)):iMul .i64 a b=a*b:=by rw[lE];exact KA h
theorem Wg{a b:Int}(ha:0<=a):iRem a b=a % b:=by rw[l7];exact Int.tmod_eq_emod_of_nonneg ha
section
variable {X:Type} {c:X->Bool} {f:X->X} {p:X->Prop}
theorem Kv(I:X->Prop)(m:X->Nat)(h:∀ x,I x->p x/\(c x=true->I (f x)/\m (f x)<m x)){x0:X}(h0:I x0) :
 LoopOk c f p x0/\I (Al c f x0)/\c (Al c f x0)=false:=by
 have go:∀ (n:Nat) (x:X),m x<n->I x->∃ y,LoopTo c f p x y/\I y/\c y=false:=by
  intro n
  induction n with
  |zero=>intro x hm;exact absurd hm (RV _)
  | succ n ih=>
    intro x hm hI;obtain⟨h1,h2⟩:=h x hI
    cases hc:c x with
    |false=>exact⟨x,.stop h1 hc,hI,hc⟩
    | true=>
      obtain⟨h3,h4⟩:=h2 hc;obtain⟨y,h5,h6,h7⟩:=ih (f x) (by omega) h3;exact⟨y,.go h1 hc h5,h6,h7⟩
 obtain⟨y,h1,h2,h3⟩:=go _ x0 (Ww _) h0
 rw[h1.val]
 exact⟨⟨y,h1⟩,h2,h3⟩
theorem MC(I:X->Prop)(m:X->Nat)(h:∀ x,I x->c x=true->I (f x)/\m (f x)<m x){x0:X}(h0:I x0):I (Al c f x0)/\c (Al c f x0)=false:=
 (Kv (p:=λ _=>True) I m (λ x hx=>⟨trivial,h x hx⟩) h0).2
theorem Ho(n:Nat)(st:Nat->X){x0:X}(h0:st 0=x0)(hs:∀ k,k<n->p (st k)/\c (st k)=true/\f (st k)=st (k+1))(he:p (st n)/\c (st n)=false):LoopOk c f p x0/\Al c f x0=st n:=by
 have go:∀ k,k<=n->LoopTo c f p (st (n-k)) (st n):=by
  intro k
  induction k with
  |zero=>intro _;exact .stop he.1 he.2
  | succ k ih=>
    intro hk;obtain⟨h1,h2,h3⟩:=hs (n-(k+1)) (by omega);refine .go h1 h2 ?_;rw[h3,show n-(k+1)+1=n-k by omega];exact ih (by omega)
 have:=go n (BN _);rw[Nat.sub_self,h0] at this;exact⟨⟨_,this⟩,this.val⟩
end
def CP(t:Nat->Bool):Nat->Nat->Nat
 |0,i=>i
 |k+1,i=>if t i then i else CP t k (i+1)
theorem Jg(t:Nat->Bool):∀ k i,i<=CP t k i/\CP t k i<=i+k
 |0,i=>⟨BN _,BN _⟩
 | k+1,i=>by
   unfold CP
   split
   . omega
   . have:=Jg t k (i+1);omega
theorem OH(t:Nat->Bool):∀ k i,CP t k i<i+k->t (CP t k i)=true
 |0,i,h=>by unfold CP at h;omega
 | k + 1,i,h=>by
   unfold CP at h ⊢
   split
   . rename_i ht;exact ht
   . rename_i ht
     rw[Af ht] at h
     exact OH t k (i+1) (by omega)
theorem QZ(t:Nat->Bool):∀ k i j,i<=j->j<CP t k i->t j=false
 |0,i,j,h,h'=>by unfold CP at h';omega
 | k + 1,i,j,h,h'=>by
   unfold CP at h'
   split at h'
   . omega
   . rename_i ht
     by_cases hj:j=i
     . subst hj;simpa using ht
     . exact QZ t k (i+1) j (by omega) h'
theorem xU{c:Int->Bool}{f:Int->Int}{p:Int->Prop}(n:Nat)(t:Nat->Bool)(hn:(n:Int)<=9223372036854775806)(hc:∀ i:Nat,i<=n->c i=(decide (i<n)&&!t i))(hf:∀ i:Nat,i<n->f i=iAdd .i64 i 1)(hp:∀ i:Nat,i<=n->p i) :
 LoopOk c f p 0/\Al c f 0=(CP t n 0:Nat):=by
 have hle:=Jg t n 0
 refine Ho (CP t n 0) (λ k=>(k:Int)) rfl (λ k hk=>?_) ⟨hp _ (by omega),?_⟩
 . have hk':k<n:=by omega
   refine⟨hp k (by omega),?_,?_⟩
   . rw[hc k (by omega),QZ t n 0 k (by omega) hk];simp[hk']
   . rw[hf k hk',Bs (by unfold AL;omega)];omega
 . rw[hc _ (by omega)]
   by_cases h:CP t n 0<n
   . rw[OH t n 0 (by omega)];simp
   . simp[h]
theorem OD{t:Nat->Bool}{n:Nat}:CP t n 0=n↔∀ i,i<n->t i=false:=by
 constructor
 . intro h i hi;exact QZ t n 0 i (by omega) (by omega)
 . intro h;have hle:=Jg t n 0;rcases BG (CP t n 0) n with h1|h1
   . have:=OH t n 0 (by omega);rw[h _ h1] at this;cases this
   . omega
theorem RI{c:Int->Bool}{f:Int->Int}(n:Nat)(t:Nat->Bool)(hn:(n:Int)<=9223372036854775806)(hc:∀ i:Nat,i<=n->c i=(decide (i<n)&&!t i))(hf:∀ i:Nat,i<n->f i=iAdd .i64 i 1):Al c f 0=(CP t n 0:Nat):=(xU (p:=λ _=>True) n t hn hc hf (λ _ _=>trivial)).2
theorem DP{α:Type}(x:List α)(i:Nat)(d:α)(h:i<x.length):x.getD i d∈x:=by
 rw[D3,Bg h];exact Gn h
theorem Iu{X:Type}{c:X->Bool}{f:X->X}{p:X->Prop}(ix:X->Int)(n:Int)(hn:n<=9223372036854775806)(hc:∀ x,0<=ix x->ix x<=n->c x=true->ix x<n)(hf:∀ x,ix (f x)=iAdd .i64 (ix x) 1)(hp:∀ x,0<=ix x->ix x<=n->p x){x0:X}(h0:0<=ix x0)(h1:ix x0<=n):LoopOk c f p x0:=by
 refine(Kv (λ x=>0<=ix x/\ix x<=n) (λ x=>(n-ix x).toNat) (λ x hI=>⟨hp x hI.1 hI.2,λ hcc=>?_⟩) ⟨h0,h1⟩).1;have:=hc x hI.1 hI.2 hcc;obtain⟨k1,k2⟩:=hI;have e:=hf x;rw[Bs (by unfold AL;omega)] at e;refine⟨by omega,by omega⟩
theorem iW{c:Int->Bool}{f:Int->Int}{n:Nat}(h:¬ Al c f 0<(n:Int))(hn:(n:Int)<=9223372036854775806)(hc:∀ i:Nat,i<=n->c i=true->i<n)(hf:∀ i:Nat,i<n->f i=iAdd .i64 i 1):∀ i:Nat,i<n->c i=true:=by
 have hv:=RI (c:=c) (f:=f) n (λ i=>!c i) hn (λ i hi=>by
  by_cases h1:i<n
  . simp[h1]
  . cases h2:c i with
    |false=>simp[h1]
    |true=>exact absurd (hc i hi h2) h1) hf
 rw[hv] at h;have hle:=Jg (λ i=>!c i) n 0
 have e:CP (λ i=>!c i) n 0=n:=by omega
 intro i hi;have:=OD.1 e i hi;simpa using this
def ZN(_:Int×Int×Int×Int):Prop:=True
def Zal(x:E0):Prop:=ZN (x.2.1,x.2.2.1,x.2.2.2.1,x.2.2.2.2)/\True
def O2(x:Bv):Prop:=x.length<=1048576/\∀ a∈x,Zal a
def vQ(x:G5):Prop:=x.length<=1048576/\∀ a∈x,ZN a
def Zc(x:DW):Prop:=x.length<=1048576/\∀ a∈x,vQ a
def Gd(x:CV):Prop:=Zc x.2/\True
theorem au {X Y:Type} {c:X->Bool} {f:X->X} {p:X->Prop} {d:Y->Bool} {g:Y->Y} {q:Y->Prop} (R:X->Y->Prop) (m:X->Nat)
 (h:∀ x y,R x y->p x/\q y/\c x=d y/\(c x=true->R (f x) (g y)/\m (f x)<m x)) {x0:X} {y0:Y} (h0:R x0 y0) :
 LoopOk c f p x0/\LoopOk d g q y0/\R (Al c f x0) (Al d g y0)/\c (Al c f x0)=false:=by
 have go:∀ (n:Nat) (x:X) (y:Y),m x<n->R x y->∃ u v,LoopTo c f p x u/\LoopTo d g q y v/\R u v/\c u=false:=by
  intro n
  induction n with
  |zero=>intro x y hm;exact absurd hm (RV _)
  | succ n ih=>
    intro x y hm hR;obtain⟨h1,h2,h3,h4⟩:=h x y hR
    cases hc:c x with
    |false=>exact⟨x,y,.stop h1 hc,.stop h2 (by rw[<- h3];exact hc),hR,hc⟩
    | true=>
      obtain⟨h5,h6⟩:=h4 hc;obtain⟨u,v,a1,a2,a3,a4⟩:=ih _ _ (by omega) h5;exact⟨u,v,.go h1 hc a1,.go h2 (by rw[<- h3];exact hc) a2,a3,a4⟩
 obtain⟨u,v,a1,a2,a3,a4⟩:=go _ x0 y0 (Ww _) h0
 exact⟨⟨_,a1⟩,⟨_,a2⟩,by rw[a1.val,a2.val];exact a3,by rw[a1.val];exact a4⟩
theorem O6{X:Type}{c:X->Bool}{f:X->X}{p:X->Prop}(I:X->Prop)(m:X->Nat)(h:∀ x,I x->p x/\(c x=true->I (f x)/\m (f x)<m x)){x0:X}(h0:I x0) :
 LoopOk c f p x0/\I (Al c f x0)/\c (Al c f x0)=false:=Kv I m h h0
theorem ZaC{X:Type}{c:X->Bool}{f:X->X}{p:X->Prop}(n:Nat)(st:Nat->X)(t:Nat->Bool){x0:X}(h0:st 0=x0)(hc:∀ i,i<=n->(∀ j,j<i->t j=true)->c (st i)=(decide (i<n)&&t i))(hf:∀ i,i<n->(∀ j,j<=i->t j=true)->f (st i)=st (i+1))(hp:∀ i,i<=n->(∀ j,j<i->t j=true)->p (st i)) :
 LoopOk c f p x0/\∃ k,k<=n/\Al c f x0=st k/\(k=n↔∀ i,i<n->t i=true):=by
 have hle:=Jg (λ i=>!t i) n 0
 have hno:∀ j,j<CP (λ i=>!t i) n 0->t j=true:=λ j hj=>by
  have:=QZ (λ i=>!t i) n 0 j (by omega) hj;simpa using this
 have:=Ho (c:=c) (f:=f) (p:=p) (CP (λ i=>!t i) n 0) st h0 (λ k hk=>by
  refine⟨hp k (by omega) (λ j hj=>hno j (by omega)),?_,hf k (by omega) (λ j hj=>hno j (by omega))⟩;rw[hc k (by omega) (λ j hj=>hno j (by omega)),hno k hk]
  have:k<n:=by omega
  simp[this]) ⟨hp _ (by omega) hno,by
  rw[hc _ (by omega) hno];by_cases h:CP (λ i=>!t i) n 0<n
  . have:=OH (λ i=>!t i) n 0 (by omega);simp only[BA] at this;rw[this];simp
  . simp[h]⟩
 refine⟨this.1,_,by omega,this.2,?_⟩
 rw[OD]
 simp
theorem Jh{α:Type}(x:List α)(d:α){i:Nat}(h:i<x.length):x.take i++[x.getD i d]=x.take (i+1):=by
 rw[List.take_add_one,D3,Bg h];rfl
theorem al {α:Type} {c:Int×List α->Bool} {f:Int×List α->Int×List α} {p:Int×List α->Prop} (x:List α) (d:α) (hl:x.length<=1048576)
 (hc:∀ (i:Nat) (l:List α),c ((i:Int),l)=decide (i<x.length)) (hf:∀ (i:Nat) (l:List α),i<x.length->f ((i:Int),l)=(iAdd .i64 (i:Int) 1,l++[x.getD i d])) (hp:∀ (i:Nat) (l:List α),i<=x.length->l.length=i->p ((i:Int),l)) :
 LoopOk c f p (0,[])/\Al c f (0,[])=((x.length:Int),x):=by
 have:=Ho (c:=c) (f:=f) (p:=p) x.length (λ i=>((i:Int),x.take i)) (x0:=(0,[])) rfl (λ k hk=>by
  refine⟨hp k _ (by omega) (by rw[Eu];omega),by rw[hc];simpa using hk,?_⟩;rw[hf k _ hk,Bs (by unfold AL;omega),Jh x d hk]
  simp) ⟨hp _ _ (by omega) (by rw[Eu];omega),by rw[hc];simp⟩
 rw[Hw] at this
 exact this
theorem w6 {α:Type} {c:List α×Int->Bool} {f:List α×Int->List α×Int} {p:List α×Int->Prop} (x:List α) (d:α) (hl:x.length<=1048576)
 (hc:∀ (i:Nat) (l:List α),c (l,(i:Int))=decide (i<x.length)) (hf:∀ (i:Nat) (l:List α),i<x.length->f (l,(i:Int))=(l++[x.getD i d],iAdd .i64 (i:Int) 1)) (hp:∀ (i:Nat) (l:List α),i<=x.length->l.length=i->p (l,(i:Int))) :
 LoopOk c f p ([],0)/\Al c f ([],0)=(x,(x.length:Int)):=by
 have:=Ho (c:=c) (f:=f) (p:=p) x.length (λ i=>(x.take i,(i:Int))) (x0:=([],0)) rfl (λ k hk=>by
  refine⟨hp k _ (by omega) (by rw[Eu];omega),by rw[hc];simpa using hk,?_⟩;rw[hf k _ hk,Bs (by unfold AL;omega),Jh x d hk]
  simp) ⟨hp _ _ (by omega) (by rw[Eu];omega),by rw[hc];simp⟩
 rw[Hw] at this
 exact this
theorem kv{a b:Nat}(ha:a<9223372036854775808)(hb:b<9223372036854775808):iAnd .i64 (a:Int) (b:Int)=((a &&& b:Nat):Int):=by
 have e:(BitVec.ofInt 64 (a:Int) &&& BitVec.ofInt 64 (b:Int)).toNat=a &&& b:=by
  rw[BitVec.ofInt_natCast,BitVec.ofInt_natCast,BitVec.toNat_and,BitVec.toNat_ofNat,BitVec.toNat_ofNat,Nat.mod_eq_of_lt (by omega),Nat.mod_eq_of_lt (by omega)]
 have h:a &&& b<=a:=Nat.and_le_left;rw[bD];show IntKind.i64.wrap ((BitVec.ofInt 64 (a:Int) &&& BitVec.ofInt 64 (b:Int)).toNat:Int)=_;rw[e];exact KA (by unfold AL;omega)
theorem WD{a b:Nat}(ha:a<4611686018427387904)(hb:b<4611686018427387904):iOr .i64 (a:Int) (b:Int)=((a ||| b:Nat):Int):=by
 have e:(BitVec.ofInt 64 (a:Int) ||| BitVec.ofInt 64 (b:Int)).toNat=a ||| b:=by
  rw[BitVec.ofInt_natCast,BitVec.ofInt_natCast,BitVec.toNat_or,BitVec.toNat_ofNat,BitVec.toNat_ofNat,Nat.mod_eq_of_lt (by omega),Nat.mod_eq_of_lt (by omega)]
 have h:a ||| b<2^62:=Nat.or_lt_two_pow (by omega) (by omega)
 rw[mb];show IntKind.i64.wrap ((BitVec.ofInt 64 (a:Int) ||| BitVec.ofInt 64 (b:Int)).toNat:Int)=_;rw[e];exact KA (by unfold AL;omega)
theorem zJ(a k:Nat)(h:k<=64):iShr .i64 (a:Int) (k:Int)=((a / 2^k:Nat):Int):=by
 rw[lY];show Int.fdiv (a:Int) (2^min (k:Int).toNat 64)=_;rw[Bn,Nat.min_eq_left h,Int.fdiv_eq_ediv_of_nonneg _ (by exact_mod_cast Gt _)];norm_cast
theorem Rq{a k:Nat}(hk:k<=64)(h:a*2^k<9223372036854775808):iShl .i64 (a:Int) (k:Int)=((a*2^k:Nat):Int):=by
 rw[lu];show IntKind.i64.wrap ((a:Int)*2^min (k:Int).toNat 64)=_;rw[Bn,Nat.min_eq_left hk]
 have:((a:Int)*2^k)=((a*2^k:Nat):Int):=by norm_cast
 rw[this];exact KA (by unfold AL;omega)
def Bytes(x:A5):Prop:=∀ a∈x,0<=a/\a<256
theorem Bytes.get{x:List Int}(h:Bytes x)(i:Nat):∃ n:Nat,n<256/\x.getD i 0=(n:Int):=by
 by_cases hi:i<x.length
 . obtain⟨h0,h1⟩:=h _ (DP x i 0 hi);exact⟨(x.getD i 0).toNat,by omega,by omega⟩
 . exact⟨0,by omega,by rw[D3,BU (by omega)];rfl⟩
theorem Bytes.of{x:List Int}(h:CT.wf (.sl (.one (.int .u8))) x):Bytes x:=by
 intro a ha;have:=h.2 a ha;simp only[RT.wf,CT.wf] at this
 have h:IntKind.u8.min<=a/\a<=IntKind.u8.max:=by simpa [Lit.wf] using this
 have e1:IntKind.u8.min=0:=by decide
 have e2:IntKind.u8.max=255:=by decide
 rw[e1,e2] at h;omega
theorem x9(k:Int)(x:DW)(hs:Gd (k,x)):Ua (k,x)/\QK (k,x)=(k,x):=by
 rw[sQ,rQ]
 obtain⟨a1,a2⟩:=al (c:=TS (k,x)) (f:=TL (k,x)) (p:=Yj (k,x)) x [] hs.1.1 (λ i l=>by simp[TS,Ao,An])
  (λ i l _=>by simp[TL,BB,A3,Aw]) (λ i l hi hl=>by
   simp only[Yj,Ao,An,Ap];refine⟨λ h=>?_,λ _=>trivial⟩
   have e:lGet x (iNat (i:Int)) []=x.getD i []:=by rw[A3,Aw,Bn]
   have h1:(x.getD i []).length<=1048576:=(hs.1.2 _ (DP x i [] (by omega))).1;have h2:x.length<=1048576:=hs.1.1;rw[e]
   refine⟨⟨by omega,h⟩,by rw[Aw];omega,by unfold As;simp only[AJ];omega,by unfold As;simp only[AH,AJ];omega⟩)
 exact⟨a1,by rw[a2]⟩
theorem fa(k:Int)(x:DW)(hs:Gd (k,x)):P3 (k,x)/\HQ (k,x)=(k,x):=by
 rw[nG,nD]
 obtain⟨a1,a2⟩:=al (c:=Td (k,x)) (f:=Ta (k,x)) (p:=XH (k,x)) x [] hs.1.1 (λ i l=>by simp[Td,Ao,An])
  (λ i l _=>by simp[Ta,BB,A3,Aw]) (λ i l hi hl=>by
   simp only[XH,Ao,An,Ap];refine⟨λ h=>?_,λ _=>trivial⟩
   have e:lGet x (iNat (i:Int)) []=x.getD i []:=by rw[A3,Aw,Bn]
   have h1:(x.getD i []).length<=1048576:=(hs.1.2 _ (DP x i [] (by omega))).1;have h2:x.length<=1048576:=hs.1.1;rw[e]
   refine⟨⟨by omega,h⟩,by rw[Aw];omega,by unfold As;omega,by unfold As;simp only[AH,AJ];omega⟩)
 exact⟨a1,by rw[a2]⟩
theorem Lp(x:CI):Eb x=Br x:=by
 simp only[p7,Qi,Y5,Ul,Us,Yr,AG,Az,AW,RB,Bw,Bt,C8,Ao,DQ,CG,CL,lD,kZ,An,HG,A3,kN,Il,VV,BB,kD,Aw,j7];rw[Jz]
 repeat' split
 all_goals simp only[Ah,Cm,BA,CM,FX,B7,Ap,Bl,Gs,IC,AV,Jn] at *
 all_goals omega
theorem Tn(x:CI):Ms x:=by
 have h:∀ y,Ec y:=λ y=>by rw[Oy];trivial
 rw[pD];simp[h]
theorem P2(x:CI):Mo x:=by
 have h1:∀ y,Oa y:=λ y=>by rw[sD];trivial
 have h2:∀ y,Mu y:=λ y=>by rw[rF];trivial
 have h3:∀ y,Qp y:=λ y=>by rw[rp];trivial
 rw[pG];simp[h1,h2,h3]
theorem Gj(a b c:Int):BD (a,b,c)=(decide (b<=a)&&decide (a<=c)):=by rw[Y5];simp only[Az,CL,DQ]
theorem Pk (x):Ec x:=by rw[Oy];trivial
theorem Zm (x):NN x:=by rw[oK];exact Tn _
theorem OP(x:Bv):EE x=Cu x:=by
 rw[sF,Um]
 have:∀ {c c':Int×Int->Bool} {f:Int×Int->Int×Int} {a:Int×Int} {n:Int},(∀ x,c x=c' x)->bNot (iLt (Al c f a).2 n)=bNot (iLt (Al c' f a).2 n):=by
  intro c c' f a n h;rw[funext h]
 apply this;intro st;rw[Jz];simp only[XY,Lp,Gj,Vj,AG,Az,AW,Bt,Ao,CG,Ah,Cm,BA,CM,FX,B7,Ap,Bl,Gs,IC,AV,Jn];generalize Br _=A;cases A<;>simp<;>omega
theorem TJ(x:Bv)(h:x.length<=1048576):Mx x:=by
 rw[r7];refine Iu (λ st=>st.2) x.length (by omega) (λ st _ _ hc=>?_) (λ st=>rfl) (λ st h0 h1=>?_) (by simp) (by simp)
 . simp only[Az,Ao,An,Ah,Ap] at hc;exact hc.1
 . refine⟨λ hlt=>?_,λ _=>trivial⟩;simp only[Ao,An,Ap] at hlt
   have h3:st.2.toNat<x.length:=by omega
   simp only[Gj,Aw,h3,h0,hlt,Pk,Zm,Tn,Gh,implies_true,Hs,AG,AW,Ah,Cm,BA,CM,FX,B7,Ap,Bl,Gs,IC,AV,Jn,CM,B7];exact⟨λ hh=>hh.1,λ hh=>hh.1.1⟩
theorem TR(x:Bv)(h:x.length<=1048576):Mv x:=by
 rw[so];refine Iu (λ st=>st.2) x.length (by omega) (λ st _ _ hc=>?_) (λ st=>rfl) (λ st h0 h1=>?_) (by simp) (by simp)
 . simp only[Az,Ao,An,Ah,Ap] at hc;exact hc.1
 . refine⟨λ hlt=>?_,λ _=>trivial⟩;simp only[Ao,An,Ap] at hlt
   have h3:st.2.toNat<x.length:=by omega
   simp only[gh,Aw,h3,h0,hlt,P2,Gh,implies_true,Hs,Ao,CG,AG,AW,Ah,Cm,BA,CM,FX,B7,Ap,Bl,Gs,IC,AV,Jn,CM,B7];refine⟨λ h4 h5=>by omega,λ h4 h5=>by omega⟩
def W2(h:E0):Prop:=0<=h.1/\h.1<=31/\Br h.2=true/\h.2.1≠1/\h.2.1≠6/\h.2.1≠7
theorem Q4{x:List E0}(hl:x.length<=1048576)(h:Cu x=true):∀ a∈x,W2 a:=by
 rw[Um,AG,BA,Ao _ (lLen x),Bl] at h
 have key:=MC (c:=λ x0:Int×Int=>(bAnd (iLt x0.2 (lLen x)) (bAnd (bNot (bOr (iLt (lGet x (iNat x0.2) (0,0,0,0,0)).1 0) (bOr (iGt (lGet x (iNat x0.2) (0,0,0,0,0)).1 31) (bOr (iEq (Ep (x0.1,(lGet x (iNat x0.2) (0,0,0,0,0)).1)) 1) (bNot (Br ((lGet x (iNat x0.2) (0,0,0,0,0)).2.1,(lGet x (iNat x0.2) (0,0,0,0,0)).2.2.1,(lGet x (iNat x0.2) (0,0,0,0,0)).2.2.2.1,(lGet x (iNat x0.2) (0,0,0,0,0)).2.2.2.2))))))) (bNot (bOr (iEq (lGet x (iNat x0.2) (0,0,0,0,0)).2.1 1) (bOr (iEq (lGet x (iNat x0.2) (0,0,0,0,0)).2.1 6) (iEq (lGet x (iNat x0.2) (0,0,0,0,0)).2.1 7)))))))
  (f:=λ x0=>((iOr .i64 x0.1 (iShl .i64 1 (lGet x (iNat x0.2) (0,0,0,0,0)).1)),(iAdd .i64 x0.2 1)))
  (λ st=>∃ i:Nat,st.2=i/\i<=x.length/\∀ j,j<i->W2 (x.getD j (0,0,0,0,0))) (λ st=>x.length-st.2.toNat) (λ st hI hc=>?_) (x0:=(0,0)) ⟨0,rfl,Gt _,λ j hj=>by omega⟩
 . obtain⟨⟨i,k1,k2,k3⟩,_⟩:=key;rw[k1,An] at h
   have:i=x.length:=by omega
   subst this;intro a ha;obtain⟨j,hj,rfl⟩:=Ir ha;have:=k3 j hj;rw[D3,Bg hj] at this;exact this
 . obtain⟨i,k1,k2,k3⟩:=hI;obtain⟨s,j⟩:=st;simp only at k1;subst k1;simp only[Az,AG,AW,Ao,CG,Bt,An,A3,Aw,Bn,Ah,BA,B7,Ap,Bl,CM] at hc;obtain⟨c1,⟨c2,c3,_,c5⟩,c6,c7,c8⟩:=hc;refine⟨⟨i+1,?_,by omega,λ j hj=>?_⟩,?_⟩
   . simp only;rw[Bs (by unfold AL;omega)];omega
   . by_cases hji:j=i
     . subst hji;exact⟨by omega,by omega,c5,c6,c7,c8⟩
     . exact k3 j (by omega)
   . simp only;rw[Bs (by unfold AL;omega)];omega
theorem fZ{a:Int×Int×Int×Int}(h:Br a=true)(hk:a.1=3):a.2.1=0/\a.2.2.1=0/\1<=a.2.2.2/\a.2.2.2<=3:=by
 rw[Qi] at h;simp only[Yr,Ul,Us,hk,AG,Az,AW,RB,Bw,Bt,C8,Ao,DQ,CG,CL,lD,kZ,An,HG,A3,kN,Il,VV,BB,kD,Aw,j7] at h;simp at h;omega
theorem gn(f:Int)(x:Bv):Qu (f,x)=El (f,x):=by
 rw[oW,dS]
 have e:BD (f,0,15)=bAnd (iGe f 0) (iLe f 15):=by rw[Gj,Az,CL,DQ]
 simp only[OP,e]
 cases h:Cu x with
 | true=>
   rw[show bNot true=false from by rw[AG];rfl,CS]
   have:∀ a:Bool,bAnd a true=a:=λ a=>by rw[Az,Nh]
   simp only[this]
 | false=>
   rw[show bNot false=true from by rw[AG];rfl,De];rw[wi (by rw[Az,Bool.and_false])]
theorem ny(f:Int)(x:Bv)(h:x.length<=1048576):TP (f,x):=by
 rw[qd];refine⟨Pk _,?_⟩;refine Iu (λ st=>st.2) x.length (by omega) (λ st _ _ hc=>?_) (λ st=>rfl) (λ st h0 h1=>?_) (by simp) (by simp)
 . simp only[Az,Ao,An,Ah,Ap] at hc;exact hc.1
 . refine⟨⟨λ _=>TJ x h,λ _=>trivial⟩,λ hlt=>?_,λ _=>trivial⟩;simp only[Az,Ao,An,Ah,Ap,OP] at hlt;obtain⟨hlt,hh⟩:=hlt
   have h3:st.2.toNat<x.length:=by omega
   simp only[Aw,A3,h3,h0,hlt,Gh,implies_true,Hs,Bt,Ap];intro hk;have:=Q4 h hh _ (DP x st.2.toNat (0,0,0,0,0) h3);have:=fZ this.2.2.1 hk;omega
theorem dz(f:Int)(x:Bv)(h:x.length<=1048576):Qk (f,x):=by
 rw[pH];refine⟨TR x h,λ _=>trivial,λ hh=>?_⟩
 have hh:Cu x=true:=by simpa [AG] using hh
 refine Iu (λ st=>st.2) x.length (by omega) (λ st _ _ hc=>?_) (λ st=>rfl) (λ st h0 h1=>?_) (by simp) (by simp)
 . simp only[Ao,An,Ap] at hc;exact hc
 . refine⟨λ hlt=>?_,λ _=>trivial⟩;simp only[Ao,An,Ap] at hlt
   have h3:st.2.toNat<x.length:=by omega
   simp only[Aw,A3,h3,h0,hlt,Gh,implies_true,Hs,Bt,Ap];intro hk;have:=Q4 h hh _ (DP x st.2.toNat (0,0,0,0,0) h3);have:=fZ this.2.2.1 hk;omega
theorem Zf(x:CV):GF x=D9 x:=by
 rw[pQ,Yi,Gj,Gj]
 have inner:∀ (i a n:Int) (A B:Bool),bNot (bOr A (bSel (iEq a 1) (bOr (iEq i 0) B) B))=bNot (bOr A (bSel (iEq i 0) (bOr (iEq a 1) B) B)):=by
  intro i a n A B;simp only[AG,AW,Bw,Bt];by_cases h1:a=1<;>by_cases h2:i=0<;>simp[h1,h2]
 simp only[Lp,λ i a A B=>inner i a 0 A B];generalize bNot (iLt (Al _ _ _) (lLen x.2))=L;rw[Jz];simp only[Az,AG,AW,Ao,CG,An,Ah,Cm,BA,CM,FX,B7,Ap,Bl,Gs,IC,AV,Jn];cases L<;>simp<;>omega
theorem fw(x:CV)(h:Gd x):Qg x/\Qf x:=by
 obtain⟨k,x⟩:=x;have h:Zc x:=h.1;rw[pC,oZ]
 have inl:∀ i:Int,0<=i->i<x.length->(lGet x (iNat i) []).length<=1048576:=λ i h0 hi=>by
  rw[A3,Aw];exact(h.2 _ (DP x i.toNat [] (by omega))).1
 refine⟨⟨?_,λ _=>trivial,λ _=>⟨Pk _,λ _=>Pk _,λ _=>trivial⟩⟩,λ _=>trivial,λ _=>?_⟩
 all_goals
  refine Iu (λ st=>st) x.length (by have:=h.1;omega) (λ st _ _ hc=>?_) (λ st=>rfl) (λ st h0 h1=>?_) (by simp) (by simp)
  . rw[Az,Ao st,An,Ah,Ap] at hc
    exact hc.1
  . refine⟨λ hlt=>?_,λ _=>trivial⟩
    rw[Ao,An,Ap] at hlt;have hlt:st<(x.length:Int):=hlt
    have h3:iNat st<x.length:=by rw[Aw];omega
    have hl:=inl st h0 hlt;refine⟨⟨h0,hlt⟩,h3,λ _=>trivial,λ _=>?_⟩;refine Iu (λ st=>st) (lGet x (iNat st) []).length (by omega) (λ j _ _ hc=>?_) (λ st=>rfl) (λ j j0 j1=>?_) (by simp) (by simp)
    . rw[Az,Ao j,An,Ah,Ap] at hc;exact hc.1
    . have fin:iLt j (lLen (lGet x (iNat st) []))=true->j<((lGet x (iNat st) []).length:Int)/\iNat j<(lGet x (iNat st) []).length:=λ hj=>by
       rw[Ao,An,Ap] at hj;exact⟨hj,by rw[Aw];omega⟩
      first
       |exact⟨⟨h0,hlt⟩,h3,λ hj=>⟨⟨h0,hlt⟩,h3,⟨j0,(fin hj).1⟩,(fin hj).2,Tn _⟩,λ _=>trivial⟩
       |exact⟨λ hj=>⟨⟨j0,(fin hj).1⟩,(fin hj).2,P2 _⟩,λ _=>trivial⟩
structure MapOk (k:Int) (x:DW):Prop where
 k1:1<=k
 k2:k<=32
 l1:1<=x.length
 l2:x.length<=4
 row:∀ i:Nat,i<x.length->((x.getD i []).length:Int)=k
 act:∀ i j:Nat,i<x.length->j<(x.getD i []).length->Br ((x.getD i []).getD j (0,0,0,0))=true/\(i=0->((x.getD i []).getD j (0,0,0,0)).1≠1)/\(((x.getD i []).getD j (0,0,0,0)).1≠9->((x.getD i []).getD j (0,0,0,0)).2.2.2<x.length)
theorem Ga{k:Int}{x:List G5}(hs:Gd (k,x))(h:D9 (k,x)=true):MapOk k x:=by
 rw[Yi,Az,Ah] at h;obtain⟨h1,h2⟩:=h;simp only[AG,AW,Ao,CG,An,Ah,Cm,BA,CM,FX,B7,Ap,Bl,Gs,IC,AV,Jn] at h1;rw[AG,BA,Ao _ (lLen _),An,Bl] at h2;have hs:Zc x:=hs.1
 have all:=iW h2 (by show (x.length:Int)<=_;omega) (λ i hi hc=>by
  rw[Az,Ao (i:Int),An,Ah,Ap] at hc
  have:=hc.1;show i<x.length;simp only at this;omega) (λ i hi=>rfl)
 have row:∀ i:Nat,i<x.length->((x.getD i []).length:Int)=k/\∀ j:Nat,j<(x.getD i []).length->Br ((x.getD i []).getD j (0,0,0,0))=true/\(i=0->((x.getD i []).getD j (0,0,0,0)).1≠1)/\(((x.getD i []).getD j (0,0,0,0)).1≠9->((x.getD i []).getD j (0,0,0,0)).2.2.2<x.length):=by
  intro i hi;have hc:=all i hi;rw[Az,Az,Ah,Ah] at hc;obtain⟨_,c1,c2⟩:=hc;simp only[AG,C8,An,A3,Aw,Bn,RG,Ap] at c1;rw[AG,BA,Ao _ (lLen _),An,Bl] at c2;have hli:=(hs.2 _ (DP x i [] hi)).1
  have hin:(lGet x (iNat (i:Int)) [])=x.getD i []:=by rw[A3,Aw,Bn]
  have all2:=iW c2 (by show ((lGet x (iNat (i:Int)) []).length:Int)<=_;rw[hin];omega) (λ j hj hc=>by
   simp only[Az,Ao,An,Ah,Ap] at hc
   have:=hc.1;show j<(lGet x (iNat (i:Int)) []).length;omega) (λ j hj=>rfl)
  refine⟨c1,λ j hj=>?_⟩;have hc:=all2 j (by show j<(lGet x (iNat (i:Int)) []).length;rw[hin];exact hj);simp only[hin] at hc;simp only[Az,AG,AW,Bw,Bt,C8,CL,An,A3,Aw,Bn,Ah,BA,B7,CM] at hc;obtain⟨_,d1,d2⟩:=hc;refine⟨d1,λ hz=>?_,λ h9=>?_⟩
  . subst hz;simp only[Int.ofNat_zero,Int.natCast_zero,decide_true,AO,B7,Bl] at d2;exact d2.1
  . split at d2
    . simp only[B7,FX,Bl,CM,Ap] at d2;rcases d2.2 with d2|d2
      . exact absurd d2 h9
      . omega
    . simp only[FX,Bl,CM,Ap] at d2;rcases d2 with d2|d2
      . exact absurd d2 h9
      . omega
 exact⟨by omega,by omega,by omega,by omega,λ i hi=>(row i hi).1,λ i j hi hj=>(row i hi).2 j hj⟩
theorem gX(k:Int)(x:DW)(on key:Int)(hs:Gd (k,x)):FM ((k,x),on,key)=BM ((k,x),on,key):=by
 rw[qV,BM.eq_1,N5];simp only[Zf,Vj,Gj]
 cases h:D9 (k,x) with
 |false=>simp only[AG,AW];simp[Bw]
 | true=>
   have m:=Ga hs h;rw[EF (by unfold AL;have:=m.k1;have:=m.k2;omega)]
   have:bOr (bNot true) (bNot (decide (0<=key)&&decide (key<=k-1)))=bOr (bNot true) (bOr (iLt key 0) (iGe key k)):=by
    rw[Jz];simp only[AG,AW,Ao,CL,Ah,Cm,BA,CM,FX,B7,Ap,Bl,Gs,IC,AV,Jn];simp;omega
   rw[this]
theorem gU(k:Int)(x:DW)(on key:Int)(hs:Gd (k,x)):T0 ((k,x),on,key)/\T6 ((k,x),on,key):=by
 obtain⟨o1,o2⟩:=fw (k,x) hs
 have loop:∀ {c:Int->Bool} {f:Int->Int} {p:Int->Prop},D9 (k,x)=true->(∀ st,c st=true->0<st)->(∀ st,f st=iSub .i64 st 1)->(∀ st:Int,0<=st->st<x.length->p st)->LoopOk c f p (iSub .i64 (lLen x) 1):=by
  intro c f p h hc hf hp;have m:=Ga hs h
  have:=m.l1;have:=m.l2
  rw[An,EF (by unfold AL;omega)];refine(Kv (λ st:Int=>0<=st/\st<x.length) (λ st=>st.toNat) (λ st hI=>⟨hp st hI.1 hI.2,λ hcc=>?_⟩) (by omega)).1;have:=hc st hcc;rw[hf,EF (by unfold AL;omega)];omega
 have cell:D9 (k,x)=true->0<=key->key<k->∀ st:Int,0<=st->st<x.length->iNat st<x.length/\key<((lGet x (iNat st) []).length:Int)/\iNat key<(lGet x (iNat st) []).length:=by
  intro h h0 h1 st s0 s1;have m:=Ga hs h;have:=m.row st.toNat (by omega);rw[A3,Aw,Aw];omega
 rw[qQ,T6.eq_1];simp only[Zf];refine⟨⟨⟨o1,λ _=>trivial,λ _=>Pk _⟩,λ _=>trivial,λ hb=>?_⟩,o2,λ _=>trivial,λ hb=>?_⟩
 . simp only[Gj,AG,AW,B7,CM,Ah,Ap] at hb;obtain⟨h,h0,h1⟩:=hb;have m:=Ga hs h;rw[EF (by unfold AL;have:=m.k1;have:=m.k2;omega)] at h1;refine loop h (λ st hc=>?_) (λ st=>rfl) (λ st s0 s1=>?_)
   . rw[Az,CG,Ah,Ap] at hc;exact hc.1
   . obtain⟨e1,e2,e3⟩:=cell h h0 (by omega) st s0 s1;exact⟨λ _=>⟨s0,λ _=>⟨⟨s0,s1⟩,e1,⟨h0,e2⟩,e3⟩,λ _=>trivial⟩,λ _=>trivial⟩
 . simp only[Ao,CL,AG,AW,B7,CM,Bl] at hb;obtain⟨h,h0,h1⟩:=hb;have hk0:0<=key:=Int.not_lt.mp h0;rw[T9];refine loop h (λ st hc=>?_) (λ st=>rfl) (λ st s0 s1=>?_)
   . rw[Az,CG,Ah,Ap] at hc;exact hc.1
   . obtain⟨e1,e2,e3⟩:=cell h (by omega) (by omega) st s0 s1;exact⟨λ _=>⟨by rw[gh];exact s0,λ _=>⟨⟨s0,s1⟩,e1,⟨hk0,e2⟩,e3⟩,λ _=>trivial⟩,λ _=>trivial⟩
def Zav(_:Int×Int×Int):Prop:=True
def yE(x:CU):Prop:=x.length<=1048576/\∀ a∈x,Zav a
def ME(x:Df):Prop:=x.length<=1048576/\∀ a∈x,yE a
def FQ(x:B8):Prop:=Gd (x.1,x.2.1)/\ME x.2.2.1/\O2 x.2.2.2.2.1/\True
def Bh(h:E0):Int×Int:=(h.2.2.1,h.2.2.2.1)
theorem iq(dn:Bv)(i:Nat):(dn.map Bh).getD i (0,0)=Bh (dn.getD i (0,0,0,0,0)):=by
 rw[D3,D3,Hx];cases dn[i]?<;>rfl
theorem Zbb{c:Int->Bool}{f:Int->Int}(n:Int)(h0:0<=n)(hn:n<=9223372036854775806)(hc:∀ st:Int,c st=true->st<n)(hf:∀ st,f st=iAdd .i64 st 1):0<=Al c f 0:=
 (MC (λ st=>0<=st/\st<=n) (λ st=>(n-st).toNat) (λ st hI h=>by
  have:=hc st h
  rw[hf,Bs (by constructor<;>omega)]
  exact⟨by omega,by omega⟩) ⟨by omega,h0⟩).1.1
theorem MR(dn:Bv)(k c m:Int):B5 (dn,k,c,m)=Bf (dn.map Bh,c,m):=by
 rw[sq,YA];simp only[A3,iq,An,A6,Bh]
theorem V0(dm:Nl)(q:A0)(h:dm.length<=1048576):Bf (dm,q)=-1\/(0<=Bf (dm,q)/\Bf (dm,q)<dm.length):=by
 rw[YA,Bw,Ao,An];split
 . rename_i hlt;rw[Ap] at hlt;refine .inr ⟨Zbb dm.length (by omega) (by omega) (λ st hc=>?_) (λ _=>rfl),hlt⟩;rw[Az,Ao,Ah,Ap] at hc;exact hc.1
 . exact .inl rfl
theorem aN(dn:Bv)(q:CR)(h:dn.length<=1048576):Mw (dn,q):=by
 rw[se];refine Iu (λ st=>st) dn.length (by omega) (λ st _ _ h=>?_) (λ _=>rfl) (λ st h0 h1=>⟨λ hlt=>?_,λ _=>trivial⟩) (by simp) (by simp)
 . rw[Az,Ao,An,Ah,Ap] at h;exact h.1
 . rw[Ao,An,Ap] at hlt;have a:(0:Int)<=st/\st<(dn.length:Int):=⟨h0,hlt⟩
   have b:iNat st<dn.length:=by rw[Aw];omega
   exact⟨a,b,λ _=>⟨a,b⟩,λ _=>trivial⟩
theorem ke(dm:Nl)(q:A0)(h:dm.length<=1048576):Og (dm,q):=by
 rw[r6];refine Iu (λ st=>st) dm.length (by omega) (λ st _ _ h=>?_) (λ _=>rfl) (λ st h0 h1=>⟨λ hlt=>?_,λ _=>trivial⟩) (by simp) (by simp)
 . rw[Az,Ao,An,Ah,Ap] at h;exact h.1
 . rw[Ao,An,Ap] at hlt;exact⟨⟨h0,hlt⟩,by rw[Aw];omega⟩
theorem fY(dn:Bv)(p:Int)(h0:0<=p)(h1:p<dn.length) :
 (Dk (dn,p)).map Bh=lApp (lTake (dn.map Bh) (lN (lSub (dn.map Bh) 0 (iNat p)))) (lSub (dn.map Bh) (iNat (iAdd .i64 p 1)) (lN (dn.map Bh))):=by
 have hm:min p.toNat dn.length=p.toNat:=by omega
 rw[Qa]
 simp only[BB,VV,HG,Il,Aw,GZ,LO,Eu,Gr,W5,List.map_drop,A6,C3,hm]
theorem fS(dn:Bv)(p:Int)(h0:0<=p)(h1:p<dn.length)(h:dn.length<=1048576):(Dk (dn,p)).length<=dn.length:=by
 rw[Qa];simp only[BB,HG,Il,Aw,GZ,LO,Eu,M3,Cz,C3];rw[Bs (by constructor<;>omega)];omega
theorem Z0(K p:Int)(A:Bool):bNot (bOr (bNot (BD (K,0,2))) (bOr (bNot A) (bNot (bIff (iEq K 2) (iGe p 0)))))=
 bAnd (bNot (bNot A)) (bSel (bOr (iEq K 0) (iEq K 1)) (bNot (iGe p 0)) (bAnd (iEq K 2) (bNot (iLt p 0)))):=by
 have hp:decide (p<0)=!decide (0<=p):=by simp only[<- decide_not,Int.not_le]
 rw[Y5]
 simp only[Az,AG,AW,RB,Bw,Bt,CL,DQ,Ao,hp]
 generalize decide (0<=p)=P
 have h:K=0\/K=1\/K=2\/(¬ (0<=K/\K<=2)):=by omega
 rcases h with h|h|h|h
 . subst h;cases A<;>cases P<;>decide
 . subst h;cases A<;>cases P<;>decide
 . subst h;cases A<;>cases P<;>decide
 . have e0:K≠0:=by omega
   have e1:K≠1:=by omega
   have e2:K≠2:=by omega
   have e3:(decide (0<=K)&&decide (K<=2))=false:=by rw[<- Bool.decide_and];exact Ee h
   simp only[e3,e0,e1,e2,decide_false];cases A<;>rfl
theorem yU {l:List CR} {cs:List E0×Int->Bool} {fs} {ci:List A0×Int->Bool} {fi}
 (h:∀ (dn:Bv) (i:Int),0<=i->i<=l.length->dn.length<=i->cs (dn,i)=ci (dn.map Bh,i)/\(cs (dn,i)=true->i<l.length/\∃ dn':List E0,fs (dn,i)=(dn',i+1)/\fi (dn.map Bh,i)=(dn'.map Bh,i+1)/\dn'.length<=i+1)) :
 bAnd (bNot (iLt (Al cs fs ([],0)).2 (lLen l))) (bAnd (iLe (lLen l) 8) (iEq (lLen (Al cs fs ([],0)).1) 0))=
 bAnd (bNot (iGt (lLen l) 8)) (bAnd (bNot (iLt (Al ci fi ([],0)).2 (lLen l))) (iEq (lLen (Al ci fi ([],0)).1) 0)):=by
 have go:∀ (n:Nat) (dn:Bv) (i:Int),0<=i->i<=l.length->dn.length<=i->(l.length-i).toNat<n ->
  ∃ (en:Bv) (j:Int),LoopTo cs fs (λ _=>True) (dn,i) (en,j)/\LoopTo ci fi (λ _=>True) (dn.map Bh,i) (en.map Bh,j):=by
  intro n
  induction n with
  |zero=>intro _ _ _ _ _ hm;exact absurd hm (RV _)
  | succ n ih=>
    intro dn i h0 h1 h2 hm;obtain⟨a,b⟩:=h dn i h0 h1 h2
    cases hc:cs (dn,i) with
    |false=>exact⟨dn,i,.stop trivial hc,.stop trivial (by rw[<- a,hc])⟩
    | true=>
      obtain⟨c1,dn',c2,c3,c4⟩:=b hc;obtain⟨en,j,d1,d2⟩:=ih dn' (i+1) (by omega) (by omega) c4 (by omega);exact⟨en,j,.go trivial hc (by rw[c2];exact d1),.go trivial (by rw[<- a,hc]) (by rw[c3];exact d2)⟩
 obtain⟨en,j,d1,d2⟩:=go _ [] 0 (by omega) (by omega) (by simp) (Ww _)
 have d2:LoopTo ci fi (λ _=>True) ([],0) (en.map Bh,j):=d2
 rw[d1.val,d2.val]
 simp only[Az,AG,DQ,CG,An,A6,<- decide_not,Int.not_lt]
 exact Bool.and_left_comm ..
theorem Zx (dn:Bv) (K c m p i:Int) (t:Bool) (n:Int) (hp:p=-1\/(0<=p/\p<dn.length)) (hd:dn.length<=i) (hi:i<n) (hn:n<=1048576)
 (hc:bSel (bOr (iEq K 0) (iEq K 1)) (bNot (iGe p 0)) (bAnd (iEq K 2) (bNot (iLt p 0)))=true) :
 bSel (bOr (iEq K 0) (iEq K 1)) (bSel (iEq K 1) (lApp (dn.map Bh) [(c,m)]) (dn.map Bh)) (lApp (lTake (dn.map Bh) (lN (lSub (dn.map Bh) 0 (iNat p)))) (lSub (dn.map Bh) (iNat (iAdd .i64 p 1)) (lN (dn.map Bh))))=
  (bSel (iEq K 1) (lApp dn [(0,2,c,m,0)]) (bSel (iEq K 2) (Dk (dn,p)) dn)).map Bh /\
 ((bSel (iEq K 1) (lApp dn [(0,2,c,m,0)]) (bSel (iEq K 2) (Dk (dn,p)) dn)).length:Int)<=i+1:=by
 simp only[Bw,AW,Az,AG,Bt,CL,Ao,Cm,Ap] at hc ⊢
 by_cases k1:K=1
 . subst k1
   simp[BB,Bh];omega
 . by_cases k0:K=0
   . subst k0;simp;omega
   . simp only[k0,k1,or_self,AS,Ah,Ap,BA,Bl] at hc ⊢
     have h0:0<=p:=by omega
     have h1:p<dn.length:=by omega
     rw[Ac hc.1];refine⟨(fY dn p h0 h1).symm,?_⟩;have:=fS dn p h0 h1 (by omega);omega
theorem Zk(x:CU)(h:x.length<=1048576):F5 x=H6 x:=by
 rw[Yt,qG];refine yU (λ dn i h0 h1 h2=>?_);have hr:=V0 (dn.map Bh) ((lGet x (iNat i) (0,0,0)).2.1,(lGet x (iNat i) (0,0,0)).2.2) (by rw[A6];omega);rw[A6] at hr;simp only[MR,Lp,Mp,Z0];generalize Bf (dn.map Bh,(lGet x (iNat i) (0,0,0)).2.1,(lGet x (iNat i) (0,0,0)).2.2)=p at hr ⊢;refine⟨trivial,λ hc=>?_⟩;rw[Az,Az,Ao,An,Ah,Ah,Ap] at hc;obtain⟨hc1,hc2,hc3⟩:=hc;obtain⟨s1,s2⟩:=Zx dn (lGet x (iNat i) (0,0,0)).1 (lGet x (iNat i) (0,0,0)).2.1 (lGet x (iNat i) (0,0,0)).2.2 p i true x.length hr h2 hc1 (by omega) hc3;rw[Bs (a:=i) (b:=1) (by constructor<;>omega)];exact⟨hc1,_,rfl,by rw[s1],s2⟩
theorem MJ{k w:Nat}(h:k<=1048577)(hw:w<=1000):As (k*w):=by
 unfold As;exact Jq (Nat.mul_le_mul h hw) (by decide)
theorem Vt(dn:Bv)(p:Int)(h0:0<=p)(h1:p<dn.length)(h:dn.length<=1048576):Mm (dn,p):=by
 rw[oE,Bs (a:=p) (b:=1) (by constructor<;>omega)];simp only[Aw,HG,BB,Il,GZ,LO,Eu,M3,Cz,AJ,C3];refine⟨⟨h0,by omega,by omega,by omega⟩,⟨by omega,by omega,by omega,by omega⟩,MJ (by omega) (by omega),MJ (by omega) (by omega)⟩
theorem eR(x:CU)(h:x.length<=1048576):N3 x:=by
 rw[qm];refine(Kv (λ st:List E0×Int=>0<=st.2/\st.2<=(x.length:Int)/\(st.1.length:Int)<=st.2) (λ st=>((x.length:Int)-st.2).toNat) (λ st hI=>?_) ⟨by simp,by simp,by simp⟩).1;obtain⟨dn,i⟩:=st;obtain⟨i0,i1,i2⟩:=hI;simp only at i0 i1 i2;have hr:=V0 (dn.map Bh) ((lGet x (iNat i) (0,0,0)).2.1,(lGet x (iNat i) (0,0,0)).2.2) (by rw[A6];omega);rw[A6] at hr;have hf:=aN dn ((lGet x (iNat i) (0,0,0)).1,(lGet x (iNat i) (0,0,0)).2.1,(lGet x (iNat i) (0,0,0)).2.2) (by omega);simp only[MR,Lp,Mp,Z0,Tn,dH,Oy];generalize Bf (dn.map Bh,(lGet x (iNat i) (0,0,0)).2.1,(lGet x (iNat i) (0,0,0)).2.2)=p at hr ⊢;refine⟨⟨λ hlt=>?_,λ _=>trivial⟩,λ hc=>?_⟩
 . rw[Ao,An,Ap] at hlt;refine⟨⟨i0,hlt⟩,by rw[Aw];omega,hf,⟨trivial,λ _=>trivial,λ _=>⟨trivial,trivial⟩⟩,λ _=>trivial,λ hc=>⟨λ _=>⟨trivial,MJ (by simp only[AH,AJ];omega) (by omega)⟩,λ k1=>⟨λ k2=>?_,λ _=>trivial⟩⟩⟩;have hc:=congrArg bNot hc;rw[Z0] at hc;simp only[Bw,AW,Az,AG,Bt,CL,Ao,Ap] at hc k1 k2;simp[k2] at hc;exact Vt dn p (by omega) (by omega) (by omega)
 . rw[Az,Az,Ao,An,Ah,Ah,Ap] at hc;obtain⟨hc1,hc2,hc3⟩:=hc;obtain⟨s1,s2⟩:=Zx dn (lGet x (iNat i) (0,0,0)).1 (lGet x (iNat i) (0,0,0)).2.1 (lGet x (iNat i) (0,0,0)).2.2 p i true x.length hr i2 hc1 (by omega) hc3;rw[Bs (a:=i) (b:=1) (by constructor<;>omega)];exact⟨⟨by show 0<=i+1;omega,by show i+1<=_;omega,s2⟩,by show (_-(i+1)).toNat<_;omega⟩
theorem eQ(x:CU)(h:x.length<=1048576):N1 x:=by
 rw[qC];refine⟨λ _=>trivial,λ _=>?_⟩;refine(Kv (λ st:List A0×Int=>0<=st.2/\st.2<=(x.length:Int)/\∃ dn:List E0,st.1=dn.map Bh/\(dn.length:Int)<=st.2) (λ st=>((x.length:Int)-st.2).toNat) (λ st hI=>?_) ⟨by simp,by simp,[],rfl,by simp⟩).1;obtain⟨dm,i⟩:=st;obtain⟨i0,i1,dn,rfl,i2⟩:=hI;simp only at i0 i1 i2;have hr:=V0 (dn.map Bh) ((lGet x (iNat i) (0,0,0)).2.1,(lGet x (iNat i) (0,0,0)).2.2) (by rw[A6];omega);have hf:=ke (dn.map Bh) ((lGet x (iNat i) (0,0,0)).2.1,(lGet x (iNat i) (0,0,0)).2.2) (by rw[A6];omega);rw[A6] at hr;simp only[P2];generalize Bf (dn.map Bh,(lGet x (iNat i) (0,0,0)).2.1,(lGet x (iNat i) (0,0,0)).2.2)=p at hr ⊢;refine⟨⟨λ hlt=>?_,λ _=>trivial⟩,λ hc=>?_⟩
 . rw[Ao,An,Ap] at hlt;refine⟨⟨i0,hlt⟩,by rw[Aw];omega,hf,trivial,λ _=>trivial,λ _=>⟨λ _=>⟨λ _=>trivial,λ _=>⟨λ _=>MJ (by simp only[A6,AH,AJ];omega) (by omega),λ _=>trivial⟩⟩,λ _=>⟨λ _=>⟨λ _=>trivial,λ hp=>?_⟩,λ _=>trivial⟩⟩⟩;rw[Ao,Bl] at hp
   have h0:0<=p:=by omega
   have h1:p<dn.length:=by omega
   rw[Bs (a:=p) (b:=1) (by constructor<;>omega)];simp only[Aw,HG,Il,GZ,LO,Eu,M3,A6];exact⟨⟨h0,by omega,by omega,by omega⟩,⟨by omega,by omega,by omega,by omega⟩,by omega,by omega,MJ (by omega) (by omega)⟩
 . rw[Az,Az,Ao,An,Ah,Ah,Ap] at hc;obtain⟨hc1,hc2,hc3⟩:=hc;obtain⟨s1,s2⟩:=Zx dn (lGet x (iNat i) (0,0,0)).1 (lGet x (iNat i) (0,0,0)).2.1 (lGet x (iNat i) (0,0,0)).2.2 p i true x.length hr i2 hc1 (by omega) hc3;rw[Bs (a:=i) (b:=1) (by constructor<;>omega)];exact⟨⟨by show 0<=i+1;omega,by show i+1<=_;omega,_,s1,s2⟩,by show (_-(i+1)).toNat<_;omega⟩
abbrev BP:=Int×DW×Df×Int×Bv×Int×Bool
theorem jB{c c':Int->Bool}{f:Int->Int}{p q:Int->Prop}(n:Nat)(hn:n<=1048576)(hc:∀ i:Nat,i<n->c i=c' i)(hlt:∀ i:Nat,c i=true->i<n)(hlt':∀ i:Nat,c' i=true->i<n)(hf:∀ i,f i=iAdd .i64 i 1)(hp:∀ i:Nat,i<=n->p i/\q i) :
 LoopOk c f p 0/\LoopOk c' f q 0/\Al c f 0=Al c' f 0/\0<=Al c f 0/\Al c f 0<=n:=by
 obtain⟨b1,b2,⟨k,h1,h2,h3⟩,b4⟩:=au (c:=c) (f:=f) (p:=p) (d:=c') (g:=f) (q:=q) (x0:=0) (y0:=0) (λ x y=>∃ k:Nat,k<=n/\x=k/\y=k) (λ x=>n-x.toNat) (by
  rintro x y ⟨k,hk,rfl,rfl⟩
  refine⟨(hp k hk).1,(hp k hk).2,?_,λ h=>?_⟩
  . by_cases hkn:k<n
    . exact hc k hkn
    . have e1:c (k:Int)=false:=by cases h:c (k:Int) with
       |false=>rfl
       |true=>exact absurd (hlt k h) hkn
      have e2:c' (k:Int)=false:=by cases h:c' (k:Int) with
       |false=>rfl
       |true=>exact absurd (hlt' k h) hkn
      rw[e1,e2]
  . have hkn:=hlt k h
    have e:f (k:Int)=((k+1:Nat):Int):=by rw[hf,Bs (by unfold AL;omega)];omega
    exact⟨⟨k+1,hkn,e,e⟩,by rw[e];omega⟩) ⟨0,by omega,rfl,rfl⟩
 exact⟨b1,b2,by rw[h2,h3],by omega,by omega⟩
theorem QU(x:BP)(hs:FQ x):NU x/\NV x/\Ea x=F4 x:=by
 obtain⟨keys,layers,macros,fixed,held,once,caps⟩:=x;have hk:Gd (keys,layers):=hs.1;have hm:ME macros:=hs.2.1;have hh:O2 held:=hs.2.2.1;obtain⟨a1,a2⟩:=fw (keys,layers) hk
 have l1:=jB (c:=Mk (keys,layers,macros,fixed,held,once,caps)) (c':=JO (keys,layers,macros,fixed,held,once,caps)) (f:=HP) (p:=XR (keys,layers,macros,fixed,held,once,caps)) (q:=XN (keys,layers,macros,fixed,held,once,caps)) macros.length hm.1
  (λ i hi=>by
   simp only[Mk,JO]
   rw[A3,Aw,Bn,Zk _ (hm.2 _ (DP macros i [] hi)).1])
  (λ i h=>by simp only[Mk,Az,Ah,Ao,An,Ap] at h;omega)
  (λ i h=>by simp only[JO,Az,Ah,Ao,An,Ap] at h;omega) (λ i=>rfl)
  (λ i hi=>by
   have k:(i:Int)<macros.length->N3 (lGet macros (iNat (i:Int)) [])/\N1 (lGet macros (iNat (i:Int)) []):=λ h=>by
    rw[A3,Aw,Bn];have:=(hm.2 _ (DP macros i [] (by omega))).1;exact⟨eR _ this,eQ _ this⟩
   simp only[XR,XN,Ao,An,Ap]
   refine⟨⟨λ h=>⟨⟨by omega,h⟩,by rw[Aw];omega,(k h).1⟩,λ _=>trivial⟩,⟨λ h=>⟨⟨by omega,h⟩,by rw[Aw];omega,(k h).2⟩,λ _=>trivial⟩⟩)
 have l2:=jB (c:=NJ (keys,layers,macros,fixed,held,once,caps)) (c':=K4 (keys,layers,macros,fixed,held,once,caps)) (f:=HP) (p:=XQ (keys,layers,macros,fixed,held,once,caps)) (q:=XO (keys,layers,macros,fixed,held,once,caps)) held.length hh.1
  (λ i hi=>rfl)
  (λ i h=>by simp only[NJ,Az,Ah,Ao,An,Ap] at h;omega)
  (λ i h=>by simp only[K4,Az,Ah,Ao,An,Ap] at h;omega) (λ i=>rfl)
  (λ i hi=>by
   simp only[XQ,XO,Ao,An,Ap]
   have k:(i:Int)<held.length->iNat (i:Int)<held.length:=λ h=>by rw[Aw];omega
   refine⟨⟨λ h=>⟨⟨by omega,h⟩,k h,λ _=>trivial,λ _=>⟨⟨by omega,h⟩,k h,λ _=>⟨⟨by omega,h⟩,k h⟩,λ _=>trivial⟩⟩,λ _=>trivial⟩,⟨λ h=>⟨⟨by omega,h⟩,k h⟩,λ _=>trivial⟩⟩)
 have ef:HO=HP:=rfl;rw[qg,pt,ph,dJ,ef];obtain⟨p1,p2,p3,_⟩:=l1;obtain⟨q1,q2,q3,_⟩:=l2;simp only[<- p3,<- q3,Zf,OP]
 have hl:(0:Int)<=lLen layers:=by rw[An];omega
 refine⟨?_,?_,?_⟩
 . simp only[a1,TJ held hh.1,Pk,p1,q1,hl];simp
 . simp only[a2,TR held hh.1,p2,q2,hl];simp
 . cases hv:D9 (keys,layers) with
   |false=>simp[AW,AG,Az]
   | true=>
     have hm:=Ga hk hv
     have e1:iShl .i64 1 (lLen layers)=((2^layers.length:Nat):Int):=by
      have h2:2^layers.length<=2^4:=Nat.pow_le_pow_right (by omega) hm.l2;rw[An];have:=Rq (a:=1) (k:=layers.length) (by have:=hm.l2;omega) (by omega);rw[Gu] at this;exact this
     have h2:2^layers.length<=2^4:=Nat.pow_le_pow_right (by omega) hm.l2;generalize (2^layers.length:Nat)=M at e1 h2;have e2:iSub .i64 (M:Int) 1=(M:Int)-1:=EF (by unfold AL;omega);rw[e1,e2,Gj,Gj];generalize iLt (Al _ _ _) (lLen macros)=A;generalize iLt (Al _ _ _) (lLen held)=B;rw[Jz];simp only[AW,AG,Az,CG,Ao,CL,Bt,Ah,B7,BA,Ap,Bl,G0];constructor
     . rintro⟨⟨_,h1,h3,h4,h5⟩,h6,h7,h8,h9,h10⟩;exact⟨⟨trivial,h1,h3⟩,h6,h7,⟨h8,by omega⟩,h9,by omega,by omega⟩
     . rintro⟨⟨_,h1,h3⟩,h6,h7,⟨h8,h9⟩,h10,h11,h12⟩;exact⟨⟨trivial,h1,h3,by omega,by omega⟩,h6,h7,h8,h10,by omega⟩
theorem fg(x:Df)(hs:ME x):P6 x/\Mn x=x:=by
 rw[nO,nz]
 obtain⟨a1,a2⟩:=w6 (c:=Tc x) (f:=Tb x) (p:=XG x) x [] hs.1 (λ i l=>by simp[Tc,Ao,An])
  (λ i l _=>by simp[Tb,BB,A3,Aw]) (λ i l hi hl=>by
   simp only[XG,Ao,An,Ap];refine⟨λ h=>?_,λ _=>trivial⟩
   have e:lGet x (iNat (i:Int)) []=x.getD i []:=by rw[A3,Aw,Bn]
   have:=(hs.2 _ (DP x i [] (by omega))).1;have:=hs.1;rw[e]
   refine⟨⟨by omega,h⟩,by rw[Aw];omega,by unfold As;omega,by unfold As;simp only[AH,AJ];omega⟩)
 exact⟨a1,by rw[a2]⟩
theorem VC(x:BP)(hs:FQ x):Oc x/\DI x=x:=by
 obtain⟨keys,layers,macros,fixed,held,once,caps⟩:=x;have hm:ME macros:=hs.2.1;have hh:O2 held:=hs.2.2.1;obtain⟨c1,c2⟩:=x9 keys layers hs.1;rw[rW,ss]
 obtain⟨a1,a2⟩:=al (c:=TB (keys,layers,macros,fixed,held,once,caps)) (f:=TF (keys,layers,macros,fixed,held,once,caps)) (p:=Yn (keys,layers,macros,fixed,held,once,caps)) macros [] hm.1 (λ i l=>by simp[TB,Ao,An])
  (λ i l _=>by simp[TF,BB,A3,Aw]) (λ i l hi hl=>by
   simp only[Yn,Ao,An,Ap];refine⟨λ h=>?_,λ _=>trivial⟩
   have e:lGet macros (iNat (i:Int)) []=macros.getD i []:=by rw[A3,Aw,Bn]
   have:=(hm.2 _ (DP macros i [] (by omega))).1;have:=hm.1;rw[e]
   refine⟨⟨by omega,h⟩,by rw[Aw];omega,by unfold As;simp only[AJ];omega,by unfold As;simp only[AH,AJ];omega⟩)
 have hl:=hh.1;refine⟨⟨c1,a1,by unfold As;simp only[AJ];omega⟩,?_⟩;rw[a2];simp only[c2,BB,C3]
theorem uj(k:Int)(x:DW)(m:Df)(hk:Gd (k,x))(hm:ME m) :
 Tu ((k,x),m)/\dA ((k,x),m)/\dN ((k,x),m)=NX ((k,x),m)/\FQ (NX ((k,x),m)).1:=by
 have hh:O2 []:=⟨by simp,by simp⟩
 have hs:FQ (k,x,m,0,[],0,false):=⟨hk,hm,hh,trivial⟩
 have hz:FQ (0,[],[],0,[],0,false):=⟨⟨⟨by simp,by simp⟩,trivial⟩,⟨by simp,by simp⟩,hh,trivial⟩
 obtain⟨a1,a2⟩:=fa k x hk
 obtain⟨b1,b2⟩:=fg m hm
 obtain⟨c1,c2,c3⟩:=QU _ hs
 obtain⟨d1,d2⟩:=VC _ hs
 rw[oA,dA,dD,dN]
 simp only[a2,b2,c3,d2,a1,b1,c1,c2,d1]
 refine⟨by simp,by simp,trivial,?_⟩
 rw[Bw];split
 . exact hz
 . exact hs
theorem GS{α:Type}(x:List α)(d:α){i:Nat}(h:i<x.length):x.getD i d=x[i]:=by
 rw[D3,Bg h];rfl
abbrev BR:=List E0
theorem jP(m p:Nat)(hm:m<4611686018427387904)(hp:p<=64):Ep ((m:Int),(p:Int))=if m.testBit p then 1 else 0:=by
 rw[Vj];simp only;rw[zJ m p hp];have hd:m / 2^p<=m:=Nat.div_le_self _ _;have:=kv (a:=m / 2^p) (b:=1) (by omega) (by omega);rw[show ((1:Nat):Int)=1 from rfl] at this;rw[this,Nat.and_one_is_mod,Nat.testBit_eq_decide_div_mod_eq];simp only[Ap];split<;>omega
theorem xb{x:BR}(hl:x.length<=1048576)(h:∀ a∈x,W2 a)(hd:x.Pairwise (λ a b=>a.1≠b.1)):Cu x=true:=by
 rw[Um,AG,BA]
 have key:=MC (c:=λ x0:Int×Int=>(bAnd (iLt x0.2 (lLen x)) (bAnd (bNot (bOr (iLt (lGet x (iNat x0.2) (0,0,0,0,0)).1 0) (bOr (iGt (lGet x (iNat x0.2) (0,0,0,0,0)).1 31) (bOr (iEq (Ep (x0.1,(lGet x (iNat x0.2) (0,0,0,0,0)).1)) 1) (bNot (Br ((lGet x (iNat x0.2) (0,0,0,0,0)).2.1,(lGet x (iNat x0.2) (0,0,0,0,0)).2.2.1,(lGet x (iNat x0.2) (0,0,0,0,0)).2.2.2.1,(lGet x (iNat x0.2) (0,0,0,0,0)).2.2.2.2))))))) (bNot (bOr (iEq (lGet x (iNat x0.2) (0,0,0,0,0)).2.1 1) (bOr (iEq (lGet x (iNat x0.2) (0,0,0,0,0)).2.1 6) (iEq (lGet x (iNat x0.2) (0,0,0,0,0)).2.1 7)))))))
  (f:=λ x0=>((iOr .i64 x0.1 (iShl .i64 1 (lGet x (iNat x0.2) (0,0,0,0,0)).1)),(iAdd .i64 x0.2 1)))
  (λ st=>∃ i m:Nat,st=((m:Int),(i:Int))/\i<=x.length/\m<4294967296/\∀ p:Nat,m.testBit p=true->∃ j,j<i/\(x.getD j (0,0,0,0,0)).1=(p:Int)) (λ st=>x.length-st.2.toNat) (λ st hI hc=>?_) (x0:=(0,0)) ⟨0,0,rfl,Gt _,by omega,λ p hp=>by simp at hp⟩
 . obtain⟨⟨i,m,k1,k2,k3,k4⟩,k5⟩:=key;rw[k1] at k5 ⊢;rw[Ao,An,Bl];intro hlt
   have hi:i<x.length:=by simpa using hlt
   obtain⟨h1,h2,h3,h4,h5,h6⟩:=h _ (DP x i (0,0,0,0,0) hi)
   have hb:Ep ((m:Int),(x.getD i (0,0,0,0,0)).1)≠1:=by
    obtain⟨p,hp⟩:=Int.eq_ofNat_of_zero_le h1;rw[hp,jP m p (by omega) (by omega)];split
    . next hb=>
      obtain⟨j,hj,e⟩:=k4 p hb;have:=List.pairwise_iff_getElem.1 hd j i (by omega) hi hj;rw[<- GS x (0,0,0,0,0) hi,<- GS x (0,0,0,0,0) (by omega:j<x.length),e,hp] at this;exact absurd rfl this
    . decide
   have h3':Br ((x.getD i (0,0,0,0,0)).2.1,(x.getD i (0,0,0,0,0)).2.2.1,(x.getD i (0,0,0,0,0)).2.2.2.1,(x.getD i (0,0,0,0,0)).2.2.2.2)=true:=h3;simp only[Az,AG,AW,Ao,CG,Bt,An,A3,Aw,Bn,h3',hb,h4,h5,h6] at k5;simp[-List.getD_eq_getElem?_getD] at k5;omega
 . obtain⟨i,m,rfl,k2,k3,k4⟩:=hI;simp only[Az,Ao,An,Ah,Ap] at hc
   have hi:i<x.length:=by omega
   obtain⟨h1,h2,_⟩:=h _ (DP x i (0,0,0,0,0) hi);obtain⟨p,hp⟩:=Int.eq_ofNat_of_zero_le h1
   have hpl:p<32:=by omega
   have h2p:2^p<=2^31:=Nat.pow_le_pow_right (by omega) (by omega)
   have h31:(2:Nat)^31=2147483648:=by decide
   simp only[A3,Aw,Bn,hp];have e1:=Rq (a:=1) (k:=p) (by omega) (by omega);rw[show ((1:Nat):Int)=1 from rfl,Gu] at e1;rw[e1,WD (a:=m) (b:=2^p) (by omega) (by omega)];refine⟨⟨i+1,m ||| 2^p,by rw[Bs (by unfold AL;omega)];simp,by omega,?_,λ q hq=>?_⟩,by rw[Bs (by unfold AL;omega)];omega⟩
   . have:=Nat.or_lt_two_pow (x:=m) (y:=2^p) (n:=32) (by omega) (by omega);simpa using this
   . rw[Nat.testBit_or,Cm] at hq;rcases hq with hq|hq
     . obtain⟨j,hj,e⟩:=k4 q hq;exact⟨j,by omega,e⟩
     . rw[Nat.testBit_two_pow] at hq
       have:p=q:=by simpa using hq
       exact⟨i,by omega,by rw[hp,this]⟩
theorem xo{x:BR}(hl:x.length<=1048576)(h:Cu x=true):x.Pairwise (λ a b=>a.1≠b.1):=by
 have hall:=Q4 hl h;rw[Um,AG,BA] at h
 have key:=MC (c:=λ x0:Int×Int=>(bAnd (iLt x0.2 (lLen x)) (bAnd (bNot (bOr (iLt (lGet x (iNat x0.2) (0,0,0,0,0)).1 0) (bOr (iGt (lGet x (iNat x0.2) (0,0,0,0,0)).1 31) (bOr (iEq (Ep (x0.1,(lGet x (iNat x0.2) (0,0,0,0,0)).1)) 1) (bNot (Br ((lGet x (iNat x0.2) (0,0,0,0,0)).2.1,(lGet x (iNat x0.2) (0,0,0,0,0)).2.2.1,(lGet x (iNat x0.2) (0,0,0,0,0)).2.2.2.1,(lGet x (iNat x0.2) (0,0,0,0,0)).2.2.2.2))))))) (bNot (bOr (iEq (lGet x (iNat x0.2) (0,0,0,0,0)).2.1 1) (bOr (iEq (lGet x (iNat x0.2) (0,0,0,0,0)).2.1 6) (iEq (lGet x (iNat x0.2) (0,0,0,0,0)).2.1 7)))))))
  (f:=λ x0=>((iOr .i64 x0.1 (iShl .i64 1 (lGet x (iNat x0.2) (0,0,0,0,0)).1)),(iAdd .i64 x0.2 1)))
  (λ st=>∃ i m:Nat,st=((m:Int),(i:Int))/\i<=x.length/\m<4294967296/\(∀ j,j<i->∀ p:Nat,(x.getD j (0,0,0,0,0)).1=(p:Int)->m.testBit p=true)/\∀ j k,j<k->k<i->(x.getD j (0,0,0,0,0)).1≠(x.getD k (0,0,0,0,0)).1) (λ st=>x.length-st.2.toNat) (λ st hI hc=>?_) (x0:=(0,0)) ⟨0,0,rfl,Gt _,by omega,λ j hj=>absurd hj (by omega),λ j k _ hk=>absurd hk (by omega)⟩
 . obtain⟨⟨i,m,k1,k2,k3,k4,k5⟩,_⟩:=key;rw[k1,Ao,An,Bl] at h;simp only at h
   have hi:i=x.length:=by omega
   subst hi;rw[List.pairwise_iff_getElem];intro j k hj hk hjk;have:=k5 j k hjk hk;rwa [GS x _ hj,GS x _ hk] at this
 . obtain⟨i,m,rfl,k2,k3,k4,k5⟩:=hI;simp only[Az,Ao (i:Int),An,Ah,Ap] at hc;obtain⟨c1,c2,_⟩:=hc
   have hi:i<x.length:=by omega
   obtain⟨h1,h2,_⟩:=hall _ (DP x i (0,0,0,0,0) hi);obtain⟨p,hp⟩:=Int.eq_ofNat_of_zero_le h1
   have hpl:p<32:=by omega
   have h2p:2^p<=2^31:=Nat.pow_le_pow_right (by omega) (by omega)
   have h31:(2:Nat)^31=2147483648:=by decide
   simp only[A3,Aw,Bn,hp,AG,AW,BA,B7,Bt,Bl] at c2
   have hb:m.testBit p=false:=by
    have:=c2.2.2.1;rw[jP m p (by omega) (by omega)] at this
    cases hb:m.testBit p with
    |false=>rfl
    |true=>rw[hb] at this;exact absurd rfl this
   simp only[A3,Aw,Bn,hp];have e1:=Rq (a:=1) (k:=p) (by omega) (by omega);rw[show ((1:Nat):Int)=1 from rfl,Gu] at e1;rw[e1,WD (a:=m) (b:=2^p) (by omega) (by omega)];refine⟨⟨i+1,m ||| 2^p,by rw[Bs (by unfold AL;omega)];simp,by omega,?_,λ j hj q hq=>?_,λ j k hjk hk=>?_⟩,by rw[Bs (by unfold AL;omega)];omega⟩
   . have:=Nat.or_lt_two_pow (x:=m) (y:=2^p) (n:=32) (by omega) (by omega);simpa using this
   . rw[Nat.testBit_or,Cm];rcases BG j i with h|h
     . exact .inl (k4 j h q hq)
     . have:j=i:=by omega
       subst this;rw[hp] at hq
       have:p=q:=by omega
       right;rw[this,Nat.testBit_two_pow_self]
   . rcases BG k i with h|h
     . exact k5 j k hjk h
     . have:k=i:=by omega
       subst this;intro e;have:=k4 j hjk p (by rw[e];exact hp);rw[hb] at this;cases this
theorem OI{x:BR}(hl:x.length<=1048576):Cu x=true↔(∀ a∈x,W2 a)/\x.Pairwise (λ a b=>a.1≠b.1):=
 ⟨λ h=>⟨Q4 hl h,xo hl h⟩,λ h=>xb hl h.1 h.2⟩
theorem ZX{x:BR}(hl:x.length<=1048576)(h:Cu x=true):x.length<=32:=by
 obtain⟨h1,h2⟩:=(OI hl).1 h
 have hn:(x.map λ a=>a.1.toNat).Nodup:=by
  rw[List.nodup_iff_pairwise_ne,List.pairwise_map]
  refine h2.imp_of_mem λ {a b} ha hb hab e=>hab ?_
  have:=(h1 a ha).1;have:=(h1 b hb).1
  omega
 have hs:(x.map λ a=>a.1.toNat) ⊆ List.range 32:=λ q hq=>by
  obtain⟨a,ha,rfl⟩:=List.mem_map.1 hq
  have:=(h1 a ha).1;have:=(h1 a ha).2.1
  rw[List.mem_range];omega
 have:=hn.length_le_of_subset hs;simpa using this
section
set_option maxRecDepth 20000
theorem jh{c:Int->Bool}{f:Int->Int}(n:Nat)(t:Nat->Bool)(hn:(n:Int)<=9223372036854775806)(hc:∀ i:Nat,i<=n->c i=(decide (i<n)&&!t i))(hf:∀ i:Nat,i<n->f i=iAdd .i64 i 1):iLt (Al c f 0) (n:Int)=false↔∀ i,i<n->t i=false:=by
 rw[RI n t hn hc hf,Ao,Bl,<- OD];have:=Jg t n 0;omega
structure EngOk (x:BP):Prop where
 map:D9 (x.1,x.2.1)=true
 mac:x.2.2.1.length<=4
 macs:∀ m∈x.2.2.1,H6 m=true
 held:Cu x.2.2.2.2.1=true
 hk:∀ a∈x.2.2.2.2.1,a.1<x.1/\(a.2.1≠9->a.2.2.2.2<x.2.1.length)
 on0:0<=x.2.2.2.2.2.1
 on1:x.2.2.2.2.2.1<=15
 f0:0<=x.2.2.2.1
 f2:x.2.2.2.1 % 2=0
 f1:x.2.2.2.1<((2^x.2.1.length:Nat):Int)
theorem kg(n:Nat)(h:n<=40):iShl .i64 1 (n:Int)=((2^n:Nat):Int):=by
 have hp:2^n<=2^40:=Nat.pow_le_pow_right (by omega) h;have e:=Rq (a:=1) (k:=n) (by omega) (by rw[Gu];exact Nat.lt_of_le_of_lt hp (by decide));rwa [Gu] at e
theorem U0(x:BP)(hs:FQ x):Ea x=true↔EngOk x:=by
 obtain⟨k,l,mc,fx,hd,on,cp⟩:=x;have hmc:mc.length<=1048576:=hs.2.1.1;have hhd:hd.length<=1048576:=hs.2.2.1.1
 have s1:=jh (c:=JO (k,l,mc,fx,hd,on,cp)) (f:=HO) mc.length (λ i=>!H6 (mc.getD i [])) (by omega)
  (λ i hi=>by simp only[JO,Az,Ao,An,AG,A3,Aw,Bn,G2]) (λ i hi=>rfl)
 have s2:=jh (c:=K4 (k,l,mc,fx,hd,on,cp)) (f:=HO) hd.length (λ i=>decide (k<=(hd.getD i (0,0,0,0,0)).1)||(!decide ((hd.getD i (0,0,0,0,0)).2.1=9)&&decide ((l.length:Int)<=(hd.getD i (0,0,0,0,0)).2.2.2.2))) (by omega)
  (λ i hi=>by simp only[K4,Az,AW,Ao,CL,C8,An,AG,A3,Aw,Bn,G2]) (λ i hi=>rfl)
 have m1:(∀ i,i<mc.length->(!H6 (mc.getD i []))=false)↔∀ m∈mc,H6 m=true:=by
  constructor
  . intro h m hm;obtain⟨i,hi,rfl⟩:=Ir hm;have:=h i hi;rw[GS mc [] hi] at this;simpa using this
  . intro h i hi;have:=h _ (DP mc i [] hi);simpa using this
 have m2:(∀ i,i<hd.length->(decide (k<=(hd.getD i (0,0,0,0,0)).1)||(!decide ((hd.getD i (0,0,0,0,0)).2.1=9)&&decide ((l.length:Int)<=(hd.getD i (0,0,0,0,0)).2.2.2.2)))=false)↔∀ a∈hd,a.1<k/\(a.2.1≠9->a.2.2.2.2<l.length):=by
  have one:∀ a:Int×Int×Int×Int×Int,(decide (k<=a.1)||(!decide (a.2.1=9)&&decide ((l.length:Int)<=a.2.2.2.2)))=false↔a.1<k/\(a.2.1≠9->a.2.2.2.2<l.length):=by
   intro a;simp only[B7,FX,CM,Ap,Bl];constructor
   . rintro⟨h1,h2⟩;exact⟨by omega,λ h9=>by rcases h2 with h|h;exact absurd h h9;omega⟩
   . rintro⟨h1,h2⟩;refine⟨by omega,?_⟩;by_cases h9:a.2.1=9
     . exact .inl h9
     . exact .inr (by have:=h2 h9;omega)
  constructor
  . intro h a ha;obtain⟨i,hi,rfl⟩:=Ir ha;have:=h i hi;rw[GS hd _ hi] at this;exact(one _).1 this
  . intro h i hi;exact(one _).2 (h _ (DP hd i _ hi))
 rw[dJ];simp only;rw[An mc,An hd,An l];simp only[Az,AG,AW,Ah,BA,B7,CM,s1.trans m1,s2.trans m2];constructor
 . rintro⟨⟨a1,a2,a3,a4,a5⟩,b1,b2,b3,b4,b5⟩;have hl:l.length<=4:=(Ga hs.1 a1).l2;rw[kg _ (by omega),Ao,Ap] at b5;rw[CL,Ap] at b3;rw[Bt,Ap,Wg b3] at b4;rw[CG,Bl] at a2 a5;rw[Ao,Bl] at a4;exact⟨a1,by simp only;omega,b1,a3,b2,by simp only;omega,by simp only;omega,b3,b4,b5⟩
 . rintro⟨a1,a2,a3,a4,a5,a6,a7,a8,a9,a10⟩;simp only at a1 a2 a3 a4 a5 a6 a7 a8 a9 a10;have hl:l.length<=4:=(Ga hs.1 a1).l2;refine⟨⟨a1,by rw[CG,Bl];omega,a4,by rw[Ao,Bl];omega,by rw[CG,Bl];omega⟩,a3,a5,by rw[CL,Ap];exact a8,by rw[Bt,Ap,Wg a8];exact a9,by rw[kg _ (by omega),Ao,Ap];exact a10⟩
end
def B1(c:CB):Prop:=0<=c.2.1/\c.2.1<=c.1.length/\c.1.length<=1048576
theorem WR(x:Int):0<=iAnd .i64 x 255/\iAnd .i64 x 255<=255:=by
 rw[bD]
 have h:(BitVec.ofInt IntKind.i64.bits x &&& BitVec.ofInt IntKind.i64.bits 255).toNat<=255:=by
  rw[BitVec.toNat_and];exact Nat.and_le_right
 have:IntKind.i64.wrap ((BitVec.ofInt IntKind.i64.bits x &&& BitVec.ofInt IntKind.i64.bits 255).toNat:Int)=((BitVec.ofInt IntKind.i64.bits x &&& BitVec.ofInt IntKind.i64.bits 255).toNat:Int):=KA (by unfold AL;omega);rw[this];omega
theorem We(c:CB)(h:B1 c):H5 c/\0<=(BW c).1/\(BW c).1<=255/\B1 (c.1,(BW c).2):=by
 obtain⟨h1,h2,h3⟩:=h;rw[eT,eW];simp only[Bw,Ao,An,Aw,Ap,Bl];refine⟨⟨by omega,by omega,λ _=>by omega,λ _=>trivial⟩,?_,?_,?_⟩
 . split
   . exact(WR _).1
   . exact(WR _).1
 . split
   . exact(WR _).2
   . exact(WR _).2
 . unfold B1;simp only;split
   . rw[Bs (by unfold AL;omega)];omega
   . omega
theorem Fo(c:CB)(n:Int)(h:B1 c):DY (c,n)/\B1 (c.1,(Aq (c,n)).2)/\(n<=0->(Aq (c,n)).1=0)/\(0<n->0<=(Aq (c,n)).1/\(Aq (c,n)).1<n):=by
 rw[dX,ed];obtain⟨a1,a2,a3,a4⟩:=We c h;obtain⟨b1,b2,b3,b4⟩:=We _ a4;obtain⟨c1,c2,c3,c4⟩:=We _ b4;obtain⟨d1,d2,d3,d4⟩:=We _ c4;simp only at b1 b2 b3 b4 c1 c2 c3 c4 d1 d2 d3 d4 ⊢;simp only[Bw,DQ,Ap,Bl];by_cases hn:n<=0
 . simp only[Ac hn];exact⟨⟨λ _=>trivial,λ h=>absurd hn h⟩,h,λ _=>trivial,λ h=>by omega⟩
 . simp only[Af hn];by_cases hm:n<=256
   . simp only[Ac hm];refine⟨⟨λ h=>absurd h hn,λ _=>⟨λ _=>⟨a1,by omega⟩,λ h=>absurd hm h⟩⟩,a4,λ h=>absurd h hn,λ _=>?_⟩;rw[Wg a2];exact⟨Int.emod_nonneg _ (by omega),Int.emod_lt_of_pos _ (by omega)⟩
   . simp only[Af hm];refine⟨⟨λ h=>absurd h hn,λ _=>⟨λ h=>absurd h hm,λ _=>⟨a1,b1,c1,d1,by omega⟩⟩⟩,d4,λ h=>absurd h hn,λ _=>?_⟩;generalize (BW c).1=p at a2 a3;generalize (BW (c.1,(BW c).2)).1=q at b2 b3;generalize (BW (c.1,(BW (c.1,(BW c).2)).2)).1=r at c2 c3;generalize (BW (c.1,(BW (c.1,(BW (c.1,(BW c).2)).2)).2)).1=s at d2 d3;rw[aB (a:=p) (by unfold AL;omega),aB (a:=q) (by unfold AL;omega),aB (a:=r) (by unfold AL;omega),Bs (a:=p*16777216) (by unfold AL;omega),Bs (a:=p*16777216+q*65536) (by unfold AL;omega),Bs (a:=p*16777216+q*65536+r*256) (by unfold AL;omega),Wg (by omega)];exact⟨Int.emod_nonneg _ (by omega),Int.emod_lt_of_pos _ (by omega)⟩
theorem Wn(c:CB)(n:Int)(h:B1 c):Ke (c,n)/\B1 (c.1,(Ct (c,n)).2):=by
 obtain⟨a1,a2,_⟩:=Fo c n h;rw[eF,eJ];exact⟨a1,a2⟩
theorem zL(c:CB)(l:A5)(hl:0<l.length)(h:B1 c):NK (c,l)/\B1 (c.1,(Dj (c,l)).2)/\(Dj (c,l)).1∈l:=by
 obtain⟨a1,a2,_,a4⟩:=Fo c (lLen l) h;rw[oQ,oD];have a4:=a4 (by rw[An];omega);simp only;generalize (Aq (c,lLen l)).1=i at a4 ⊢;rw[An] at a4;refine⟨⟨a1,a4,by rw[Aw];omega⟩,a2,?_⟩;rw[A3,Aw];exact DP l _ _ (by omega)
theorem Zbg(x:A5)(h:x.length<=1048576):Ov x/\B1 (Km x)/\(Km x).1=x:=by
 rw[th,tz];refine⟨?_,⟨by simp,by simp,h⟩,rfl⟩;refine Iu (λ st=>st.2) x.length (by omega) (λ st _ _ hc=>?_) (λ _=>rfl) (λ st h0 h1=>?_) (by simp) (by simp)
 . unfold Yy at hc;simp only[Az,Ao,An,Ah,Ap] at hc;exact hc.1
 . unfold ew;refine⟨λ hc=>?_,λ _=>trivial⟩;simp only[Az,Ao,An,Ah,Ap] at hc;rw[Aw];omega
theorem Zbi(x:A5):OK x=decide (1048576<x.length)/\Vc x:=by
 rw[vf,vp];refine⟨?_,trivial⟩;rw[CG,An];congr 1;exact propext (by omega)
def PH(a:CI):Prop:=Br a=true/\a.1≠1
theorem DA(k c m n:Int):Br (k,c,m,n)=true ↔
 ((k=0\/k=1\/k=10)/\c=0/\m=0/\n=0)\/(k=2/\n=0/\0<=c/\c<=56/\0<=m/\m<=15/\(c≠0\/m≠0))\/((k=3\/k=4)/\c=0/\m=0/\1<=n/\n<=3)\/((k=5\/k=9)/\c=0/\m=0/\0<=n/\n<=3) \/
 (k=6/\1<=c/\c<=56/\1<=m/\m<=15/\n=0)\/(k=7/\1<=c/\c<=56/\m=0/\1<=n/\n<=3)\/(k=8/\c=0/\1<=m/\m<=15/\n=0):=by
 rw[Qi]
 simp only[Bw,AW,Az,Bt,C8,Ul,Us,Yr,CL,DQ]
 repeat' split
 all_goals simp only[Ah,Cm,BA,CM,FX,B7,Ap,Bl,Gs,IC,AV,Jn,Ij,Gs,decide_not] at *
 all_goals omega
theorem ZaG(c:CB)(n:Int)(h:B1 c)(n1:1<=n)(n4:n<=4):Od (c,n)/\B1 (c.1,(Ck (c,n)).2)/\PH (Ck (c,n)).1/\((Ck (c,n)).1.1≠9->(Ck (c,n)).1.2.2.2<n):=by
 rw[sv,sx]
 obtain⟨m,em,m1,m3,mn⟩:∃ m,iMax 1 (iSub .i64 n 1)=m/\1<=m/\m<=3/\(1<n->m=n-1):=by
  refine⟨_,rfl,?_⟩;rw[EF (by unfold AL;omega),cw];split<;>omega
 have em':iMax 1 n=n:=by rw[cw];split<;>omega
 obtain⟨a1,a2,_,a4⟩:=Fo c 56 h;have a4:=a4 (by omega);obtain⟨b1,b2,_,b4⟩:=Fo _ 15 a2;have b4:=b4 (by omega);change B1 (c.1,(Hi (c,n)).2) at b2;change 0<=(Hi (c,n)).1/\(Hi (c,n)).1<15 at b4;obtain⟨c1,c2⟩:=Wn _ 2 b2;change B1 (c.1,(CE (c,n)).2) at c2
 have hc2:B1 (c.1,(bSel (CE (c,n)).1 (CE (c,n)).2.1 (CE (c,n)).2.1),(bSel (CE (c,n)).1 (CE (c,n)).2.2 (CE (c,n)).2.2)):=by
  simp only[Bw,ite_self];exact c2
 obtain⟨d1,d2,_,d4⟩:=Fo _ (iMax 1 (iSub .i64 n 1)) hc2;change B1 (c.1,(Ej (c,n)).2) at d2
 have d4:0<=(Ej (c,n)).1/\(Ej (c,n)).1<m:=by
  have:=d4 (by rw[em];omega);rw[em] at this
  have e:Ej (c,n)=Aq ((c.1,(bSel (CE (c,n)).1 (CE (c,n)).2.1 (CE (c,n)).2.1),(bSel (CE (c,n)).1 (CE (c,n)).2.2 (CE (c,n)).2.2)),m):=by unfold Ej;rw[em]
  rw[e];exact this
 obtain⟨e1,e2,_,e4⟩:=Fo _ 16 d2;have e4:=e4 (by omega);change B1 (c.1,(AQ (c,n)).2) at e2;change 0<=(AQ (c,n)).1/\(AQ (c,n)).1<16 at e4;obtain⟨f1,f2,_,f4⟩:=Fo _ 4 e2;have f4:=f4 (by omega);change B1 (c.1,(NP (c,n)).2) at f2;change 0<=(NP (c,n)).1/\(NP (c,n)).1<4 at f4;obtain⟨g1,g2,_,g4⟩:=Fo _ 3 e2;have g4:=g4 (by omega);change B1 (c.1,(J1 (c,n)).2) at g2;change 0<=(J1 (c,n)).1/\(J1 (c,n)).1<3 at g4;obtain⟨i1,i2,_,i4⟩:=Fo _ (iMax 1 n) e2;have i4:=i4 (by rw[em'];omega);change B1 (c.1,(NR (c,n)).2) at i2;change 0<=(NR (c,n)).1/\(NR (c,n)).1<iMax 1 n at i4;rw[em'] at i4
 have hM:1<=bSel (CE (c,n)).1 2 (iAdd .i64 1 (Hi (c,n)).1)/\bSel (CE (c,n)).1 2 (iAdd .i64 1 (Hi (c,n)).1)<=15:=by
  rw[Bw,Bs (by unfold AL;omega)];split<;>omega
 have hC:1<=iAdd .i64 1 (Aq (c,56)).1/\iAdd .i64 1 (Aq (c,56)).1<=56:=by rw[Bs (by unfold AL;omega)];omega
 have hN:1<=iAdd .i64 1 (Ej (c,n)).1/\iAdd .i64 1 (Ej (c,n)).1<=m:=by rw[Bs (by unfold AL;omega)];omega
 refine⟨?_,?_⟩
 . refine⟨a1,b1,c1,d1,e1,λ _=>trivial,λ _=>⟨λ _=>trivial,λ _=>⟨λ _=>trivial,λ _=>⟨λ _=>trivial,λ _=>⟨λ _=>f1,λ _=>⟨λ _=>trivial,λ _=>⟨λ _=>i1,λ _=>⟨λ _=>⟨λ _=>⟨g1,?_,?_⟩,λ _=>trivial⟩,λ _=>trivial⟩⟩⟩⟩⟩⟩⟩⟩
   . simp only[AH,AJ];omega
   . simp only[AH,AJ,Aw];omega
 generalize bSel (CE (c,n)).1 2 (iAdd .i64 1 (Hi (c,n)).1)=M at hM ⊢;generalize iAdd .i64 1 (Aq (c,56)).1=C at hC ⊢;generalize iAdd .i64 1 (Ej (c,n)).1=N at hN ⊢;generalize NR (c,n)=s7 at i2 i4 ⊢;generalize J1 (c,n)=s6 at g2 g4 ⊢;generalize NP (c,n)=s5 at f2 f4 ⊢;generalize AQ (c,n)=s4 at e2 e4 ⊢
 have hL:1<n->PH (lGet [(3,0,0,N),(4,0,0,N),(7,C,0,N)] (iNat s6.1) (0,0,0,0))/\(lGet [(3,0,0,N),(4,0,0,N),(7,C,0,N)] (iNat s6.1) (0,0,0,0):Int×Int×Int×Int).2.2.2<n:=by
  intro hn;have:=mn hn;rw[A3,Aw]
  have:s6.1=0\/s6.1=1\/s6.1=2:=by omega
  rcases this with e|e|e
  . rw[e];exact⟨⟨(DA 3 0 0 N).2 (by omega),by simp⟩,by show N<n;omega⟩
  . rw[e];exact⟨⟨(DA 4 0 0 N).2 (by omega),by simp⟩,by show N<n;omega⟩
  . rw[e];exact⟨⟨(DA 7 C 0 N).2 (by omega),by simp⟩,by show N<n;omega⟩
 generalize lGet [(3,0,0,N),(4,0,0,N),(7,C,0,N)] (iNat s6.1) (0,0,0,0)=L at hL ⊢
 have g:∀ (b:Bool) (p q:CI×A0),(B1 (c.1,p.2)/\PH p.1/\(p.1.1≠9->p.1.2.2.2<n))->(b=false->B1 (c.1,q.2)/\PH q.1/\(q.1.1≠9->q.1.2.2.2<n))->B1 (c.1,(bSel b p q).2)/\PH (bSel b p q).1/\((bSel b p q).1.1≠9->(bSel b p q).1.2.2.2<n):=λ b p q hp hq=>by
  rw[Bw];cases b
  . exact hq rfl
  . exact hp
 have hA:∀ (k c m z:Int),Br (k,c,m,z)=true->k≠1->(k≠9->z<n)->PH (k,c,m,z)/\(k≠9->z<n):=λ k c m z h1 h2 h3=>⟨⟨h1,h2⟩,h3⟩
 refine g _ _ _ ⟨?_,hA _ _ _ _ ((DA _ _ _ _).2 (by omega)) (by omega) (by omega)⟩ λ q0=>g _ _ _ ⟨e2,hA _ _ _ _ ((DA _ _ _ _).2 (by omega)) (by omega) (by omega)⟩ λ q1=>g _ _ _ ⟨e2,hA _ _ _ _ ((DA _ _ _ _).2 (by omega)) (by omega) (by omega)⟩ λ q2=>g _ _ _ ⟨e2,hA _ _ _ _ ((DA _ _ _ _).2 (by omega)) (by omega) (by omega)⟩ λ q3=>g _ _ _ ⟨e2,hA _ _ _ _ ((DA _ _ _ _).2 (by omega)) (by omega) (by omega)⟩ λ q4=>g _ _ _ ⟨f2,hA _ _ _ _ ((DA _ _ _ _).2 (by omega)) (by omega) (λ h=>absurd rfl h)⟩ λ q5=>g _ _ _ ⟨e2,hA _ _ _ _ ((DA _ _ _ _).2 (by omega)) (by omega) (by omega)⟩ λ q6=>g _ _ _ ⟨i2,hA _ _ _ _ ((DA _ _ _ _).2 (by omega)) (by omega) (by omega)⟩ λ q7=>?_
 . simp only[Bw,ite_self];exact e2
 . have hn:1<n:=by
    simp only[Az,AG,q1,q2,q3,q4,q5,q6,q7,Bool.not_false,LQ,AW,CG,B7,CM,Ap] at q0;exact q0.2
   exact⟨g2,(hL hn).1,λ _=>(hL hn).2⟩
section
set_option maxRecDepth 20000
abbrev Fz:=Int×Int×Int×Int
abbrev dg:=Int×DW×Df×Int×Bv×Int×Bool
theorem zZ{a b:Nat}(ha:a<4611686018427387904)(hb:b<4611686018427387904):iXor .i64 (a:Int) (b:Int)=((a ^^^ b:Nat):Int):=by
 have e:(BitVec.ofInt 64 (a:Int) ^^^ BitVec.ofInt 64 (b:Int)).toNat=a ^^^ b:=by
  rw[BitVec.ofInt_natCast,BitVec.ofInt_natCast,BitVec.toNat_xor,BitVec.toNat_ofNat,BitVec.toNat_ofNat,Nat.mod_eq_of_lt (by omega),Nat.mod_eq_of_lt (by omega)]
 have h:a ^^^ b<2^62:=Nat.xor_lt_two_pow (by omega) (by omega);rw[lI];show IntKind.i64.wrap ((BitVec.ofInt 64 (a:Int) ^^^ BitVec.ofInt 64 (b:Int)).toNat:Int)=_;rw[e];exact KA (by unfold AL;omega)
def FB(a b:Nat):Nat:=a &&& (15-b)
theorem wx:∀ a b:Fin 16,(BitVec.ofInt 64 (a.val:Int) &&& ~~~BitVec.ofInt 64 (b.val:Int)).toNat=FB a.val b.val:=by decide +kernel
theorem jY(a b:Nat):FB a b<=a:=Nat.and_le_left
theorem Zp{a b:Nat}(ha:a<16)(hb:b<16):iAndNot .i64 (a:Int) (b:Int)=((FB a b:Nat):Int):=by
 have e:(BitVec.ofInt 64 (a:Int) &&& ~~~BitVec.ofInt 64 (b:Int)).toNat=FB a b:=wx ⟨a,ha⟩ ⟨b,hb⟩;have h:=jY a b;rw[iQ];show IntKind.i64.wrap ((BitVec.ofInt 64 (a:Int) &&& ~~~BitVec.ofInt 64 (b:Int)).toNat:Int)=_;rw[e];exact KA (by unfold AL;omega)
theorem yn{n:Nat}(h:n<=40):iShl .i64 1 (n:Int)=((2^n:Nat):Int):=by
 have hp:2^n<=2^40:=Nat.pow_le_pow_right (by omega) h;have e:=Rq (a:=1) (k:=n) (by omega) (by rw[Gu];exact Nat.lt_of_le_of_lt hp (by decide));rwa [Gu] at e
theorem ve(c:Int):Ml c=IX c:=by
 rw[Ml,oh,Gj];simp only[Bw,AW,Bt,CL,DQ];by_cases h:1<=c
 . simp[h]
 . simp[h]
def Rw(w:Bool)(c:Int)(m on:Nat)(cp:Bool):Nat:=if (cp=true/\w=true)/\c<=26/\FB (m ||| on) 2=0 then 2 else m ||| on
def Ey(w:Bool)(x:dg)(a:Fz):Fz×dg:=
 if a.1=2 then
  if 0<a.2.1 then ((a.1,a.2.1,((Rw w a.2.1 a.2.2.1.toNat x.2.2.2.2.2.1.toNat x.2.2.2.2.2.2:Nat):Int),a.2.2.2),x.1,x.2.1,x.2.2.1,x.2.2.2.1,x.2.2.2.2.1,0,(x.2.2.2.2.2.2&&w))
  else (a,x)
 else if a.1=4 then (a,x.1,x.2.1,x.2.2.1,((x.2.2.2.1.toNat ^^^ 2^a.2.2.2.toNat:Nat):Int),x.2.2.2.2)
 else if a.1=5 then (a,x.1,x.2.1,x.2.2.1,((FB (2^a.2.2.2.toNat) 1:Nat):Int),x.2.2.2.2)
 else if a.1=8 then (a,x.1,x.2.1,x.2.2.1,x.2.2.2.1,x.2.2.2.2.1,((if x.2.2.2.2.2.1.toNat &&& a.2.2.1.toNat=a.2.2.1.toNat then FB x.2.2.2.2.2.1.toNat a.2.2.1.toNat else x.2.2.2.2.2.1.toNat ||| a.2.2.1.toNat:Nat):Int),x.2.2.2.2.2.2)
 else if a.1=10 then (a,x.1,x.2.1,x.2.2.1,x.2.2.2.1,x.2.2.2.2.1,x.2.2.2.2.2.1,!x.2.2.2.2.2.2)
 else (a,x)
theorem w9(x:dg)(a:Fz)(ha:Br a=true)(f0:0<=x.2.2.2.1)(f1:x.2.2.2.1<=15)(o0:0<=x.2.2.2.2.2.1)(o1:x.2.2.2.2.2.1<=15) :
 NQ (x,a,a)/\YJ (x,a,a)/\N0 (x,a,a)=Ey (IX a.2.1) x a/\YT (x,a,a)=Ey (IX a.2.1) x a:=by
 obtain⟨k,L,mc,f,hd,on,cp⟩:=x
 obtain⟨kd,c,m,n⟩:=a
 have h:=(DA kd c m n).1 ha
 simp only at f0 f1 o0 o1
 obtain⟨F,rfl⟩:=Int.eq_ofNat_of_zero_le f0
 obtain⟨O,rfl⟩:=Int.eq_ofNat_of_zero_le o0
 obtain⟨M,rfl⟩:=Int.eq_ofNat_of_zero_le (show 0<=m by omega)
 obtain⟨P,rfl⟩:=Int.eq_ofNat_of_zero_le (show 0<=n by omega)
 have hM:M<16:=by omega
 have hO:O<16:=by omega
 have hP:P<=3:=by omega
 have hor:M ||| O<2^4:=Nat.or_lt_two_pow (by omega) (by omega)
 have h24:(2:Nat)^4=16:=by decide
 have e2:((2:Nat):Int)=2:=rfl
 have h2P:2^P<=2^3:=Nat.pow_le_pow_right (by omega) hP
 have h23:(2:Nat)^3=8:=by decide
 have x1:iOr .i64 (M:Int) (O:Int)=((M ||| O:Nat):Int):=WD (by omega) (by omega)
 have x2:iAndNot .i64 ((M ||| O:Nat):Int) 2=((FB (M ||| O) 2:Nat):Int):=Zp (b:=2) (by omega) (by omega)
 have x3:iShl .i64 1 (P:Int)=((2^P:Nat):Int):=yn (by omega)
 have x4:iXor .i64 (F:Int) ((2^P:Nat):Int)=((F ^^^ 2^P:Nat):Int):=zZ (by omega) (by omega)
 have x5:iAndNot .i64 ((2^P:Nat):Int) 1=((FB (2^P) 1:Nat):Int):=Zp (b:=1) (by omega) (by omega)
 have x6:iAnd .i64 (O:Int) (M:Int)=((O &&& M:Nat):Int):=kv (by omega) (by omega)
 have x7:iAndNot .i64 (O:Int) (M:Int)=((FB O M:Nat):Int):=Zp hO hM
 have x8:iOr .i64 (O:Int) (M:Int)=((O ||| M:Nat):Int):=WD (by omega) (by omega)
 have z0:((FB (M ||| O) 2:Nat):Int)=0↔FB (M ||| O) 2=0:=by omega
 have z1:((O &&& M:Nat):Int)=(M:Int)↔O &&& M=M:=by omega
 refine⟨?_,?_,?_,?_⟩
 . rw[o9]
   simp only[tD,nV];exact⟨λ _=>⟨λ _=>by rw[Oy];trivial,λ _=>trivial⟩,λ _=>⟨λ _=>by omega,λ _=>⟨λ _=>by omega,λ _=>trivial⟩⟩⟩
 . rw[YJ]
   simp only[dx];exact⟨λ _=>⟨λ _=>trivial,λ _=>⟨λ _=>trivial,λ _=>trivial⟩⟩,λ _=>⟨λ _=>by omega,λ _=>⟨λ _=>by omega,λ _=>trivial⟩⟩⟩
 . rw[p5,tv]
   unfold Ey Rw;simp only[x1,x2,x3,x4,x5,x6,x7,x8,Bn];generalize IX c=w;simp only[Bw,AW,AG,Az,Bt,CG,DQ,z0,z1];by_cases k2:kd=2
   . by_cases hc:0<c
     . simp only[k2,hc,decide_true,G0,Bool.or_false,AK,AS,AO,RG];by_cases hw:(cp=true/\w=true)/\c<=26/\FB (M ||| O) 2=0
       . rw[Ac hw,Ac (by obtain⟨⟨a1,a2⟩,a3,a4⟩:=hw;simp[a1,a2,a3,a4])];obtain⟨⟨a1,a2⟩,a3,a4⟩:=hw;simp[a1,a2]
       . rw[Af hw,Af (by intro hh;apply hw;simp at hh;exact⟨⟨hh.1.2,hh.1.1⟩,hh.2⟩)];rw[Bool.and_comm]
     . simp only[k2,hc,decide_true,G0,decide_false,Bool.not_false,Bool.or_true,AO,AS]
   . simp only[k2,decide_false,Bool.not_false,Bool.true_or,AO,AS,AK];by_cases k4:kd=4
     . simp only[k4,decide_true,AO]
     . simp only[k4,decide_false,AS,AK];by_cases k5:kd=5
       . simp only[k5,decide_true,AO]
       . simp only[k5,decide_false,AS,AK];by_cases k8:kd=8
         . simp only[k8,decide_true,AO,Ap];split<;>rfl
         . simp only[k8,decide_false,AS,AK];by_cases k10:kd=10
           . simp only[k10,decide_true,AO]
           . simp only[k10,decide_false,AS,AK]
 . rw[YT]
   unfold Ey Rw;simp only[ve,x1,x2,x3,x4,x5,x6,x7,x8,Bn];generalize IX c=w;simp only[Bw,AW,AG,Az,Bt,CG,DQ,z0,z1];by_cases k2:kd=2
   . by_cases hc:0<c
     . have hc':¬ c=0:=by omega
       simp only[k2,hc,hc',decide_true,decide_false,G0,Bool.not_false,Bool.or_true,Bool.or_false,AK,AS,AO,RG,ite_self];by_cases hw:(cp=true/\w=true)/\c<=26/\FB (M ||| O) 2=0
       . rw[Ac hw,Ac (by obtain⟨⟨a1,a2⟩,a3,a4⟩:=hw;simp[a1,a2,a3,a4])];rfl
       . rw[Af hw,Af (by intro hh;apply hw;simpa using hh)]
     . have hc':c=0:=by omega
       simp only[k2,hc',decide_true,G0,Bool.or_false,AK,AS,AO];simp
   . simp only[k2,decide_false,Bool.not_false,Bool.true_or,AO,AS,AK];by_cases k4:kd=4
     . simp only[k4,decide_true,AO]
     . simp only[k4,decide_false,AS,AK];by_cases k5:kd=5
       . simp only[k5,decide_true,AO]
       . simp only[k5,decide_false,AS,AK];by_cases k8:kd=8
         . simp only[k8,decide_true,AO,Ap];split<;>rfl
         . simp only[k8,decide_false,AS,AK];by_cases k10:kd=10
           . simp only[k10,decide_true,AO]
           . simp only[k10,decide_false,AS,AK]
theorem Zae:∀ F:Fin 16,∀ P l:Fin 5,F.val % 2=0->1<=P.val->P.val<l.val->F.val<2^l.val->(F.val ^^^ 2^P.val) % 2=0/\F.val ^^^ 2^P.val<2^l.val:=by decide +kernel
theorem Zbl:∀ P l:Fin 5,P.val<l.val->(FB (2^P.val) 1) % 2=0/\FB (2^P.val) 1<2^l.val:=by decide +kernel
end
theorem tT(x:Si):NL x=FH x:=by
 rw[nI,dy,dK];generalize bNot (iLt (Al _ _ _) _)=L;simp only[Az,AG,AW,C8,Bt];by_cases h:x.1.1=x.2.1<;>simp[h]
theorem Uy(a b:Dt)(h:a.2.length<=1048576):Tp (a,b)/\NG (a,b):=by
 obtain⟨m,a⟩:=a;obtain⟨n,b⟩:=b;rw[n7,oc,pA];have h:a.length<=1048576:=h
 have lp:∀ {c:Int->Bool} {f:Int->Int} {p:Int->Prop},(∀ st,c st=true->st<a.length)->(∀ st,f st=iAdd .i64 st 1)->(∀ st:Int,0<=st->st<=a.length->p st)->LoopOk c f p 0:=λ hc hf hp=>
  Iu (λ st=>st) a.length (by omega) (λ st _ _ h=>hc st h) hf hp (by simp) (by simp)
 have cc:∀ {st:Int} {t:Bool},bAnd (iLt st (lLen a)) t=true->st<a.length:=λ {st t} h=>by
  rw[Az,Ao,An,Ah,Ap] at h;exact h.1
 have pp:a.length=b.length->∀ st:Int,0<=st->iLt st (lLen a)=true->(((0:Int)<=st/\st<(a.length:Int))/\iNat st<a.length/\((0:Int)<=st/\st<(b.length:Int))/\iNat st<b.length):=λ hl st h0 h1=>by
  rw[Ao,An,Ap] at h1;rw[Aw];omega
 refine⟨⟨λ _=>trivial,λ hb=>?_⟩,λ _=>⟨λ _=>trivial,λ hb=>?_⟩,λ _=>trivial⟩
 . simp only[AW,C8,An,B7,CM,Ap] at hb;exact lp (λ st hc=>cc hc) (λ _=>rfl) (λ st h0 h1=>⟨pp (by omega) st h0,λ _=>trivial⟩)
 . simp only[C8,An,CM,Ap] at hb;exact lp (λ st hc=>cc hc) (λ _=>rfl) (λ st h0 h1=>⟨pp (by omega) st h0,λ _=>trivial⟩)
section
set_option maxRecDepth 20000
abbrev Du:=Int×List Int
theorem YI(a b:Du)(h:a.2.length<=1048576):FH (a,b)=decide (a=b):=by
 obtain⟨m,x⟩:=a;obtain⟨n,y⟩:=b;simp only at h;rw[dy,dK];simp only
 rw[RI (c:=λ x0=>bAnd (iLt x0 (lLen x)) (bNot (iNe (lGet x (iNat x0) 0) (lGet y (iNat x0) 0)))) (f:=λ x0=>iAdd .i64 x0 1) x.length (λ i=>!decide (x.getD i 0=y.getD i 0)) (by omega)
  (λ i hi=>by simp only[Az,AG,C8,Ao,An,A3,Aw,Bn,G2,RG]) (λ i hi=>rfl)]
 have hall:=OD (t:=λ i=>!decide (x.getD i 0=y.getD i 0)) (n:=x.length);have hle:=Jg (λ i=>!decide (x.getD i 0=y.getD i 0)) x.length 0;generalize CP (λ i=>!decide (x.getD i 0=y.getD i 0)) x.length 0=q at hall hle;simp only[Az,AG,C8,Bt,Ao,An,RG];rw[Jz];simp only[Ah,BA,Ap,Bl,Am];constructor
 . rintro⟨h1,h2,h3⟩;refine⟨h1,List.ext_getElem (by omega) λ i hi hj=>?_⟩;have:=(hall.1 (by omega)) i hi;rw[CM,Ap,GS x 0 hi,GS y 0 hj] at this;exact this
 . rintro⟨rfl,rfl⟩
   have:=hall.2 λ i hi=>by simp
   refine⟨rfl,rfl,by omega⟩
theorem jr {α S T:Type} {c:S×Int×T->Bool} {f:S×Int×T->S×Int×T} {p:S×Int×T->Prop} (x:List α) (d:α) (g:S×T->α->S×T) (s0:S×T) (hl:x.length<=2097152)
 (hc:∀ (s:S×T) (i:Nat),i<=x.length->c (s.1,(i:Int),s.2)=decide (i<x.length)) (hf:∀ (i:Nat),i<x.length->f (((x.take i).foldl g s0).1,(i:Int),((x.take i).foldl g s0).2)=((g ((x.take i).foldl g s0) (x.getD i d)).1,iAdd .i64 (i:Int) 1,(g ((x.take i).foldl g s0) (x.getD i d)).2))
 (hp:∀ (i:Nat),i<=x.length->p (((x.take i).foldl g s0).1,(i:Int),((x.take i).foldl g s0).2)) :
 LoopOk c f p (s0.1,0,s0.2)/\Al c f (s0.1,0,s0.2)=((x.foldl g s0).1,(x.length:Int),(x.foldl g s0).2):=by
 have:=Ho (c:=c) (f:=f) (p:=p) x.length (λ i=>(((x.take i).foldl g s0).1,(i:Int),((x.take i).foldl g s0).2)) (x0:=(s0.1,0,s0.2)) rfl (λ k hk=>by
  refine⟨hp k (by omega),by rw[hc _ k (by omega)];simpa using hk,?_⟩;rw[hf k hk,Bs (by unfold AL;omega),<- Jh x d hk,List.foldl_append]
  simp) ⟨hp _ (by omega),by rw[hc _ _ (by omega)];simp⟩
 refine⟨this.1,?_⟩
 rw[this.2,Hw]
def FD(s:List Du×Du)(r:Du):List Du×Du:=(if s.2=r then s.1 else s.1++[r],r)
def Mh(p:Du)(l:List Du):List Du:=(l.foldl FD ([],p)).1
theorem Zad(p r:Du):Mh p [r]=if p=r then [] else [r]:=by unfold Mh;simp[FD]
theorem zr(P:Du->Prop)(p:Du)(hp:P p)(l:List Du)(h:∀ r∈l,P r):(l.foldl FD ([],p)).1.length<=l.length/\(∀ r∈(l.foldl FD ([],p)).1,P r)/\P (l.foldl FD ([],p)).2:=by
 have go : ∀ (l:List Du) (s:List Du×Du),(∀ r∈l,P r)->(∀ r∈s.1,P r)->P s.2->(l.foldl FD s).1.length<=s.1.length+l.length/\(∀ r∈(l.foldl FD s).1,P r)/\P (l.foldl FD s).2:=by
  intro l
  induction l with
  |nil=>intro s _ h2 h3;exact⟨by simp,h2,h3⟩
  | cons a l ih=>
    intro s h1 h2 h3;have ha:=h1 a GX
    have:=ih (FD s a) (λ r hr=>h1 r (List.mem_cons_of_mem _ hr)) (by
     intro r hr
     unfold FD at hr
     simp only at hr
     split at hr
     . exact h2 r hr
     . rw[CF,List.mem_singleton] at hr
       rcases hr with hr|rfl
       . exact h2 r hr
       . exact ha) ha
    refine⟨?_,this.2⟩;have h4:=this.1
    have h5:(FD s a).1.length<=s.1.length+1:=by
     unfold FD;simp only;split
     . omega
     . simp
    rw[List.foldl_cons,AH];omega
 have:=go l ([],p) h (by simp) hp;exact⟨by simpa using this.1,this.2⟩
def JE(r:Du):Prop:=r.2.length<=1048576
theorem fT(p:Du)(l:List Du)(hp:JE p)(hl:l.length<=2097152)(h:∀ r∈l,JE r) :
 P9 (p,l)/\PY (p,l)/\Qd (p,l)=Mh p l/\PZ (p,l)=Mh p l:=by
 have g1:∀ i:Nat,lGet l (iNat (i:Int)) (0,[])=l.getD i (0,[]):=λ i=>by rw[A3,Aw,Bn]
 have inv:=λ i:Nat=>zr JE p hp (l.take i) λ r hr=>h r (KH hr)
 have len:∀ i:Nat,(l.take i).length<=2097152:=λ i=>by rw[Eu];omega
 have cp:∀ r:Du,QH r=r:=λ r=>by rw[rG,BB,C3]
 have fs:∀ (s:List Du×Du) (r:Du),JE s.2->bSel (bNot (FH (s.2,r))) (s.1++[r]) s.1=(FD s r).1:=λ s r hs=>by
  rw[YI _ _ hs,Bw,AG];unfold FD;by_cases e:s.2=r
  . simp[e]
  . simp[e]
 obtain⟨a1,a2⟩:=jr (c:=Te (p,l)) (f:=Tf (p,l)) (p:=XI (p,l)) l (0,[]) FD ([],p) hl
  (λ s i hi=>by simp only[Te,Ao,An,G2])
  (λ i hi=>by
   obtain⟨_,_,i3⟩:=inv i;have:=fs _ (l.getD i (0,[])) i3;simp only[Tf,g1,tT,cp,BB]
   rw[this];rfl) (λ i hi=>by
   obtain⟨i1,_,i3⟩:=inv i;have li:=len i;simp only[XI,g1,Ao,An,Ap];refine⟨λ hlt=>?_,λ _=>trivial⟩;have hm:=h _ (DP l i (0,[]) (by omega));have hb:((0:Int)<=(i:Int)/\(i:Int)<(l.length:Int))/\iNat (i:Int)<l.length:=⟨⟨by omega,hlt⟩,by rw[Aw];omega⟩;refine⟨⟨hb.1,hb.2,(Uy _ _ i3).1,⟨λ _=>⟨hb.1,hb.2,?_,?_⟩,λ _=>trivial⟩⟩,hb⟩
   . rw[sE];unfold As JE at *;simp only[AJ];omega
   . unfold As;simp only[AH,AJ];omega)
 obtain⟨b1,b2⟩:=jr (c:=SX (p,l)) (f:=SW (p,l)) (p:=XF (p,l)) l (0,[]) FD ([],p) hl
  (λ s i hi=>by simp only[SX,Ao,An,G2])
  (λ i hi=>by
   obtain⟨_,_,i3⟩:=inv i;have:=fs _ (l.getD i (0,[])) i3;simp only[SW,g1,BB];rw[this]
   simp only[Bw,ite_self];rfl) (λ i hi=>by
   obtain⟨i1,_,i3⟩:=inv i;have li:=len i;simp only[XF,g1,Ao,An,Ap];refine⟨λ hlt=>?_,λ _=>trivial⟩;refine⟨⟨by omega,hlt⟩,by rw[Aw];omega,(Uy _ _ i3).2,λ _=>?_,λ _=>trivial⟩
   unfold As;simp only[AH,AJ];omega)
 rw[oJ,na,oB,nb]
 exact⟨a1,b1,by rw[a2];rfl,by rw[b2];rfl⟩
end
theorem VG (x):Fj x=Cj x:=by rw[sX,eO]
theorem ZU(x:HJ)(h:x.1.2.2.2.2.1.length<=1048576):QC x/\Oh x:=by
 rw[rT,rU]
 have:∀ {c:Int->Bool} {f:Int->Int} {p:Int->Prop},(∀ st,c st=true->st<x.1.2.2.2.2.1.length)->(∀ st,f st=iAdd .i64 st 1)->(∀ st:Int,0<=st->st<=x.1.2.2.2.2.1.length->p st)->LoopOk c f p 0:=λ hc hf hp=>
  Iu (λ st=>st) x.1.2.2.2.2.1.length (by omega) (λ st _ _ h=>hc st h) hf hp (by simp) (by simp)
 constructor
 all_goals
  refine this (λ st hc=>?_) (λ _=>rfl) (λ st h0 h1=>⟨λ hlt=>?_,λ _=>trivial⟩)
  . rw[Az,Ao,An,Ah,Ap] at hc;exact hc.1
  . rw[Ao,An,Ap] at hlt
    exact⟨⟨h0,hlt⟩,by rw[Aw];omega⟩
theorem tH(k:Int)(x:DW)(on key:Int)(hs:Gd (k,x))(h:¬ BM ((k,x),on,key)<0) :
 MapOk k x/\D9 (k,x)=true/\0<=key/\key<k/\0<=BM ((k,x),on,key)/\BM ((k,x),on,key)<x.length:=by
 rw[BM.eq_1,Bw] at h ⊢
 by_cases hb:bOr (bNot (D9 (k,x))) (bOr (iLt key 0) (iGe key k))=true
 . rw[Ac hb] at h;exact absurd (by decide) h
 . rw[Af hb] at h ⊢
   simp only[Ao,CL,AG,AW,Gs,B7,CM,Bl] at hb;obtain⟨hk,h0,h1⟩:=hb;have m:=Ga hs hk;refine⟨m,hk,by omega,by omega,by omega,?_⟩;rw[N5]
   have:=m.l1;have:=m.l2
   have hv:∀ {c:Int->Bool} {f:Int->Int},(∀ st,c st=true->0<st)->(∀ st,f st=iSub .i64 st 1)->bSel (iGt (Al c f (iSub .i64 (lLen x) 1)) 0) (Al c f (iSub .i64 (lLen x) 1)) 0<x.length:=by
    intro c f hc hf
    have:=(MC (c:=c) (f:=f) (λ st:Int=>0<=st/\st<x.length) (λ st=>st.toNat) (λ st hI hcc=>by
     have:=hc st hcc;rw[hf,EF (by unfold AL;omega)]
     omega) (x0:=iSub .i64 (lLen x) 1) (by rw[An,EF (by unfold AL;omega)];omega)).1
    rw[Bw];split<;>omega
   exact hv (λ st hc=>by rw[Az,CG,Ah,Ap] at hc;exact hc.1) (λ st=>rfl)
theorem vA(k:Int)(x:DW)(on key:Int)(hs:Gd (k,x)):TU ((k,x),on,key)=I7 ((k,x),on,key):=by
 rw[pk,I7];simp only[gX k x on key hs]
theorem vm(k:Int)(x:DW)(on key:Int)(hs:Gd (k,x)):TK ((k,x),on,key)/\dL ((k,x),on,key):=by
 obtain⟨o1,o2⟩:=gU k x on key hs;rw[p9,dL];simp only[gX k x on key hs]
 have fin:iLt (BM ((k,x),on,key)) 0=false->(((0:Int)<=BM ((k,x),on,key)/\BM ((k,x),on,key)<(x.length:Int))/\iNat (BM ((k,x),on,key))<x.length/\((0:Int)<=key/\key<((lGet x (iNat (BM ((k,x),on,key))) []).length:Int))/\iNat key<(lGet x (iNat (BM ((k,x),on,key))) []).length):=by
  intro h;rw[Ao,Bl] at h;obtain⟨m,_,h0,h1,h2,h3⟩:=tH k x on key hs h;have:=m.row (BM ((k,x),on,key)).toNat (by omega);rw[A3,Aw,Aw];omega
 exact⟨⟨o1,λ _=>trivial,fin⟩,o2,λ _=>trivial,fin⟩
theorem ie{c:Int->Bool}{f:Int->Int}{n:Nat}(hn:n<=1048576)(h1:∀ i:Nat,i<n->c i=true)(h2:c n=false)(h3:∀ i:Int,f i=iAdd .i64 i 1):Al c f 0=(n:Int):=
 (Ho (p:=λ _=>True) n (λ i=>(i:Int)) rfl (λ i hi=>⟨trivial,h1 i hi,by rw[h3,Bs (by unfold AL;omega)];omega⟩) ⟨trivial,h2⟩).2
theorem jK{k:Int}{x:List G5}(h:MapOk k x):D9 (k,x)=true:=by
 obtain⟨k1,k2,l1,l2,row,act⟩:=h;rw[Yi];rw[ie (n:=x.length) (by omega) ?_ ?_ λ _=>rfl]
 . simp only[Az,AG,AW,Ao,CG,An];simp;omega
 . intro i hi
   have e:lGet x (iNat (i:Int)) []=x.getD i []:=by rw[A3,Aw,Bn]
   have hr:=row i hi;rw[ie (n:=(x.getD i []).length) (by omega) ?_ ?_ λ _=>rfl]
   . simp only[e,Az,AG,Ao,C8,An,hr];simp;omega
   . intro j hj;have hact:=act i j hi hj
     have e2:lGet (x.getD i []) (iNat (j:Int)) (0,0,0,0)=(x.getD i []).getD j (0,0,0,0):=by rw[A3,Aw,Bn]
     simp only[e,e2,Az,AG,AW,Bw,Ao,Bt,C8,CL,An];generalize (x.getD i []).getD j (0,0,0,0)=a at hact ⊢;obtain⟨a1,a2,a3⟩:=hact;rw[a1]
     have hj':(j:Int)<((x.getD i []).length:Int):=by omega
     simp only[hj',decide_true,LQ,G0,Bool.false_or]
     have h10:(!decide (a.1=9)&&decide ((x.length:Int)<=a.2.2.2))=false:=by
      by_cases h9:a.1=9
      . rw[Ii h9];rfl
      . have:=a3 h9;rw[Ee (by omega:¬ (x.length:Int)<=a.2.2.2),Bool.and_false]
     by_cases hz:i=0
     . have:=a2 hz;rw[h10,Ee this];simp
     . rw[h10];simp[hz]
   . simp only[e,Az,Ao,An];simp
 . simp only[Az,Ao,An];simp
def Zbv(n:Int)(i:Int)(a:CI):Prop:=Br a=true/\(i=0->a.1≠1)/\(a.1≠9->a.2.2.2<n)
def Xe(k n:Int)(i:Int)(r:G5):Prop:=(r.length:Int)=k/\∀ a∈r,Zbv n i a
def RO(k n:Int)(x:DW):Prop:=∀ i:Nat,i<x.length->Xe k n i (x.getD i [])
theorem zx{k:Int}{x:List G5}(k1:1<=k)(k2:k<=32)(l1:1<=x.length)(l2:x.length<=4)(h:RO k x.length x):MapOk k x:=
 ⟨k1,k2,l1,l2,λ i hi=>(h i hi).1,λ i j hi hj=>by
  obtain⟨a,b,c⟩:=(h i hi).2 _ (DP _ j (0,0,0,0) hj)
  exact⟨a,λ e=>b (by omega),c⟩⟩
theorem xl{k n:Int}{x:List G5}{r:List CI}(h:RO k n x)(hr:Xe k n x.length r):RO k n (x++[r]):=by
 intro i hi;simp only[Cz,AH,AJ] at hi;by_cases hl:i<x.length
 . rw[D3,Bz hl,<- D3];exact h i hl
 . have:i=x.length:=by omega
   subst this;rw[D3,Dd (BN _)];simpa using hr
theorem xq(c:CB)(k:Int)(x0:Ng)(h:B1 (c.1,x0.2.2))(k0:0<=k)(k2:k<=32)(hn:1<=iAdd .i64 1 (Aq (c,4)).1/\iAdd .i64 1 (Aq (c,4)).1<=4) :
 LoopOk (HV (c,k)) (IY (c,k) x0) (TD (c,k) x0) ([],0,x0.2.2) /\
 Xe k (iAdd .i64 1 (Aq (c,4)).1) x0.1 (Al (HV (c,k)) (IY (c,k) x0) ([],0,x0.2.2)).1 /\
 B1 (c.1,(Al (HV (c,k)) (IY (c,k) x0) ([],0,x0.2.2)).2.2):=by
 have key:=Kv (c:=HV (c,k)) (f:=IY (c,k) x0) (p:=TD (c,k) x0)
  (λ st=>B1 (c.1,st.2.2)/\0<=st.2.1/\st.2.1<=k/\Xe st.2.1 (iAdd .i64 1 (Aq (c,4)).1) x0.1 st.1) (λ st=>(k-st.2.1).toNat) (λ st hI=>by
  obtain⟨r,j,cu⟩:=st
  obtain⟨i0,i1,i2,i3,i4⟩:=hI
  simp only at i0 i1 i2 i3 i4
  have s1:iAdd .i64 j 1=j+1:=Bs (by unfold AL;omega)
  unfold TD IY HV
  simp only[s1,BB,Ao,CG,Az,Ap]
  generalize iAdd .i64 1 (Aq (c,4)).1=n at hn i4 ⊢
  obtain⟨d1,d2,d3,d4⟩:=ZaG (c.1,cu) n i0 hn.1 hn.2
  generalize Ck ((c.1,cu),n)=D at d2 d3 d4 ⊢
  obtain⟨o1,o2⟩:=Wn (c.1,D.2) 3 d2
  simp only at o2
  generalize Ct ((c.1,D.2),3)=O at o2 ⊢
  refine⟨⟨λ hc=>⟨d1,⟨λ _=>o1,λ _=>trivial⟩,?_⟩,λ _=>trivial⟩,λ hc=>⟨⟨?_,by omega,by omega,by simp only[Cz,AH,AJ];omega,?_⟩,by omega⟩⟩
  . unfold As;simp only[AH,AJ];omega
  . simp only[Bw]
    by_cases hx:0<x0.1
    . simp only[hx,decide_true,AO,LQ,ite_self];exact o2
    . simp only[hx,decide_false,Xh,AK,AS];exact d2
  . intro a ha
    rw[CF,List.mem_singleton] at ha;rcases ha with ha|rfl
    . exact i4 a ha
    . simp only[Bw];split
      . rename_i hb;rw[Ah,Ap] at hb;exact⟨(DA 1 0 0 0).2 (by omega),λ h=>by omega,λ _=>by simp only;omega⟩
      . exact⟨d3.1,λ _=>d3.2,d4⟩) (x0:=([],0,x0.2.2)) ⟨h,by simp,k0,by simp,by simp⟩
 obtain⟨q1,⟨q2,q3,q4,q5⟩,q6⟩:=key
 refine⟨q1,?_,q2⟩
 generalize Al (HV (c,k)) (IY (c,k) x0) ([],0,x0.2.2)=st at *
 unfold HV at q6
 simp only[Ao,Bl] at q6
 have:st.2.1=k:=by omega
 rw[this] at q5
 exact q5
theorem zj(c:CB)(k:Int)(h:B1 c)(k0:1<=k)(k2:k<=32) :
 N7 (c,k)/\B1 (c.1,(H7 (c,k)).2)/\MapOk k (H7 (c,k)).1.2/\(H7 (c,k)).1.1=k:=by
 rw[sf,rO]
 obtain⟨b1,b2,_,b4⟩:=Fo c 4 h
 have b4:=b4 (by omega)
 have hn:1<=iAdd .i64 1 (Aq (c,4)).1/\iAdd .i64 1 (Aq (c,4)).1<=4:=by rw[Bs (by unfold AL;omega)];omega
 have key:=Kv (c:=Mq (c,k)) (f:=NT (c,k)) (p:=Ye (c,k))
  (λ st=>B1 (c.1,st.2.2)/\0<=st.1/\st.1<=iAdd .i64 1 (Aq (c,4)).1/\(st.2.1.length:Int)=st.1/\RO k (iAdd .i64 1 (Aq (c,4)).1) st.2.1) (λ st=>(iAdd .i64 1 (Aq (c,4)).1-st.1).toNat) (λ st hI=>by
  obtain⟨i,x,cu⟩:=st
  obtain⟨i0,i1,i2,i3,i4⟩:=hI
  simp only at i0 i1 i2 i3 i4
  have s1:iAdd .i64 i 1=i+1:=Bs (by unfold AL;omega)
  obtain⟨r1,r2,r3⟩:=xq c k (i,x,cu) i0 (by omega) k2 hn
  unfold Ye NT Mq
  simp only[s1,BB,Ao,Ap] at r1 r2 r3 ⊢
  refine⟨⟨λ hc=>⟨r1,?_⟩,λ _=>trivial⟩,λ hc=>⟨⟨r3,by omega,by omega,by simp only[Cz,AH,AJ];omega,xl i4 (by rw[i3];exact r2)⟩,by omega⟩⟩
  unfold As;simp only[AH,AJ];omega) (x0:=(0,[],(Aq (c,4)).2)) ⟨b2,by simp,by simp only;omega,by simp,λ i hi=>by simp at hi⟩
 obtain⟨q1,⟨q2,q3,q4,q5,q6⟩,q7⟩:=key
 generalize Al (Mq (c,k)) (NT (c,k)) (0,[],(Aq (c,4)).2)=st at *
 unfold Mq at q7
 simp only[Ao,Bl] at q7
 have e:st.1=iAdd .i64 1 (Aq (c,4)).1:=by omega
 have l1:1<=st.2.1.length:=by omega
 have l2:st.2.1.length<=4:=by omega
 refine⟨⟨b1,q1⟩,q2,zx k0 k2 l1 l2 ?_,rfl⟩
 show RO k (st.2.1.length:Int) st.2.1
 rw[q5,e];exact q6
theorem ir(x:A5)(k:Int)(h:x.length<=1048576):Mt (x,k)/\B1 (Jb (x,k)):=by
 rw[rX,sG];obtain⟨n1,n2,n3⟩:=Zbg x h;exact⟨n1,n2⟩
theorem ti(x:A5)(p n:Int)(h:x.length<=1048576)(hn:0<n):Tt (x,p,n)/\0<=NM (x,p,n)/\NM (x,p,n)<n:=by
 rw[nB,nH];obtain⟨a1,a2⟩:=ir x p h;obtain⟨b1,b2,_,b4⟩:=Fo _ n a2;exact⟨⟨a1,b1⟩,b4 hn⟩
theorem ZaZ{k:Int}{x:List G5}(h:MapOk k x):Gd (k,x):=by
 have:=h.k2;have:=h.l2;refine⟨⟨by show x.length<=1048576;omega,λ r hr=>?_⟩,trivial⟩;obtain⟨i,hi,rfl⟩:=List.mem_iff_getElem.1 hr;have:=h.row i hi;rw[D3,Bg hi,Hq] at this;exact⟨by omega,λ a _=>by simp[ZN]⟩
theorem xp(T:Int->Bool){c:Int->Bool}{f:Int->Int}{n:Nat}(h1:1<=n)(h2:n<=4)(hc:∀ st,c st=(decide (0<st)&&!T st))(hf:∀ st,f st=iSub .i64 st 1) :
 0<=Al c f ((n:Int)-1)/\Al c f ((n:Int)-1)<n/\(0<Al c f ((n:Int)-1)->T (Al c f ((n:Int)-1))=true)/\∀ p:Int,Al c f ((n:Int)-1)<p->p<n->T p=false:=by
 have key:=MC (c:=c) (f:=f) (λ st:Int=>0<=st/\st<n/\∀ p:Int,st<p->p<n->T p=false) (λ st=>st.toNat) (λ st hI hcc=>by
  obtain⟨i1,i2,i3⟩:=hI;rw[hc,Ah,Ap,BA] at hcc;rw[hf,EF (by unfold AL;omega)];refine⟨⟨by omega,by omega,λ p p1 p2=>?_⟩,by omega⟩;by_cases e:p=st
  . rw[e];exact hcc.2
  . exact i3 p (by omega) p2) (x0:=(n:Int)-1) ⟨by omega,by omega,λ p p1 p2=>by omega⟩
 obtain⟨⟨k1,k2,k3⟩,k4⟩:=key
 refine⟨k1,k2,λ h0=>?_,k3⟩
 rw[hc,Ii h0,LQ,CM] at k4
 exact k4
theorem fE{k:Int}{x:List G5}(hm:MapOk k x)(on key:Int)(h0:0<=key)(h1:key<k) :
 0<=BM ((k,x),on,key)/\BM ((k,x),on,key)<x.length /\
 (0<BM ((k,x),on,key)->iAnd .i64 (iShr .i64 on (BM ((k,x),on,key))) 1=1/\((x.getD (BM ((k,x),on,key)).toNat []).getD key.toNat (0,0,0,0)).1≠1) /\
 ∀ p:Int,BM ((k,x),on,key)<p->p<x.length->¬ (iAnd .i64 (iShr .i64 on p) 1=1/\((x.getD p.toNat []).getD key.toNat (0,0,0,0)).1≠1):=by
 have l1:=hm.l1
 have l2:=hm.l2
 rw[BM.eq_1,Bw,jK hm]
 have hb:bOr (bNot true) (bOr (iLt key 0) (iGe key k))=false:=by
  rw[AW,AW,AG,Ao,CL,Ee (by omega),Ee (by omega)];rfl
 simp only[hb,AK,AS]
 rw[N5]
 simp only
 rw[An,EF (by unfold AL;omega)]
 obtain⟨q1,q2,q3,q4⟩:=xp (n:=x.length) (λ st=>decide (iAnd .i64 (iShr .i64 on st) 1=1)&&!decide (((x.getD st.toNat []).getD key.toNat (0,0,0,0)).1=1)) (c:=fun(x0:Int)=>(bAnd (iGt x0 0) (bNot (bAnd (iEq (Ep (on,x0)) 1) (iNe (lGet (lGet x (iNat x0) []) (iNat key) (0,0,0,0)).1 1))))) (f:=fun(x0:Int)=>(iSub .i64 x0 1)) l1 l2
  (λ st=>by simp only[Az,AG,CG,Bt,C8,Vj,A3,Aw]) (λ st=>rfl)
 generalize Al _ _ ((x.length:Int)-1)=st at *
 have e:bSel (iGt st 0) st 0=st:=by rw[Bw,CG];split<;>simp_all<;>omega
 rw[e]
 simp only[Ah,BA,Ap,Bl,FX,CM] at q3 q4
 refine⟨q1,q2,q3,λ p p1 p2 h=>?_⟩
 rcases q4 p p1 p2 with h4|h4
 . exact h4 h.1
 . exact h.2 h4
theorem kB{a b:List Int}(ha:a.Pairwise (· < ·))(hb:b.Pairwise (· < ·))(h:∀ x,x∈a↔x∈b):a=b:=by
 induction a generalizing b with
 | nil=>
   cases b with
   |nil=>rfl
   |cons y b=>exact absurd ((h y).2 GX) List.not_mem_nil
 | cons x a ih=>
   cases b with
   |nil=>exact absurd ((h x).1 GX) List.not_mem_nil
   | cons y b=>
     obtain⟨a1,a2⟩:=List.pairwise_cons.1 ha;obtain⟨b1,b2⟩:=List.pairwise_cons.1 hb
     have e:x=y:=by
      rcases Cv.1 ((h x).1 GX) with e|e
      . exact e
      . rcases Cv.1 ((h y).2 GX) with g|g
        . exact g.symm
        . have:=a1 _ g;have:=b1 _ e;omega
     subst e;congr 1
     refine ih a2 b2 λ z=>⟨λ hz=>?_,λ hz=>?_⟩
     . rcases Cv.1 ((h z).1 (List.mem_cons_of_mem _ hz)) with e|e
       . subst e;have:=a1 _ hz;omega
       . exact e
     . rcases Cv.1 ((h z).2 (List.mem_cons_of_mem _ hz)) with e|e
       . subst e;have:=b1 _ hz;omega
       . exact e
theorem j9 {α:Type} {c:Int->Bool} {f:Int->Int} {p:Int->Prop} (x:List α) (d:α) (q:α->Bool) (hl:x.length<=1048576)
 (hc:∀ i:Nat,i<=x.length->c (i:Int)=(decide (i<x.length)&&!q (x.getD i d))) (hf:∀ i:Nat,i<x.length->f (i:Int)=iAdd .i64 (i:Int) 1) (hp:∀ i:Nat,i<=x.length->p (i:Int)) :
 LoopOk c f p 0/\iLt (Al c f 0) (lLen x)=x.any q:=by
 obtain⟨h1,k,hk,h2,h3⟩:=ZaC (c:=c) (f:=f) (p:=p) (x0:=0) x.length (λ i=>(i:Int)) (λ i=>!q (x.getD i d)) rfl (λ i hi _=>hc i hi) (λ i hi _=>by rw[hf i hi,Bs (by unfold AL;omega)];simp) (λ i hi _=>hp i hi)
 refine⟨h1,?_⟩
 rw[h2,Ao,An,Jz,Ap,List.any_eq_true]
 constructor
 . intro h
   have h4:¬ ∀ i,i<x.length->(!q (x.getD i d))=true:=λ hh=>by have:=h3.2 hh;omega
   simp only[Classical.not_forall,BA,IC] at h4;obtain⟨i,hi,g⟩:=h4;exact⟨_,DP x i d hi,g⟩
 . rintro⟨a,ha,g⟩
   obtain⟨i,hi,rfl⟩:=Ir ha
   have h5:k≠x.length:=λ e=>by
    have:=h3.1 e i hi;rw[GS x d hi,g] at this;exact absurd this (by decide)
   omega
theorem xg(l:A5)(v:Int)(hl:l.length<=1048576):Uf (l,v)/\Ox (l,v)=decide (v∈l):=by
 rw[sA,rR]
 obtain⟨h1,h2⟩:=j9 (c:=TA (l,v)) (f:=Yh) (p:=Yg (l,v)) l 0 (λ a=>decide (a=v)) hl
  (λ i hi=>by simp only[TA,Az,Ao,An,AG,Bt,A3,Aw,Bn,G2])
  (λ i hi=>rfl) (λ i hi=>by
   simp only[Yg,Ao,An,Aw,Bn,Ap]
   exact⟨λ h=>⟨⟨by omega,by omega⟩,by omega⟩,λ _=>trivial⟩)
 refine⟨h1,?_⟩;rw[h2,Jz,List.any_eq_true,Ap];constructor
 . rintro⟨a,ha,g⟩;rw[Ap] at g;exact g▸ha
 . intro h;exact⟨v,h,by simp⟩
def ZaM(C l:A5):Prop:=l.Pairwise (· < ·)/\∀ z,z∈l↔(z∈C/\z≠0)
theorem yo{α:Type}(x:List α)(d:α){i:Nat}(h:i<x.length)(z:α):z∈x.take (i+1)↔z∈x.take i\/z=x.getD i d:=by
 rw[<- Jh x d h,CF,List.mem_singleton]
theorem z7{α:Type}(x:List α){i:Nat}{z:α}(h:z∈x.take i):∃ j,∃ (hj:j<x.length),j<i/\z=x[j]:=by
 obtain⟨j,hj,rfl⟩:=Ir h;rw[Eu] at hj;exact⟨j,by omega,by omega,List.getElem_take ..⟩
theorem gS(C:A5)(hl:C.length<=1048576):Qt C/\ZaM C (Le C)/\(Le C).length<=C.length:=by
 rw[qM,qE];simp only[dG,TI,DMk.ok]
 have hs:(DZ C 0).1=Dp C:=by rw[fA]
 have hsl:=ZE C
 have hso:(Dp C).Pairwise (λ a b=>a<=b):=by
  have:=List.pairwise_mergeSort (le:=λ x y:Int=>decide (x<=y)) (by simp;intros;omega) (by simp;intros;omega) C;exact this.imp (by simp)
 have hmem:∀ z,z∈Dp C↔z∈C:=λ z=>(List.mergeSort_perm C _).mem_iff
 generalize Dp C=S at hs hsl hso hmem
 have key := O6 (c:=P8 C) (f:=Tv C) (p:=XW C) (x0:=([],0))
  (λ st=>∃ i:Nat,st.2=(i:Int)/\i<=S.length/\st.1.length<=i/\st.1.Pairwise (· < ·)/\∀ z,z∈st.1↔(z∈S.take i/\z≠0)) (λ st=>S.length-st.2.toNat) (by
  rintro⟨l,n⟩ ⟨i,h1,hi,hli,hp,hm⟩
  simp only at h1 hli hp hm
  subst h1
  simp only[P8,Tv,XW,TI,hs,Ao,An,A3,Aw,Bn,Ap]
  generalize hv:S.getD i 0=v
  obtain⟨g1,g2⟩:=xg l v (by omega)
  have r1:As ((l.length+[v].length)*1):=by unfold As;simp only[AH,AJ];omega
  refine⟨⟨λ h=>⟨⟨by omega,by omega⟩,by omega,⟨λ _=>g1,λ _=>trivial⟩,⟨λ _=>r1,λ _=>trivial⟩⟩,λ _=>trivial⟩,λ h=>?_⟩
  have hi':i<S.length:=by omega
  refine⟨⟨i+1,by rw[Bs (by unfold AL;omega)];simp,by omega,?_,?_,?_⟩,by rw[Bs (by unfold AL;omega)];omega⟩
  . rw[Bw,BB];split
    . simp only[Cz,AH,AJ];omega
    . omega
  . rw[Bw,BB];split
    . next hb=>
      rw[Az,AG,g2,Ah,C8] at hb;obtain⟨b1,b2⟩:=hb;simp only[BA,Bl] at b2;refine List.pairwise_append.2 ⟨hp,List.pairwise_singleton _ _,λ a ha b hb=>?_⟩;rw[List.mem_singleton] at hb;subst hb;obtain⟨j,hj,hji,e⟩:=z7 S ((hm a).1 ha).1;have hle:=List.pairwise_iff_getElem.1 hso j i hj hi' hji;rw[<- GS S 0 hi',hv] at hle
      have:a≠b:=λ e=>b2 (e▸ha)
      omega
    . exact hp
  . intro z
    rw[yo S 0 hi',hv,Bw,BB];split
    . next hb=>
      rw[Az,AG,g2,Ah,C8] at hb;obtain⟨b1,b2⟩:=hb
      have b1:v≠0:=by simpa using b1
      rw[CF,List.mem_singleton,hm];constructor
      . rintro(⟨h3,h4⟩|e)
        . exact⟨.inl h3,h4⟩
        . exact⟨.inr e,e▸b1⟩
      . rintro⟨h3|e,h4⟩
        . exact .inl ⟨h3,h4⟩
        . exact .inr e
    . next hb=>
      rw[Az,AG,g2,Ah,C8] at hb;rw[hm];constructor
      . rintro⟨h3,h4⟩;exact⟨.inl h3,h4⟩
      . rintro⟨h3|e,h4⟩
        . exact⟨h3,h4⟩
        . subst e
          have hz:z∈l:=by
           refine Classical.byContradiction λ hn=>hb ⟨by simpa using h4,by simpa using hn⟩
          exact(hm z).1 hz) ⟨0,rfl,Gt _,BN _,List.Pairwise.nil,by simp⟩
 obtain⟨k1,⟨i,k2,k3,k4,k5,k6⟩,k7⟩:=key;simp only[P8,TI,hs,k2,Ao,An,Bl] at k7
 have:i=S.length:=by omega
 subst this;rw[Hw] at k6;refine⟨⟨by unfold As;omega,⟨trivial,by rw[e9];show C.length<4611686018427387904;omega⟩,k1⟩,⟨k5,λ z=>by rw[k6,hmem]⟩,by omega⟩
theorem YO{a:Int×Int×Int×Int}(h:Br a=true):0<=a.2.1/\a.2.1<=56:=by
 rw[Qi] at h;simp only[Bw,AW,Az,Bt,C8,Ul,CL,DQ] at h
 repeat' split at h
 all_goals simp only[Ah,Cm,BA,CM,FX,B7,Ap,Bl,Gs,IC,AV,Jn] at *
 all_goals omega
def Cy(x:BR):List Int:=x.map λ a=>a.2.2.1
theorem gT(x:BR){i:Nat}(h:i<x.length):(Cy x).getD i 0=(x.getD i (0,0,0,0,0)).2.2.1:=by
 rw[GS x _ h,GS (Cy x) 0 (by simpa [Cy] using h)];simp[Cy]
theorem jA(x:BR)(hl:x.length<=1048576) :
 LoopOk Hh (IW x) (XM x) (1,[])/\(Al Hh (IW x) (1,[])).2.Pairwise (· < ·)/\∀ z,z∈(Al Hh (IW x) (1,[])).2↔(z∈Cy x/\1<=z/\z<=56):=by
 have inner:∀ (c:Int) (l:A5),l.length<=60->LoopOk (K3 x (c,l)) NI (Tq x (c,l)) 0/\iLt (Al (K3 x (c,l)) NI 0) (lLen x)=decide (c∈Cy x):=by
  intro c l hll
  obtain⟨h1,h2⟩:=j9 (c:=K3 x (c,l)) (f:=NI) (p:=Tq x (c,l)) x (0,0,0,0,0) (λ a=>decide (a.2.2.1=c)) hl
   (λ i hi=>by simp only[K3,Az,Ao,An,AG,Bt,A3,Aw,Bn,G2])
   (λ i hi=>rfl) (λ i hi=>by
    have r1:As ((l.length+[c].length)*1):=by unfold As;simp only[AH,AJ];omega
    simp only[Tq,Ao,An,Aw,Bn,Ap]
    exact⟨λ h=>⟨⟨by omega,by omega⟩,by omega,λ _=>r1,λ _=>trivial⟩,λ _=>trivial⟩)
  refine⟨h1,?_⟩;rw[h2,Jz,List.any_eq_true,Ap,Cy,List.mem_map];simp only[Ap]
 have key:=O6 (c:=Hh) (f:=IW x) (p:=XM x) (x0:=(1,[]))
  (λ st=>1<=st.1/\st.1<=57/\(st.2.length:Int)<st.1/\st.2.Pairwise (· < ·)/\∀ z,z∈st.2↔(z∈Cy x/\1<=z/\z<st.1)) (λ st=>57-st.1.toNat) (by
  rintro⟨c,l⟩ ⟨h1,h2,h3,h4,h5⟩
  simp only at h1 h2 h3 h4 h5
  obtain⟨i1,i2⟩:=inner c l (by omega)
  refine⟨⟨λ _=>i1,λ _=>trivial⟩,λ h=>?_⟩
  simp only[Hh,DQ,Ap] at h
  have s1:iAdd .i64 c 1=c+1:=Bs (by unfold AL;omega)
  simp only[IW,s1,i2,Bw,BB,Ap]
  refine⟨⟨by omega,by omega,?_,?_,λ z=>?_⟩,by omega⟩
  . split
    . simp only[Cz,AH,AJ];omega
    . omega
  . split
    . refine List.pairwise_append.2 ⟨h4,List.pairwise_singleton _ _,λ a ha b hb=>?_⟩;rw[List.mem_singleton] at hb;have:=((h5 a).1 ha).2.2;omega
    . exact h4
  . split
    . next hb=>
      rw[CF,List.mem_singleton,h5];constructor
      . rintro(⟨a1,a2,a3⟩|e)
        . exact⟨a1,a2,by omega⟩
        . subst e;exact⟨hb,by omega,by omega⟩
      . rintro⟨a1,a2,a3⟩;by_cases e:z=c
        . exact .inr e
        . exact .inl ⟨a1,a2,by omega⟩
    . next hb=>
      rw[h5];constructor
      . rintro⟨a1,a2,a3⟩;exact⟨a1,a2,by omega⟩
      . rintro⟨a1,a2,a3⟩
        have:z≠c:=λ e=>hb (e▸a1)
        exact⟨a1,a2,by omega⟩) ⟨by simp,by simp,by simp,List.Pairwise.nil,by simp⟩
 obtain⟨k1,⟨k2,k3,k4,k5,k6⟩,k7⟩:=key
 simp only[Hh,DQ,Bl] at k7
 refine⟨k1,k5,λ z=>?_⟩
 rw[k6]
 constructor
 . rintro⟨a,b,c⟩;exact⟨a,b,by omega⟩
 . rintro⟨a,b,c⟩;exact⟨a,b,by omega⟩
theorem Zam(x:BR)(hl:x.length<=1048576) :
 LoopOk (JP x) (NF x) (Tm x) (0,0)/\LoopOk (JN x) (JQ x) (Tl x) ([],0,0) /\
 (Al (JN x) (JQ x) ([],0,0)).2.2=(Al (JP x) (NF x) (0,0)).2/\(Al (JN x) (JQ x) ([],0,0)).1=Cy x:=by
 obtain⟨a1,a2,⟨i,h1,h2,h3⟩,a4⟩:=au (c:=JP x) (f:=NF x) (p:=Tm x) (d:=JN x) (g:=JQ x) (q:=Tl x) (x0:=(0,0)) (y0:=([],0,0))
  (λ s t=>∃ i:Nat,i<=x.length/\s.1=(i:Int)/\t=((Cy x).take i,s.1,s.2)) (λ s=>x.length-s.1.toNat) (by
   rintro⟨n,m⟩ t ⟨i,hi,h1,rfl⟩
   simp only at h1
   subst h1
   have hcl:(Cy x).length=x.length:=by simp[Cy]
   have hlen:((Cy x).take i).length=i:=by rw[Eu];omega
   have s1:iAdd .i64 (i:Int) 1=(i:Int)+1:=Bs (by unfold AL;omega)
   simp only[JP,NF,Tm,JN,JQ,Tl,Ao,An,Aw,Bn,Ap,s1,hlen,AH,AJ,BB,A3]
   refine⟨⟨λ h=>⟨⟨⟨by omega,by omega⟩,by omega,λ _=>trivial,λ _=>⟨⟨by omega,by omega⟩,by omega⟩⟩,λ _=>⟨⟨by omega,by omega⟩,by omega⟩,λ _=>trivial⟩,λ _=>trivial⟩,⟨λ h=>⟨⟨by omega,by omega⟩,by omega,by unfold As;omega⟩,λ _=>trivial⟩,trivial,λ h=>⟨⟨i+1,by omega,by omega,?_⟩,by omega⟩⟩
   have hi':i<x.length:=by omega
   rw[<- Jh (Cy x) 0 (by omega),gT x hi']) ⟨0,by omega,rfl,rfl⟩
 refine⟨a1,a2,by rw[h3],?_⟩
 rw[h3]
 simp only[JP,h2,Ao,An,Bl] at a4
 rw[Pu]
 simp only[Cy,A6];omega
theorem Je(x:BR)(hl:x.length<=1048576):Lb x/\JY x/\BL x=Bb x/\(BL x).2.length<=1048576:=by
 rw[o6,pI,Yc,pX,OP];have o1:=TJ x hl;have o2:=TR x hl;by_cases h:Cu x=true
 . obtain⟨m1,m2,m3,m4⟩:=Zam x hl;obtain⟨s1,s2,s3⟩:=jA x hl
   have hcl:(Cy x).length=x.length:=by simp[Cy]
   obtain⟨c1,⟨c2,c3⟩,c4⟩:=gS (Cy x) (by omega);have hh:=Q4 hl h
   have e:Le (Cy x)=(Al Hh (IW x) (1,[])).2:=kB c2 s2 λ z=>by
    rw[c3,s3];constructor
    . rintro⟨a,b⟩;refine⟨a,?_⟩;obtain⟨k,hk,rfl⟩:=List.mem_map.1 a;have:=YO (hh k hk).2.2.1;omega
    . rintro⟨a,b,c⟩;exact⟨a,by omega⟩
   rw[m3,m4,<- e];refine⟨⟨o1,λ _=>trivial,λ _=>⟨m1,s1⟩⟩,⟨o2,λ _=>trivial,λ _=>⟨m2,c1⟩⟩,rfl,?_⟩;rw[Bw];split
   . simp
   . simp only;omega
 . have hb:bNot (Cu x)=true:=by rw[AG];simpa using h
   rw[hb];simp[De,o1,o2]
theorem iH {α S:Type} {c:S×Int->Bool} {f:S×Int->S×Int} {p:S×Int->Prop} (x:List α) (d:α) (g:S->α->S) (s0:S) (hl:x.length<=1048576)
 (hc:∀ (s:S) (i:Nat),i<=x.length->c (s,(i:Int))=decide (i<x.length)) (hf:∀ (s:S) (i:Nat),i<x.length->f (s,(i:Int))=(g s (x.getD i d),iAdd .i64 (i:Int) 1)) (hp:∀ (s:S) (i:Nat),i<=x.length->p (s,(i:Int))) :
 LoopOk c f p (s0,0)/\Al c f (s0,0)=(x.foldl g s0,(x.length:Int)):=by
 have:=Ho (c:=c) (f:=f) (p:=p) x.length (λ i=>((x.take i).foldl g s0,(i:Int))) (x0:=(s0,0)) rfl (λ k hk=>by
  refine⟨hp _ k (by omega),by rw[hc _ k (by omega)];simpa using hk,?_⟩;rw[hf _ k hk,Bs (by unfold AL;omega),<- Jh x d hk,List.foldl_append]
  simp) ⟨hp _ _ (by omega),by rw[hc _ _ (by omega)];simp⟩
 refine⟨this.1,?_⟩
 rw[this.2,Hw]
theorem vR {α S:Type} {c:Int×S->Bool} {f:Int×S->Int×S} {p:Int×S->Prop} (x:List α) (d:α) (g:S->α->S) (s0:S) (hl:x.length<=1048576)
 (hc:∀ (s:S) (i:Nat),i<=x.length->c ((i:Int),s)=decide (i<x.length)) (hf:∀ (s:S) (i:Nat),i<x.length->f ((i:Int),s)=(iAdd .i64 (i:Int) 1,g s (x.getD i d))) (hp:∀ (s:S) (i:Nat),i<=x.length->p ((i:Int),s)) :
 LoopOk c f p (0,s0)/\Al c f (0,s0)=((x.length:Int),x.foldl g s0):=by
 have:=Ho (c:=c) (f:=f) (p:=p) x.length (λ i=>((i:Int),(x.take i).foldl g s0)) (x0:=(0,s0)) rfl (λ k hk=>by
  refine⟨hp _ k (by omega),by rw[hc _ k (by omega)];simpa using hk,?_⟩;rw[hf _ k hk,Bs (by unfold AL;omega),<- Jh x d hk,List.foldl_append]
  simp) ⟨hp _ _ (by omega),by rw[hc _ _ (by omega)];simp⟩
 refine⟨this.1,?_⟩
 rw[this.2,Hw]
theorem jj(c:Int)(x:A5)(s:Bool):x.foldl (λ s a=>bOr s (iEq a c)) s=(s||decide (c∈x)):=by
 induction x generalizing s with
 |nil=>simp
 | cons a x ih=>
   rw[List.foldl_cons,ih,AW,Bt,Bool.or_assoc];congr 1;rw[Jz];simp only[Cm,Ap,Cv];constructor
   . rintro(h|h)
     . exact .inl h.symm
     . exact .inr h
   . rintro(h|h)
     . exact .inl h.symm
     . exact .inr h
theorem aW:∀ (l:A5) (lo hi:Int),l.Pairwise (· < ·)->(∀ z∈l,lo<=z/\z<=hi)->lo<=hi+1->(l.length:Int)<=hi-lo+1
 |[],lo,hi,_,_,h=>by simp;omega
 | a::l,lo,hi,hp,hm,h=>by
   rw[List.pairwise_cons] at hp
   have ha:=hm a (by simp)
   have:=aW l (a+1) hi hp.2 (λ z hz=>⟨by have:=hp.1 z hz;omega,(hm z (by simp[hz])).2⟩) (by omega)
   rw[AH]
   omega
section
set_option maxRecDepth 20000
theorem iM(l:BR)(hl:l.length<=1048576)(hh:Cu l=true):(BL l).2.Pairwise (· < ·)/\∀ z∈(BL l).2,1<=z/\z<=56:=by
 obtain⟨_,_,r3,_⟩:=Je l hl;obtain⟨_,s2,s3⟩:=jA l hl;rw[r3,Yc,OP,hh]
 have hb:bNot true=false:=by rw[AG];rfl
 rw[hb,CS];exact⟨s2,λ z hz=>((s3 z).1 hz).2⟩
def XC(m:Int)(a:E0):Int:=iOr .i64 m a.2.2.2.1
theorem wI(l dn:BR)(hl:l.length<=1048576)(hh:Cu l=true)(hd:dn.length<=1000)(hc:∀ a∈dn,0<=a.2.2.1/\a.2.2.1<=56) :
 NW (l,dn)/\P7 (BL l,dn.map Bh)/\La (BL l,dn.map Bh)=Ff (l,dn)/\(Ff (l,dn)).2.Pairwise (· < ·)/\(∀ z,z∈(Ff (l,dn)).2↔(z∈(BL l).2\/z∈Cy dn/\z≠0))/\(Ff (l,dn)).1=dn.foldl XC (BL l).1:=by
 obtain⟨o1,_,r3,_⟩:=Je l hl
 obtain⟨b1,b2⟩:=iM l hl hh
 have b3:=aW _ 1 56 b1 b2 (by omega)
 have hcd:(Cy dn).length=dn.length:=by simp[Cy]
 obtain⟨m1,m2⟩:=vR (c:=Th (l,dn)) (f:=To (l,dn)) (p:=XJ (l,dn)) dn (0,0,0,0,0) XC (Bb l).1 (by omega)
  (λ s i hi=>by simp only[Th,Ao,An,G2])
  (λ s i hi=>by simp only[To,XC,A3,Aw,Bn])
  (λ s i hi=>by
   simp only[XJ,Ao,An,Aw,Bn,Ap]
   exact⟨λ h=>⟨⟨by omega,by omega⟩,by omega⟩,λ _=>trivial⟩)
 have in4:∀ (st:Eh),LoopOk (IU (l,dn)) (IV (l,dn) st) (Tj (l,dn)) (false,0)/\(Al (IU (l,dn)) (IV (l,dn) st) (false,0)).1=decide (st.2∈(BL l).2):=by
  intro st;rw[r3] at b3
  obtain⟨k1,k2⟩:=iH (c:=IU (l,dn)) (f:=IV (l,dn) st) (p:=Tj (l,dn)) (Bb l).2 0 (λ s a=>bOr s (iEq a st.2)) false (by omega)
   (λ s i hi=>by simp only[IU,Ao,An,G2])
   (λ s i hi=>by simp only[IV,A3,Aw,Bn])
   (λ s i hi=>by
    simp only[Tj,Ao,An,Aw,Bn,Ap]
    exact⟨λ h=>⟨λ _=>trivial,λ _=>⟨⟨by omega,by omega⟩,by omega⟩⟩,λ _=>trivial⟩)
  refine⟨k1,?_⟩;rw[k2,jj,r3,Bool.false_or]
 have in3:∀ (st:Eh) (b:Bool),LoopOk (K6 (l,dn)) (K5 (l,dn) st) (Ts (l,dn)) (b,0)/\(Al (K6 (l,dn)) (K5 (l,dn) st) (b,0)).1=(b||decide (st.2∈Cy dn)):=by
  intro st b
  obtain⟨k1,k2⟩:=iH (c:=K6 (l,dn)) (f:=K5 (l,dn) st) (p:=Ts (l,dn)) dn (0,0,0,0,0) (λ s a=>bOr s (iEq a.2.2.1 st.2)) b (by omega)
   (λ s i hi=>by simp only[K6,Ao,An,G2])
   (λ s i hi=>by simp only[K5,A3,Aw,Bn])
   (λ s i hi=>by
    simp only[Ts,Ao,An,Aw,Bn,Ap]
    exact⟨λ h=>⟨λ _=>trivial,λ _=>⟨⟨by omega,by omega⟩,by omega⟩⟩,λ _=>trivial⟩)
  refine⟨k1,?_⟩;rw[k2];have:=jj st.2 (Cy dn) b;rw[Cy,List.foldl_map] at this;exact this
 have key:=O6 (c:=NH) (f:=P5 (l,dn)) (p:=dw (l,dn)) (x0:=([],1))
  (λ st=>1<=st.2/\st.2<=57/\(st.1.length:Int)<st.2/\st.1.Pairwise (· < ·)/\∀ z,z∈st.1↔((z∈(BL l).2\/z∈Cy dn)/\1<=z/\z<st.2)) (λ st=>57-st.2.toNat) (by
  rintro⟨ks,c⟩ ⟨h1,h2,h3,h4,h5⟩
  simp only at h1 h2 h3 h4 h5
  obtain⟨i1,i2⟩:=in4 (ks,c)
  obtain⟨j1,j2⟩:=in3 (ks,c) (Al (IU (l,dn)) (IV (l,dn) (ks,c)) (false,0)).1
  rw[i2] at j2
  have r1:As ((ks.length+[c].length)*1):=by unfold As;simp only[AH,AJ];omega
  refine⟨⟨λ _=>⟨i1,j1,λ _=>r1,λ _=>trivial⟩,λ _=>trivial⟩,λ h=>?_⟩
  simp only[NH,DQ,Ap] at h
  have s1:iAdd .i64 c 1=c+1:=Bs (by unfold AL;omega)
  simp only[P5,s1,i2,j2,Bw,BB,Cm,Ap]
  refine⟨⟨by omega,by omega,?_,?_,λ z=>?_⟩,by omega⟩
  . split
    . simp only[Cz,AH,AJ];omega
    . omega
  . split
    . refine List.pairwise_append.2 ⟨h4,List.pairwise_singleton _ _,λ a ha b hb=>?_⟩;rw[List.mem_singleton] at hb;have:=((h5 a).1 ha).2.2;omega
    . exact h4
  . split
    . next hb=>
      rw[CF,List.mem_singleton,h5];constructor
      . rintro(⟨a1,a2,a3⟩|e)
        . exact⟨a1,a2,by omega⟩
        . subst e;exact⟨hb,by omega,by omega⟩
      . rintro⟨a1,a2,a3⟩;by_cases e:z=c
        . exact .inr e
        . exact .inl ⟨a1,a2,by omega⟩
    . next hb=>
      rw[h5];constructor
      . rintro⟨a1,a2,a3⟩;exact⟨a1,a2,by omega⟩
      . rintro⟨a1,a2,a3⟩
        have:z≠c:=λ e=>hb (e▸a1)
        exact⟨a1,a2,by omega⟩) ⟨by simp,by simp,by simp,List.Pairwise.nil,by simp⟩
 obtain⟨k1,⟨k2,k3,k4,k5,k6⟩,k7⟩:=key
 simp only[NH,DQ,Bl] at k7
 generalize hK:Al NH (P5 (l,dn)) ([],1)=K at k2 k3 k4 k5 k6 k7
 have kmem:∀ z,z∈K.1↔(z∈(BL l).2\/z∈Cy dn/\z≠0):=by
  intro z;rw[k6];constructor
  . rintro⟨a|a,b,c⟩
    . exact .inl a
    . exact .inr ⟨a,by omega⟩
  . rintro(a|⟨a,b⟩)
    . have:=b2 z a;exact⟨.inl a,by omega,by omega⟩
    . obtain⟨q,hq,rfl⟩:=List.mem_map.1 a;have:=hc q hq;exact⟨.inr a,by omega,by omega⟩
 have hp5:(dn.map Bh).length=dn.length:=A6 ..
 have cp:C5 (BL l).2=(BL l).2:=by rw[TI];try rfl
 have okc:Qc (BL l).2:=by rw[dG];unfold As;omega
 have W:=Ho (c:=Mj (BL l,dn.map Bh)) (f:=ND (BL l,dn.map Bh)) (p:=Tg (BL l,dn.map Bh)) dn.length
  (λ i=>((BL l).2++(Cy dn).take i,(i:Int),(dn.take i).foldl XC (BL l).1)) (x0:=((BL l).2,0,(BL l).1)) (by simp) (λ i hi=>by
   have g1:(lGet (dn.map Bh) (iNat (i:Int)) (0,0))=Bh (dn.getD i (0,0,0,0,0)):=by rw[A3,Aw,Bn,iq]
   refine⟨?_,?_,?_⟩
   . simp only[Tg,Ao,An,hp5,Aw,Bn,Ap,Cz,Eu,AH,AJ];exact⟨λ _=>⟨⟨by omega,by omega⟩,by omega,by unfold As;omega⟩,λ _=>trivial⟩
   . simp only[Mj,Ao,An,hp5,Ap];omega
   . simp only[ND,g1,BB,Cl];rw[Bs (by unfold AL;omega),<- Jh (Cy dn) 0 (by omega),gT dn hi,<- Jh dn (0,0,0,0,0) hi,List.foldl_append]
     rfl) (by
   refine⟨?_,?_⟩
   . simp only[Tg,Ao,An,hp5,Ap];exact⟨λ h=>absurd h (by omega),λ _=>trivial⟩
   . simp only[Mj,Ao,An,hp5];simp)
 have tk:(Cy dn).take dn.length=Cy dn:=by rw[<- hcd];exact Hw ..
 obtain⟨w1,w2⟩:=W
 simp only[tk,Hw] at w2
 obtain⟨c1,⟨c2,c3⟩,c4⟩:=gS ((BL l).2++Cy dn) (by rw[Cz];omega)
 have e:Le ((BL l).2++Cy dn)=K.1:=kB c2 k5 λ z=>by
  rw[c3,kmem,CF];constructor
  . rintro⟨a|a,b⟩
    . exact .inl a
    . exact .inr ⟨a,b⟩
  . rintro(a|⟨a,b⟩)
    . have:=b2 z a;exact⟨.inl a,by omega⟩
    . exact⟨.inr a,b⟩
 rw[p6,P7,pE,La]
 simp only[cp,w2,m2,hK]
 refine⟨⟨o1,m1,k1⟩,⟨okc,w1,c1⟩,?_,k5,kmem,by rw[r3]⟩
 rw[e,r3]
end
section
set_option maxRecDepth 20000
def mA(s:CR):Int×Int×Int×Int×Int:=(0,2,s.2.1,s.2.2,0)
def Ev(dn:BR)(s:CR):BR:=if s.1=1 then dn++[mA s] else if s.1=2 then Dk (dn,B5 (dn,s)) else dn
def KZ(dn:BR)(s:CR):Prop:=0<=s.1/\s.1<=2/\Br (2,s.2.1,s.2.2,0)=true/\(s.1=2↔0<=B5 (dn,s))
def BQ(x:CU)(i:Nat):BR:=(x.take i).foldl Ev []
theorem O4(x:CU){i:Nat}(h:i<x.length):BQ x (i+1)=Ev (BQ x i) (x.getD i (0,0,0)):=by
 unfold BQ;rw[<- Jh x (0,0,0) h,List.foldl_append];rfl
theorem zS {c:BR×Int->Bool} {f:BR×Int->BR×Int} (x:CU) (h1:¬ (Al c f ([],0)).2<lLen x) (hc:∀ (dn:BR) (i:Nat),c (dn,(i:Int))=true->i<x.length/\KZ dn (x.getD i (0,0,0)))
 (hf:∀ (dn:BR) (i:Nat),i<x.length->f (dn,(i:Int))=(Ev dn (x.getD i (0,0,0)),(i:Int)+1)):(Al c f ([],0)).1=BQ x x.length/\∀ i,i<x.length->KZ (BQ x i) (x.getD i (0,0,0)):=by
 have key:=MC (c:=c) (f:=f) (λ st=>∃ i:Nat,st=(BQ x i,(i:Int))/\i<=x.length/\∀ j,j<i->KZ (BQ x j) (x.getD j (0,0,0))) (λ st=>x.length-st.2.toNat) (λ st hI hcc=>by
  obtain⟨i,rfl,hi,hj⟩:=hI;obtain⟨g1,g2⟩:=hc _ i hcc;rw[hf _ i g1];refine⟨⟨i+1,by rw[O4 x g1];simp,by omega,λ j hj'=>?_⟩,by simp only;omega⟩;rcases BG j i with h|h
  . exact hj j h
  . have:j=i:=by omega
    subst this;exact g2) (x0:=([],0)) ⟨0,rfl,Gt _,λ j hj=>by omega⟩
 obtain⟨⟨i,e,hi,hj⟩,_⟩:=key
 rw[e,An] at h1
 rw[e]
 simp only at h1
 have:i=x.length:=by omega
 subst this
 exact⟨rfl,hj⟩
theorem vh(x:CU)(h:x.length<=1048576)(hm:F5 x=true):x.length<=8/\BQ x x.length=[]/\∀ i,i<x.length->KZ (BQ x i) (x.getD i (0,0,0)):=by
 rw[Yt,Az,Az,Ah,Ah] at hm;obtain⟨h1,h2,h3⟩:=hm;rw[AG,BA,Ao _ (lLen x),Bl] at h1;rw[DQ,An,Ap] at h2;rw[Bt,An,Ap] at h3
 obtain⟨g1,g2⟩:=zS x h1 (λ dn i hc=>by
  simp only[An,A3,Aw,Bn,Mp,Lp,Gj,Az,AG,AW,RB,Ao,Bt,CL,Ah,BA,B7,CM,Ap,AV] at hc;obtain⟨c1,⟨c2,c3⟩,c4,c5⟩:=hc;refine⟨by omega,c2,c3,c4,?_⟩;have:=congrArg (·=true) c5
  simpa using this) (λ dn i hi=>by
  simp only[A3,Aw,Bn,Mp,Bw,Bt,Ap,BB];rw[Bs (by unfold AL;omega)]
  rfl)
 refine⟨by omega,?_,g2⟩;rw[<- g1];exact EH (by omega)
end
section
set_option maxRecDepth 20000
theorem vx(dn:BR)(p:Int){a:Int×Int×Int×Int×Int}(h:a∈Dk (dn,p)):a∈dn:=by
 rw[Qa] at h;simp only[BB,Il,HG,C3,CF] at h;rcases h with h|h
 . exact List.mem_of_mem_drop (KH h)
 . exact List.mem_of_mem_drop (KH h)
theorem V7(dn:BR)(s:CR)(h:dn.length<=1048576):B5 (dn,s)=-1\/(0<=B5 (dn,s)/\B5 (dn,s)<dn.length):=by
 have:=V0 (dn.map Bh) (s.2.1,s.2.2) (by rw[A6];exact h);rw[A6] at this;have e:=MR dn s.1 s.2.1 s.2.2;rw[show (s.1,s.2.1,s.2.2)=s from rfl] at e;rw[e];exact this
theorem e7{a:Int×Int×Int×Int}(h:Br a=true):0<=a.2.2.1/\a.2.2.1<=15:=by
 rw[Qi] at h;simp only[Bw,AW,Az,Bt,C8,Us,CL,DQ] at h
 repeat' split at h
 all_goals simp only[Ah,Cm,BA,CM,FX,B7,Ap,Bl,Gs,IC,AV,Jn] at *
 all_goals omega
def Xy(a:E0):Prop:=(0<=a.2.2.1/\a.2.2.1<=56)/\0<=a.2.2.2.1/\a.2.2.2.1<=15
theorem ZaA(x:CU)(hl:x.length<=8)(hok:∀ i,i<x.length->KZ (BQ x i) (x.getD i (0,0,0))):∀ i,i<=x.length->(BQ x i).length<=i/\∀ a∈BQ x i,Xy a:=by
 intro i
 induction i with
 |zero=>intro _;exact⟨by simp[BQ],by simp[BQ]⟩
 | succ i ih=>
   intro hi;obtain⟨h1,h2⟩:=ih (by omega);obtain⟨k1,k2,k3,k4⟩:=hok i (by omega);rw[O4 x (by omega)];generalize hs:x.getD i (0,0,0)=s at k1 k2 k3 k4 ⊢;unfold Ev;split
   . refine⟨by simp only[Cz,AH,AJ];omega,λ a ha=>?_⟩;rw[CF,List.mem_singleton] at ha;rcases ha with ha|rfl
     . exact h2 a ha
     . exact⟨YO k3,e7 k3⟩
   . split
     . rename_i e2;have:=V7 (BQ x i) s (by omega);have hp:0<=B5 (BQ x i,s):=k4.1 e2;have hw:=fS (BQ x i) (B5 (BQ x i,s)) hp (by omega) (by omega);exact⟨by omega,λ a ha=>h2 a (vx _ _ ha)⟩
     . exact⟨by omega,h2⟩
theorem Y4(dm:Nl)(q:A0)(h:dm.length<=1048576):Bf (dm,q)=if CP (λ i=>decide (dm.getD i (0,0)=q)) dm.length 0<dm.length then ((CP (λ i=>decide (dm.getD i (0,0)=q)) dm.length 0:Nat):Int) else -1:=by
 rw[YA]
 have e:=RI (c:=λ x0:Int=>(bAnd (iLt x0 (lLen dm)) (bNot (bAnd (iEq (lGet dm (iNat x0) (0,0)).1 q.1) (iEq (lGet dm (iNat x0) (0,0)).2 q.2))))) (f:=λ x0=>iAdd .i64 x0 1) dm.length (λ i=>decide (dm.getD i (0,0)=q)) (by omega)
  (λ i hi=>by
   simp only[Az,Ao,An,AG,Bt,A3,Aw,Bn,G2];congr 2;rw[<- Bool.decide_and]
   simp only[Prod.ext_iff]) (λ i hi=>rfl)
 simp only[e];rw[Bw,Ao,An];simp only[Ap,G2]
theorem vk(dm:Nl)(q:A0)(h:dm.length<=1000)(hp:Bf (dm,q)<0):Bf (dm++[q],q)=dm.length:=by
 rw[Y4 _ _ (by omega)] at hp
 have hall:∀ i,i<dm.length->decide (dm.getD i (0,0)=q)=false:=by
  refine OD.1 ?_;have:=Jg (λ i=>decide (dm.getD i (0,0)=q)) dm.length 0;split at hp
  . omega
  . omega
 rw[Y4 _ _ (by rw[Cz,AH,AJ];omega)]
 have hl:(dm++[q]).length=dm.length+1:=by simp
 rw[hl]
 have hlast:(dm++[q]).getD dm.length (0,0)=q:=by rw[D3];simp
 have hold:∀ i,i<dm.length->(dm++[q]).getD i (0,0)=dm.getD i (0,0):=λ i hi=>by rw[D3,D3,Bz hi]
 generalize hk:CP (λ i=>decide ((dm++[q]).getD i (0,0)=q)) (dm.length+1) 0=k;have a1:=Jg (λ i=>decide ((dm++[q]).getD i (0,0)=q)) (dm.length+1) 0;have a2:=QZ (λ i=>decide ((dm++[q]).getD i (0,0)=q)) (dm.length+1) 0 dm.length (by omega);have a3:=OH (λ i=>decide ((dm++[q]).getD i (0,0)=q)) (dm.length+1) 0;rw[hk] at a1 a2 a3
 have b1:¬ dm.length<k:=λ h=>by have:=a2 h;rw[hlast] at this;simp at this
 have b2:¬ k<dm.length:=λ h=>by
  have:=a3 (by omega);rw[hold k h,hall k h] at this;cases this
 have:k=dm.length:=by omega
 rw[Ac (by omega),this]
theorem fL(dn:BR)(a:E0)(h:dn.length<=1000):Dk (dn++[a],(dn.length:Int))=dn:=by
 rw[Qa];have e:iAdd .i64 (dn.length:Int) 1=dn.length+1:=Bs (by unfold AL;omega);simp only[e,BB,Il,HG,Aw,C3,Bn,GZ,LO]
 have e2:((dn.length:Int)+1).toNat=dn.length+1:=by omega
 rw[e2,List.take_left',List.drop_eq_nil_of_le (by simp)]
 . simp
 . rfl
theorem iJ(dn:BR)(s:CR)(h:dn.length<=1000)(hp:B5 (dn,s)<0):B5 (dn++[mA s],s)=dn.length:=by
 have e:=MR dn s.1 s.2.1 s.2.2;have e':=MR (dn++[mA s]) s.1 s.2.1 s.2.2;rw[show (s.1,s.2.1,s.2.2)=s from rfl] at e e';rw[e] at hp;rw[e',Gr,Cr,Pp];have:=vk (dn.map Bh) (s.2.1,s.2.2) (by rw[A6];exact h) hp;rw[A6] at this;exact this
def mQ(l:BR)(r:Dt):Prop:=r.2.length<=1048576/\∃ dn:BR,dn.length<=1000/\(∀ a∈dn,Xy a)/\r=Ff (l,dn)
def mw(l:BR)(x:CU)(i:Nat)(out:E3):Prop:=(∀ r∈out,mQ l r)/\(i=0->out=[])/\(0<i->∃ o,out=o++[Ff (l,BQ x i)])
theorem pq(l:BR)(x:CU)(hl:l.length<=1048576)(hx:x.length<=1048576) :
 NC (l,x)/\P0 (l,x)/\P1 (l,x)=Fe (l,x)/\((Fe (l,x)).length<=1048576/\∀ r∈Fe (l,x),r.2.length<=1048576)/\(Cu l=true->F5 x=true->mw l x x.length (Fe (l,x))):=by
 have o1:=TJ l hl
 have o2:=TR l hl
 have o3:=eR x hx
 have o4:=eQ x hx
 rw[nk,P0,nq,P1]
 simp only[OP,<- Zk x hx]
 by_cases hg:Cu l=true/\F5 x=true
 case neg=>
  have hb:bOr (bNot (Cu l)) (bNot (F5 x))=true:=by
   rw[AW,AG,AG];cases h1:Cu l<;>cases h2:F5 x<;>simp_all
  rw[hb];simp only[De];refine⟨⟨⟨o1,λ _=>trivial,λ _=>o3⟩,λ _=>trivial,λ h=>by cases h⟩,⟨⟨o2,λ _=>trivial,λ _=>o4⟩,λ _=>trivial,λ h=>by cases h⟩,trivial,⟨by simp,by simp⟩,λ h1 h2=>absurd ⟨h1,h2⟩ hg⟩
 case pos=>
  obtain⟨hh,hm⟩:=hg
  have hb:bOr (bNot (Cu l)) (bNot (F5 x))=false:=by rw[AW,AG,AG,hh,hm];rfl
  rw[hb];simp only[CS];obtain⟨x8,_,hok⟩:=vh x hx hm;have inv:=ZaA x x8 hok;obtain⟨_,or2,_,_⟩:=Je l hl
  have DG:∀ dn:BR,dn.length<=1000->(∀ a∈dn,Xy a)->NW (l,dn)/\P7 (BL l,dn.map Bh)/\La (BL l,dn.map Bh)=Ff (l,dn)/\mQ l (Ff (l,dn)):=by
   intro dn h1 h2;obtain⟨a1,a2,a3,a4,a5,_⟩:=wI l dn hl hh h1 (λ a ha=>(h2 a ha).1)
   have:=aW _ 1 56 a4 (λ z hz=>by
    rcases (a5 z).1 hz with h|⟨h,hz⟩
    . exact(iM l hl hh).2 z h
    . obtain⟨q,hq,rfl⟩:=List.mem_map.1 h;have:=(h2 q hq).1
      omega) (by omega)
   exact⟨a1,a2,a3,by omega,dn,h1,h2,rfl⟩
  obtain⟨a1,a2,⟨i,hi,out,e1,e2,e3,e4⟩,a4⟩:=au (c:=NB (l,x)) (f:=S0 (l,x)) (p:=S7 (l,x)) (d:=S6 (l,x)) (g:=S8 (l,x)) (q:=SZ (l,x)) (x0:=([],[],0)) (y0:=([],[],0))
   (λ s t=>∃ i:Nat,i<=x.length/\∃ out:List Dt,s=(out,BQ x i,(i:Int))/\t=(out,(BQ x i).map Bh,(i:Int))/\out.length<=2*i/\mw l x i out) (λ s=>x.length-s.2.2.toNat) (by
    rintro s t ⟨i,hi,out,rfl,rfl,ho,hr⟩
    obtain⟨d1,d2⟩:=inv i hi
    have s1:iAdd .i64 (i:Int) 1=((i+1:Nat):Int):=by rw[Bs (by unfold AL;omega)];simp
    by_cases hlt:i<x.length
    case neg=>
     have hn:iLt (i:Int) (lLen x)=false:=by rw[Ao,An];simp;omega
     refine⟨?_,?_,rfl,λ h=>?_⟩
     . simp only[S7,hn];exact⟨λ h=>(by cases h),λ _=>trivial⟩
     . simp only[SZ,hn];exact⟨λ h=>(by cases h),λ _=>trivial⟩
     . simp only[NB,hn] at h;cases h
    case pos=>
    have ht:iLt (i:Int) (lLen x)=true:=by rw[Ao,An];simp;omega
    have hk:=hok i hlt
    have hsucc:=O4 x hlt
    obtain⟨d1',d2'⟩:=inv (i+1) hlt
    have hget:lGet x (iNat (i:Int)) (0,0,0)=x.getD i (0,0,0):=by rw[A3,Aw,Bn]
    have hin:iNat (i:Int)<x.length:=by rw[Aw];simpa using hlt
    simp only[NB,S0,S7,S6,S8,SZ,hget,ht,s1,Mp,dH]
    generalize hs:x.getD i (0,0,0)=s at hk hsucc
    generalize hdn:BQ x i=dn at hk hsucc d1 d2
    obtain⟨K,c,m⟩:=s
    obtain⟨k1,k2,k3,k4⟩:=hk
    simp only at k1 k2 k3 k4
    have hcode:=YO k3
    simp only at hcode
    have Me:∀ a∈dn++[mA (K,c,m)],Xy a:=λ a ha=>by
     rw[CF,List.mem_singleton] at ha;rcases ha with ha|rfl
     . exact d2 a ha
     . exact⟨hcode,e7 k3⟩
    have mapp:(dn++[mA (K,c,m)]).map Bh=lApp (dn.map Bh) [(c,m)]:=by rw[BB,Gr];rfl
    have lapp:lApp dn [(0,2,c,m,0)]=dn++[mA (K,c,m)]:=by rw[BB];rfl
    have hml:(dn.map Bh).length=dn.length:=A6 ..
    have len1:(lApp (dn.map Bh) [(c,m)]).length=dn.length+1:=by rw[<- mapp,A6];simp
    obtain⟨p1,p2,p3,p4⟩:=DG (dn++[mA (K,c,m)]) (by rw[Cz,AH,AJ];omega) Me
    obtain⟨q1,q2,q3,q4⟩:=DG dn (by omega) d2
    rw[mapp] at p2 p3
    have lo:∀ r:Int×List Int,(lApp out [r]).length=out.length+1:=λ r=>by rw[BB];simp
    have lo2:∀ r r':Int×List Int,(lApp (lApp out [r]) [r']).length=out.length+2:=λ r r'=>by rw[BB,BB];simp
    have hlr:∀ r:Int×List Int,([r]:List Dt).length=1:=λ _=>rfl
    have ro:∀ n:Nat,n<=1000->∀ w:Nat,w<=5->As (n*w):=λ n hn w hw=>MJ (by omega) (by omega)
    rcases (show K=0\/K=1\/K=2 by omega) with rfl|rfl|rfl
    ·
     have e01:iNe 0 1=true:=by rw[C8];rfl
     have e02:iNe 0 2=true:=by rw[C8];rfl
     have e00:iEq 0 0=true:=by rw[Bt];rfl
     have hneg:B5 (dn,0,c,m)<0:=by
      rcases V7 dn (0,c,m) (by omega) with h|h
      . omega
      . exact absurd (k4.2 h.1) (by decide)
     have fl:=iJ dn (0,c,m) (by omega) hneg;have wl:=fL dn (mA (0,c,m)) (by omega);have okf:Mw (dn++[mA (0,c,m)],0,c,m):=aN _ _ (by rw[Cz,AH,AJ];omega);have okw:Mm (dn++[mA (0,c,m)],(dn.length:Int)):=Vt _ _ (by omega) (by rw[Cz,AH,AJ];omega) (by rw[Cz,AH,AJ];omega)
     have hst:Ev dn (0,c,m)=dn:=by unfold Ev;simp
     rw[hst] at hsucc;simp only[e01,e02,e00,De,lapp,fl,wl,p3,q3]
     refine⟨⟨λ _=>⟨⟨by omega,by omega⟩,hin,⟨λ _=>⟨trivial,ro _ (by simp only[AH,AJ];omega) _ (by omega),p1,ro _ (by rw[hlr];omega) _ (by omega)⟩,λ _=>trivial⟩,⟨λ _=>⟨okf,okw,q1,ro _ (by rw[lo,hlr];omega) _ (by omega)⟩,λ _=>trivial⟩⟩,λ _=>trivial⟩,
      ⟨λ _=>⟨⟨by omega,by omega⟩,hin,⟨λ _=>⟨ro _ (by omega) _ (by omega),ro _ (by rw[hml];simp only[AH,AJ];omega) _ (by omega),p2,ro _ (by rw[hlr];omega) _ (by omega)⟩,λ h=>by cases h⟩,q2,ro _ (by rw[lo,hlr];omega) _ (by omega)⟩,λ _=>trivial⟩,trivial,λ _=>⟨⟨i+1,hlt,_,by rw[hsucc],by rw[hsucc],by rw[lo2];omega,⟨λ r hr'=>?_,λ h=>absurd h (Nat.succ_ne_zero i),λ _=>⟨_,by rw[hsucc,BB]⟩⟩⟩,by omega⟩⟩
     simp only[BB,CF,List.mem_singleton] at hr';rcases hr' with(h|rfl)|rfl
     . exact hr.1 r h
     . exact p4
     . exact q4
    ·
     have e01:iNe 1 1=false:=by rw[C8];rfl
     have e02:iNe 1 2=true:=by rw[C8];rfl
     have e00:iEq 1 0=false:=by rw[Bt];rfl
     have e11:iEq 1 1=true:=by rw[Bt];rfl
     have hst:Ev dn (1,c,m)=dn++[mA (1,c,m)]:=by unfold Ev;simp
     rw[hst] at hsucc;simp only[e01,e02,e00,e11,De,CS,lapp,p3]
     refine⟨⟨λ _=>⟨⟨by omega,by omega⟩,hin,⟨λ _=>⟨trivial,ro _ (by simp only[AH,AJ];omega) _ (by omega),p1,ro _ (by rw[hlr];omega) _ (by omega)⟩,λ _=>trivial⟩,⟨λ h=>(by cases h),λ _=>trivial⟩⟩,λ _=>trivial⟩,
      ⟨λ _=>⟨⟨by omega,by omega⟩,hin,⟨λ h=>(by cases h),λ _=>⟨λ _=>ro _ (by rw[hml];simp only[AH,AJ];omega) _ (by omega),λ h=>by cases h⟩⟩,p2,ro _ (by rw[hlr];omega) _ (by omega)⟩,λ _=>trivial⟩,trivial,λ _=>⟨⟨i+1,hlt,_,by rw[hsucc],by rw[hsucc,mapp],by rw[lo];omega,⟨λ r hr'=>?_,λ h=>absurd h (Nat.succ_ne_zero i),λ _=>⟨_,by rw[hsucc,BB]⟩⟩⟩,by omega⟩⟩
     simp only[BB,CF,List.mem_singleton] at hr';rcases hr' with h|rfl
     . exact hr.1 r h
     . exact p4
    ·
     have e01:iNe 2 1=true:=by rw[C8];rfl
     have e02:iNe 2 2=false:=by rw[C8];rfl
     have e00:iEq 2 0=false:=by rw[Bt];rfl
     have e11:iEq 2 1=false:=by rw[Bt];rfl
     have e22:iEq 2 2=true:=by rw[Bt];rfl
     have hp:0<=B5 (dn,2,c,m):=k4.1 rfl
     have hp2:B5 (dn,2,c,m)<dn.length:=by
      rcases V7 dn (2,c,m) (by omega) with h|h
      . omega
      . exact h.2
     have hst:Ev dn (2,c,m)=Dk (dn,B5 (dn,2,c,m)):=by unfold Ev;simp
     rw[hst] at hsucc;have hfe:=MR dn 2 c m;have wm:=fY dn _ hp hp2;have okf:Mw (dn,2,c,m):=aN _ _ (by omega);have okw:=Vt dn _ hp hp2 (by omega);have okp:Og (dn.map Bh,c,m):=ke _ _ (by omega);rw[hsucc] at d1' d2';obtain⟨w1,w2,w3,w4⟩:=DG _ (by omega) d2';rw[hfe] at hp hp2 okw w1 w2 w3 w4 wm hsucc;rw[wm] at w2 w3;generalize Bf (dn.map Bh,c,m)=p at hp hp2 okw w1 w2 w3 w4 wm hsucc hfe ⊢;have sp:iAdd .i64 p 1=p+1:=Bs (by unfold AL;omega);simp only[e01,e02,e00,e11,e22,De,CS,hfe,w3]
     refine⟨⟨λ _=>⟨⟨by omega,by omega⟩,hin,⟨λ h=>(by cases h),λ _=>trivial⟩,⟨λ _=>⟨okf,okw,w1,ro _ (by rw[hlr];omega) _ (by omega)⟩,λ _=>trivial⟩⟩,λ _=>trivial⟩,
      ⟨λ _=>⟨⟨by omega,by omega⟩,hin,⟨λ h=>(by cases h),λ _=>⟨λ h=>(by cases h),λ _=>⟨λ _=>⟨okp,?_⟩,λ h=>by cases h⟩⟩⟩,w2,ro _ (by rw[hlr];omega) _ (by omega)⟩,λ _=>trivial⟩,trivial,λ _=>⟨⟨i+1,hlt,_,by rw[hsucc],by rw[hsucc,wm],by rw[lo];omega,⟨λ r hr'=>?_,λ h=>absurd h (Nat.succ_ne_zero i),λ _=>⟨_,by rw[hsucc,BB]⟩⟩⟩,by omega⟩⟩
     . rw[sp];simp only[Aw,HG,Il,GZ,LO,Eu,M3,hml];exact⟨⟨hp,by omega,by omega,by omega⟩,⟨by omega,by omega,by omega,by omega⟩,by omega,by omega,MJ (by omega) (by omega)⟩
     . simp only[BB,CF,List.mem_singleton] at hr';rcases hr' with h|rfl
       . exact hr.1 r h
       . exact w4) ⟨0,Gt _,[],rfl,rfl,by simp,⟨by simp,λ _=>rfl,λ h=>absurd h (by omega)⟩⟩
  refine⟨⟨⟨o1,λ _=>trivial,λ _=>o3⟩,λ h=>(by cases h),λ _=>a1⟩,⟨⟨o2,λ _=>trivial,λ _=>o4⟩,λ h=>(by cases h),λ _=>⟨or2,a2⟩⟩,by rw[e1,e2],?_⟩;rw[e1] at a4 ⊢;simp only[NB,Ao,An,Bl] at a4
  have hix:i=x.length:=by omega
  subst hix;exact⟨⟨by simp only;omega,λ r hr=>(e4.1 r hr).1⟩,λ _ _=>e4⟩
theorem oU(l:BR)(x:CU)(hl:l.length<=1048576)(hx:x.length<=1048576) :
 NC (l,x)/\P0 (l,x)/\P1 (l,x)=Fe (l,x)/\((Fe (l,x)).length<=1048576/\∀ r∈Fe (l,x),r.2.length<=1048576):=let ⟨a,b,c,d,_⟩:=pq l x hl hx;⟨a,b,c,d⟩
end
section
set_option maxRecDepth 20000
theorem Y7(x:BP)(k:Int)(hl:x.2.2.2.2.1.length<=1048576) :
 (Cj (x,k)=-1/\∀ a∈x.2.2.2.2.1,a.1≠k)\/∃ i:Nat,i<x.2.2.2.2.1.length/\Cj (x,k)=(i:Int)/\(x.2.2.2.2.1.getD i (0,0,0,0,0)).1=k:=by
 rw[eO]
 simp only
 generalize x.2.2.2.2.1=l at *
 rw[RI (c:=λ x0=>bAnd (iLt x0 (lLen l)) (bNot (iEq (lGet l (iNat x0) (0,0,0,0,0)).1 k))) (f:=λ x0=>iAdd .i64 x0 1) l.length (λ i=>decide ((l.getD i (0,0,0,0,0)).1=k)) (by omega)
  (λ i hi=>by simp only[Az,AG,Bt,Ao,An,A3,Aw,Bn,G2]) (λ i hi=>rfl)]
 have hall:=OD (t:=λ i=>decide ((l.getD i (0,0,0,0,0)).1=k)) (n:=l.length)
 have hle:=Jg (λ i=>decide ((l.getD i (0,0,0,0,0)).1=k)) l.length 0
 have hlt:=OH (λ i=>decide ((l.getD i (0,0,0,0,0)).1=k)) l.length 0
 generalize CP (λ i=>decide ((l.getD i (0,0,0,0,0)).1=k)) l.length 0=q at hall hle hlt
 rw[Bw,Ao,An]
 by_cases h:q<l.length
 . right
   refine⟨q,h,by rw[Ac (by simpa using h)],by simpa using hlt (by omega)⟩
 . left
   refine⟨by rw[Af (by simpa using h)],λ a ha=>?_⟩;obtain⟨i,hi,rfl⟩:=Ir ha;have:=hall.1 (by omega) i hi;rw[Bl,GS l _ hi] at this;exact this
theorem ui(l:BR)(i:Nat)(h:i<l.length)(hl:l.length<=1048576):Dk (l,(i:Int))=l.eraseIdx i /\
 lApp (lTake l (lN (lSub l 0 (iNat (i:Int))))) (lSub l (iNat (iAdd .i64 (i:Int) 1)) (lN l))=l.eraseIdx i:=by
 have e:iAdd .i64 (i:Int) 1=((i+1:Nat):Int):=by rw[Bs (by unfold AL;omega)];omega
 rw[Qa]
 simp only[e,BB,VV,HG,Il,Aw,Bn,GZ,LO,C3,Eu,Nat.min_eq_left (Nat.le_of_lt h),List.eraseIdx_eq_take_drop_succ]
 have:(l.drop (i+1)).take (l.length-(i+1))=l.drop (i+1):=Pu (by rw[M3];omega)
 rw[this];exact⟨rfl,rfl⟩
theorem eZ(x:BP)(hs:FQ x):P4 x/\B4 x=x:=by
 obtain⟨keys,layers,macros,fixed,held,once,caps⟩:=x;have hm:ME macros:=hs.2.1;have hh:O2 held:=hs.2.2.1;obtain⟨c1,c2⟩:=fa keys layers hs.1;obtain⟨b1,b2⟩:=fg macros hm;rw[n8,nQ];have hl:=hh.1;refine⟨⟨c1,b1,by unfold As;simp only;omega⟩,?_⟩;simp only[c2,b2]
def mN:BP:=(0,[],[],0,[],0,false)
theorem gm(x:BP)(k:Int)(hs:FQ x)(he:Ea x=true)(i:Nat)(hi:i<x.2.2.2.2.1.length)(hk:Cj (x,k)=(i:Int)) :
 Qx (x,k)/\Qy (x,k) /\
 QE (x,k)=((x.1,x.2.1,x.2.2.1,x.2.2.2.1,x.2.2.2.2.1.eraseIdx i,x.2.2.2.2.2),Mh (Bb x.2.2.2.2.1) [Bb (x.2.2.2.2.1.eraseIdx i)],true) /\
 N9 (x,k)=((x.1,x.2.1,x.2.2.1,x.2.2.2.1,x.2.2.2.2.1.eraseIdx i,x.2.2.2.2.2),Mh (Bb x.2.2.2.2.1) [Bb (x.2.2.2.2.1.eraseIdx i)],true):=by
 have hl:x.2.2.2.2.1.length<=1048576:=hs.2.2.1.1
 obtain⟨e1,e2,e3⟩:=QU x hs
 obtain⟨k1,k2⟩:=ZU (x,k) hl
 have hb:bOr (bNot true) (iLt (i:Int) 0)=false:=by
  rw[AW,AG,Ao,Ee (by omega)];rfl
 obtain⟨c1,c2⟩:=VC x hs
 obtain⟨d1,d2⟩:=eZ x hs
 obtain⟨w1,w2⟩:=ui x.2.2.2.2.1 i hi hl
 have hl':(x.2.2.2.2.1.eraseIdx i).length<=1048576:=by rw[List.length_eraseIdx];split<;>omega
 obtain⟨r1,r2,r3,r4⟩:=Je x.2.2.2.2.1 hl
 obtain⟨s1,s2,s3,s4⟩:=Je (x.2.2.2.2.1.eraseIdx i) hl'
 rw[r3] at r4
 rw[s3] at s4
 obtain⟨g1,g2,g3,g4⟩:=fT (Bb x.2.2.2.2.1) [Bb (x.2.2.2.2.1.eraseIdx i)] r4 (by simp) (λ r hr=>by rw[List.mem_singleton] at hr;rw[hr];exact s4)
 have hw:=Vt x.2.2.2.2.1 (i:Int) (by omega) (by omega) hl
 have e:iAdd .i64 (i:Int) 1=((i+1:Nat):Int):=by rw[Bs (by unfold AL;omega)];omega
 rw[ru,qR,qJ,qO,qu,qH]
 simp only[VG,<- e3,he,hk,c2,d2,w1,w2,r3,s3,g3,g4,hb,CS]
 refine⟨⟨k1,e1,(λ h=>by cases h),λ _=>⟨c1,hw,r1,s1,g1,trivial,trivial,trivial⟩⟩,⟨⟨e2,λ _=>trivial,λ _=>k2⟩,(λ h=>by cases h),λ _=>⟨d1,k2,⟨by omega,by omega,by rw[Aw];omega,by omega⟩,?_,?_,r2,s2,g2⟩⟩,trivial,trivial⟩
 . rw[e];simp only[Aw,HG];omega
 . simp only[e,Aw,HG,Il,GZ,LO,Eu,M3,Bn]
   refine⟨by omega,by omega,by unfold As;omega⟩
theorem EngOk.rel{x:BP}(h:EngOk x)(hl:x.2.2.2.2.1.length<=1048576)(i:Nat):EngOk (x.1,x.2.1,x.2.2.1,x.2.2.2.1,x.2.2.2.2.1.eraseIdx i,x.2.2.2.2.2):=by
 obtain⟨a1,a2,a3,a4,a5,a6,a7,a8,a9,a10⟩:=h;have hsub:=List.eraseIdx_sublist x.2.2.2.2.1 i;have hl':(x.2.2.2.2.1.eraseIdx i).length<=1048576:=Jq hsub.length_le hl;obtain⟨b1,b2⟩:=(OI hl).1 a4;refine⟨a1,a2,a3,(OI hl').2 ⟨λ a ha=>b1 a (hsub.subset ha),b2.sublist hsub⟩,λ a ha=>a5 a (hsub.subset ha),a6,a7,a8,a9,a10⟩
end
end
end Go.Ag
