/- Part 7 of what FnPressed needs. No conditions. -/
import Derived.Test.YtbkpfpcnjpggaaaGreatLibF
namespace Go.Ag
set_option linter.unusedSimpArgs false
set_option linter.unusedVariables false
noncomputable section
section
set_option maxRecDepth 8000
def tY:DCode:=(.seq [2,1] (.region [oa 0 1 (.boxB 0 2 (.t 0)),oa 1 2 (.allocB 1 [Ab,.nils])]) (.seq [2] (.region [oa 0 3 (.fieldA 0 (.t 1)),xB 1 4 (.loadB 0 none (.t 3)) (rg 1),oa 3 6 (.fieldA 1 (.t 1)),xA 4 7 (.loadB 0 none (.t 6)) [3],⟨2,some 5,.a false (.litSlice 1 0 [] []) (some (.one (.int .i64))),none,[]⟩,xA 5 8 (.app 1 (.t 5) (.t 7)) [2,3,4],xA 6 9 (.build [Ab,.nils] [(0,1,(.t 4)),(1,1,(.t 8))]) (rg 6),xS 7 (.storeB 1 2 (.t 2) (.t 9)) (rg 7)]) .ret))
def Kw:Fn:=⟨⟨1,10,2,false,[.cell 2 (some 2)],tY⟩,[.agg [Aw,(.frz,.sl (.one (.int .i64)))]],.one (.agg [Aq,(.own,.sl (.one (.int .i64)))])⟩
theorem uE:Kw.A:=AV trivial
def Re:DY->Int×List (Int):=Kw.V
def Zk:DY->Prop:=Kw.O
theorem uH:Kw.B:=AX trivial (by kernel_rfl) (λ x=>by kernel_rfl)
def qu:DCode:=(.seq [2,1] (.region [oa 0 2 (.boxB 0 2 (.t 0)),oa 1 4 (.mv (.c .nils))]) (.seq [5,2,1] (.region [⟨0,some 7,.a false (.litSlice 2 0 [] []) (some (.cons (.int .i64) (.one (.sl (.one (.int .i64)))))),none,[]⟩,om 1 5 7]) (.seq [5] (.seq [6,5,2,1] (.region [oi 0 6 0]) (.block 0 (.loop [1,2,5,6] 1 (.seq [6,5,2,1] (.seq [11,6,5,2,1] (.region [om 0 8 6,on 1 9 1,oa 2 10 (.len (.t 9)),oa 3 11 (.bin .lss (.t 8) (.t 10))]) (.cond (.t 11) .skip (.exit 0))) (.seq [6,5,2,1] (.block 1 (.seq [6,5,2,1] (.seq [20,6,5,2,1] (.region [oa 0 14 (.loadB 0 (some 2) (.t 2)),on 1 15 1,om 2 16 6,xA 3 17 (.indexA 2 (.t 15) (.t 16)) [1,2],xA 4 18 (.loadH (some 2) (.t 17)) [1,2,3],xF 5 19 J7 [(.t 14),(.t 18)] (rg 5),xA 6 20 (.un .not (.t 19)) (rg 6)]) (.cond (.t 20) (.region [om 0 21 5,on 1 22 1,om 2 23 6,oa 3 24 (.indexA 2 (.t 22) (.t 23)),oa 4 25 (.loadH (some 2) (.t 24)),oF 5 26 Kw [(.t 25)],⟨6,some 27,.a false (.litSlice 2 1 [Ab,.nils] [(0,2,(.t 26))]) (some (.cons (.int .i64) (.one (.sl (.one (.int .i64)))))),none,[]⟩,oa 7 28 (.app 2 (.t 21) (.t 27)),om 8 5 28]) .skip)) (.region [on 0 29 1,om 1 30 6,oa 2 31 (.indexA 2 (.t 29) (.t 30)),ob 3 32 (.loadH (some 2) (.t 31)),os 4 (.storeB 0 2 (.t 2) (.t 32))]))) (.region [om 0 12 6,oa 1 13 (.bin .add (.t 12) Au),om 2 6 13])))))) (.seq [4] (.region [om 0 33 5,om 1 4 33]) .ret))))
def Ia:Fn:=⟨⟨2,34,1,false,[.tmp 4],qu⟩,[.agg [Aw,(.frz,.sl (.one (.int .i64)))],.one .frz (.sl (.cons (.int .i64) (.one (.sl (.one (.int .i64))))))],.one (.one .own (.sl (.cons (.int .i64) (.one (.sl (.one (.int .i64)))))))⟩
theorem eU:Ia.A:=AV ⟨pX,uE,trivial⟩
def QD:JP->List DY:=Ia.V
def Qz:JP->Prop:=Ia.O
theorem e6:Ia.B:=AX ⟨pV,uH,trivial⟩ (by kernel_rfl) (λ x=>by kernel_rfl)
def sV:DCode:=(.seq [4,2,1] (.region [oa 0 2 (.boxB 0 7 (.t 0)),oa 1 4 (.allocB 1 [Ab,.nils,.nils,Ab,.nils,Ab,Cy]),oa 2 5 (.mv (.c .nils)),oa 3 6 (.mv An)]) (.seq [7,4,2] (.region [oa 0 9 (.loadB 0 (some 7) (.t 2)),om 1 10 1,oF 2 11 GV [(.t 9),(.t 10)],om 3 7 11]) (.seq [7,4,2] (.seq [18,7,4,2] (.region [oa 0 12 (.loadB 0 (some 7) (.t 2)),oF 1 13 GP [(.t 12)],oa 2 14 (.un .not (.t 13)),om 3 15 14,og 4 16 (.mv (.t 7)) 15 false,og 5 17 (.bin .lss (.t 16) AE) 15 false,oa 6 18 (.pick (.t 15) AR (.t 17))]) (.cond (.t 18) (.seq [6,5,4] (.region [oa 0 19 (.build [Ab,.nils,.nils,Ab,.nils,Ab,Cy] []),⟨1,some 20,.a false (.litSlice 2 0 [] []) (some (.cons (.int .i64) (.one (.sl (.one (.int .i64)))))),none,[]⟩,os 2 (.storeB 1 7 (.t 4) (.t 19)),om 3 5 20,oa 4 6 (.mv An)]) .ret) .skip)) (.seq [8,7,4,2] (.region [oa 0 21 (.loadB 0 (some 7) (.t 2)),oF 1 22 GU [(.t 21)],oa 2 8 (.allocB 2 [Ab,.nils,.nils,Ab,.nils,Ab,Cy]),os 3 (.storeB 2 7 (.t 8) (.t 22))]) (.seq [8,4,2] (.region [oa 0 23 (.fieldA 4 (.t 8)),oa 1 24 (.loadB 2 none (.t 23)),om 2 25 7,oF 3 26 GN [(.t 24),(.t 25)],oa 4 27 (.fieldA 4 (.t 8)),os 5 (.storeB 2 1 (.t 27) (.t 26))]) (.seq [6,5,4] (.region [oa 0 28 (.loadB 2 (some 7) (.t 8)),oa 1 29 (.fieldA 4 (.t 2)),xA 2 30 (.loadB 0 none (.t 29)) [1],oa 4 32 (.fieldA 4 (.t 8)),xA 5 33 (.loadB 2 none (.t 32)) [4],xF 3 31 EX [(.t 30)] [1,2],xF 6 34 EX [(.t 33)] [1,2,3,4,5],⟨7,some 35,.a false (.litSlice 2 1 [Ab,.nils] [(0,2,(.t 34))]) (some (.cons (.int .i64) (.one (.sl (.one (.int .i64)))))),none,[1,2,3,4,5,6]⟩,xF 8 36 Ia [(.t 31),(.t 35)] [1,2,3,4,5,6,7],⟨9,none,.clm (.t 8) 28 (.storeB 1 7 (.t 4) (.t 28)),none,[0,1,2,3,4,5,6,7,8]⟩,xA 10 5 (.mv (.t 36)) (rg 10),xA 11 6 (.mv AR) (rg 11)]) .ret))))))
def Kk:Fn:=⟨⟨2,37,3,false,[.cell 4 (some 7),.tmp 5,.tmp 6],sV⟩,[.agg [Aw,(.frz,.sl (.one (.sl BA))),(.frz,.sl (.one (.sl BD))),Aw,(.frz,.sl Bj),Aw,(.frz,.bool)],.one .frz (.int .i64)],.tup [.agg [Aq,(.own,.sl (.one (.sl BA))),(.own,.sl (.one (.sl BD))),Aq,(.own,.sl Bj),Aq,(.own,.bool)],.one .own (.sl (.cons (.int .i64) (.one (.sl (.one (.int .i64)))))),.one .own (.bool)]⟩
theorem sI:Kk.A:=AV ⟨gf,YP,Ze,YH,QJ,QJ,eU,trivial⟩
def Q8:HQ->Ci×Fb×Bool:=Kk.V
def QV:HQ->Prop:=Kk.O
theorem tu:Kk.B:=AX ⟨gb,YT,Zg,YJ,QB,QB,e6,trivial⟩ (by kernel_rfl) (λ x=>by kernel_rfl)
def pQ:DCode:=(.seq [2,1] (.region [oa 0 1 (.boxB 0 7 (.t 0)),oa 1 2 (.allocB 1 [Ab,.nils,.nils,Ab,.nils,Ab,Cy])]) (.seq [2,1] (.region [oa 0 3 (.fieldA 0 (.t 1)),oa 1 4 (.loadB 0 (some 2) (.t 3)),oF 2 5 J5 [(.t 4)],oa 3 6 (.fieldA 0 (.t 1)),os 4 (.storeB 0 2 (.t 6) (.t 5))]) (.seq [2,1] (.region [oa 0 7 (.fieldA 2 (.t 1)),oa 1 8 (.loadB 0 none (.t 7)),oF 2 9 J9 [(.t 8)],oa 3 10 (.fieldA 2 (.t 1)),os 4 (.storeB 0 1 (.t 10) (.t 9))]) (.seq [2,1] (.region [oa 0 11 (.fieldA 4 (.t 1)),oa 1 12 (.loadB 0 none (.t 11)),oa 2 13 (.app 5 (.c .nils) (.t 12)),oa 3 14 (.fieldA 4 (.t 1)),os 4 (.storeB 0 1 (.t 14) (.t 13))]) (.seq [2] (.region [ob 0 15 (.loadB 0 (some 7) (.t 1)),os 1 (.storeB 1 7 (.t 2) (.t 15))]) .ret)))))
def H7:Fn:=⟨⟨1,16,2,false,[.cell 2 (some 7)],pQ⟩,[.agg [Aw,(.frz,.sl (.one (.sl BA))),(.frz,.sl (.one (.sl BD))),Aw,(.frz,.sl Bj),Aw,(.frz,.bool)]],.one (.agg [Aq,(.own,.sl (.one (.sl BA))),(.own,.sl (.one (.sl BD))),Aq,(.own,.sl Bj),Aq,(.own,.bool)])⟩
theorem eM:H7.A:=AV ⟨pF,pS,trivial⟩
def B6:Ci->Int×DU×De×Int×Bz×Int×Bool:=H7.V
def Qr:Ci->Prop:=H7.O
theorem eQ:H7.B:=AX ⟨pY,pt,trivial⟩ (by kernel_rfl) (λ x=>by kernel_rfl)
def oY:DCode:=(.seq [2,1] (.region [oa 0 2 (.boxB 0 2 (.t 0)),oa 1 4 (.mv (.c .nils))]) (.seq [5,2,1] (.region [oa 0 5 (.mv (.c .nils))]) (.seq [5] (.seq [10,9,8,5,2] (.region [on 0 8 1,oa 1 9 (.len (.t 8)),oi 2 10 0]) (.block 0 (.loop [2,5,8,9,10] 1 (.seq [11,10,9,8,5,2] (.region [oa 0 11 (.bin .lss (.t 10) (.t 9))]) (.seq [10,9,8,5,2] (.cond (.t 11) .skip (.exit 0)) (.seq [10,9,8,5,2] (.block 1 (.seq [10,9,8,7,5,2] (.region [oa 0 12 (.indexA 2 (.t 8) (.t 10)),ob 1 13 (.loadH (some 2) (.t 12)),oa 2 7 (.allocB 1 [Ab,.nils]),os 3 (.storeB 1 2 (.t 7) (.t 13))]) (.seq [10,9,8,7,5,2] (.seq [17,10,9,8,7,5,2] (.region [oa 0 14 (.loadB 0 (some 2) (.t 2)),oa 1 15 (.loadB 1 (some 2) (.t 7)),oF 2 16 EU [(.t 14),(.t 15)],oa 3 17 (.un .not (.t 16))]) (.cond (.t 17) (.region [om 0 18 5,ob 1 19 (.loadB 1 (some 2) (.t 7)),⟨2,some 20,.a false (.litSlice 2 1 [Ab,.nils] [(0,2,(.t 19))]) (some (.cons (.int .i64) (.one (.slf (.one (.int .i64)))))),none,[]⟩,oa 3 21 (.app 2 (.t 18) (.t 20)),om 4 5 21]) .skip)) (.region [ob 0 22 (.loadB 1 (some 2) (.t 7)),os 1 (.storeB 0 2 (.t 2) (.t 22))])))) (.region [oa 0 23 (.bin .add (.t 10) Au),om 1 10 23]))))))) (.seq [4] (.region [om 0 24 5,om 1 4 24]) .ret))))
def FP:Fn:=⟨⟨2,25,2,false,[.tmp 4],oY⟩,[.agg [Aw,(.frz,.sl (.one (.int .i64)))],.one .frz (.sl (.cons (.int .i64) (.one (.sl (.one (.int .i64))))))],.one (.one .own (.sl (.cons (.int .i64) (.one (.slf (.one (.int .i64)))))))⟩
theorem eF:FP.A:=AV ⟨Yz,trivial⟩
def Qq:JP->List DY:=FP.V
def Qp:JP->Prop:=FP.O
theorem eG:FP.B:=AX ⟨Yv,trivial⟩ (by kernel_rfl) (λ x=>by kernel_rfl)
def tj:DCode:=(.seq [4,2,1] (.region [oa 0 2 (.boxB 0 7 (.t 0)),oa 1 4 (.allocB 1 [Ab,.nils,.nils,Ab,.nils,Ab,Cy]),oa 2 5 (.mv (.c .nils))]) (.seq [6,4,2,1] (.region [oa 0 8 (.loadB 0 (some 7) (.t 2)),oF 1 9 H7 [(.t 8)],oa 2 6 (.allocB 2 [Ab,.nils,.nils,Ab,.nils,Ab,Cy]),os 3 (.storeB 2 7 (.t 6) (.t 9))]) (.seq [7,6,4,2] (.region [oa 0 10 (.loadB 0 (some 7) (.t 2)),om 1 11 1,oF 2 12 Dw [(.t 10),(.t 11)],om 3 7 12]) (.seq [6,4,2] (.region [oa 0 13 (.fieldA 4 (.t 6)),xA 1 14 (.loadB 2 none (.t 13)) (rg 1),om 2 15 7,xA 3 16 (.slice 5 (.t 14) none (some (.t 15))) (rg 3),oa 4 17 (.fieldA 4 (.t 6)),xA 5 18 (.loadB 2 none (.t 17)) [4],om 6 19 7,xA 7 20 (.bin .add (.t 19) Au) [6],xA 8 21 (.slice 5 (.t 18) (some (.t 20)) none) [4,5,6,7],⟨9,some 22,.aw [(0,5)] false (.app 5 (.t 16) (.t 21)) none,none,rg 9⟩,xA 10 23 (.fieldA 4 (.t 6)) (rg 10),xS 11 (.storeB 2 1 (.t 23) (.t 22)) (rg 11)]) (.seq [5,4] (.region [⟨0,some 24,.fzb (.t 6) (.loadB 2 (some 7) (.t 6)),none,[]⟩,oa 1 25 (.fieldA 4 (.t 2)),xA 2 26 (.loadB 0 none (.t 25)) [1],oa 4 28 (.fieldA 4 (.t 6)),xA 5 29 (.loadB 2 none (.t 28)) [4],xF 3 27 CN [(.t 26)] [1,2],xF 6 30 CN [(.t 29)] [1,2,3,4,5],⟨7,some 31,.a false (.litSlice 2 1 [Ab,.nils] [(0,2,(.t 30))]) (some (.cons (.int .i64) (.one (.sl (.one (.int .i64)))))),none,[1,2,3,4,5,6]⟩,⟨8,some 32,.call true FP.S FP.P FP.D [(.t 27),(.t 31)],none,[1,2,3,4,5,6,7]⟩,xS 9 (.storeB 1 7 (.t 4) (.t 24)) (rg 9),xA 10 5 (.mv (.t 32)) (rg 10)]) .ret)))))
def Ko:Fn:=⟨⟨2,33,3,false,[.cell 4 (some 7),.tmp 5],tj⟩,[.agg [Aw,(.frz,.sl (.one (.sl BA))),(.frz,.sl (.one (.sl BD))),Aw,(.frz,.sl Bj),Aw,(.frz,.bool)],.one .frz (.int .i64)],.tup [.agg [Aw,(.frz,.sl (.one (.sl BA))),(.frz,.sl (.one (.sl BD))),Aw,(.frz,.sl Bj),Aw,(.frz,.bool)],.one .own (.sl (.cons (.int .i64) (.one (.slf (.one (.int .i64))))))]⟩
theorem sJ:Ko.A:=AV ⟨eM,Ra,Lq,Lq,eF,trivial⟩
def U0:HQ->Ci×Fb:=Ko.V
def Y4:HQ->Prop:=Ko.O
theorem sS:Ko.B:=AX ⟨eQ,Q9,Ln,Ln,eG,trivial⟩ (by kernel_rfl) (λ x=>by kernel_rfl)
def sU:DCode:=(.seq [4,2,1] (.region [oa 0 2 (.boxB 0 7 (.t 0)),oa 1 4 (.allocB 1 [Ab,.nils,.nils,Ab,.nils,Ab,Cy]),oa 2 5 (.mv (.c .nils)),oa 3 6 (.mv An)]) (.seq [4,2,1] (.seq [17,4,2,1] (.region [oa 0 9 (.loadB 0 (some 7) (.t 2)),oF 1 10 EZ [(.t 9)],oa 2 11 (.un .not (.t 10)),om 3 12 11,og 4 13 (.loadB 0 (some 7) (.t 2)) 12 false,og 5 14 (.mv (.t 1)) 12 false,⟨6,some 15,.call false Dw.S Dw.P Dw.D [(.t 13),(.t 14)],(some (12,false)),[]⟩,og 7 16 (.bin .lss (.t 15) AE) 12 false,oa 8 17 (.pick (.t 12) AR (.t 16))]) (.cond (.t 17) (.seq [6,5,4] (.region [oa 0 18 (.build [Ab,.nils,.nils,Ab,.nils,Ab,Cy] []),os 1 (.storeB 1 7 (.t 4) (.t 18)),⟨2,some 5,.fzb (.t 4) (.mv (.c .nils)),none,[]⟩,oa 3 6 (.mv An)]) .ret) .skip)) (.seq [8,7,4] (.region [oa 0 20 (.loadB 0 (some 7) (.t 2)),om 1 21 1,oF 2 22 Ko [(.t 20),(.t 21)],om 3 19 22,oa 4 23 (.extract (.t 19) 0),oa 5 24 (.extract (.t 19) 1),oa 6 7 (.allocB 2 [Ab,.nils,.nils,Ab,.nils,Ab,Cy]),os 7 (.storeB 2 7 (.t 7) (.t 23)),om 8 8 24]) (.seq [6,5,4] (.region [ob 0 25 (.loadB 2 (some 7) (.t 7)),om 1 26 8,os 2 (.storeB 1 7 (.t 4) (.t 25)),om 3 5 26,oa 4 6 (.mv AR)]) .ret))))
def Il:Fn:=⟨⟨2,27,3,false,[.cell 4 (some 7),.tmp 5,.tmp 6],sU⟩,[.agg [Aw,(.frz,.sl (.one (.sl BA))),(.frz,.sl (.one (.sl BD))),Aw,(.frz,.sl Bj),Aw,(.frz,.bool)],.one .frz (.int .i64)],.tup [.agg [Aw,(.frz,.sl (.one (.sl BA))),(.frz,.sl (.one (.sl BD))),Aw,(.frz,.sl Bj),Aw,(.frz,.bool)],.one .own (.sl (.cons (.int .i64) (.one (.slf (.one (.int .i64)))))),.one .own (.bool)]⟩
theorem fQ:Il.A:=AV ⟨T6,Ra,sJ,trivial⟩
def Lz:HQ->Ci×Fb×Bool:=Il.V
def MK:HQ->Prop:=Il.O
theorem fS:Il.B:=AX ⟨Uo,Q9,sS,trivial⟩ (by kernel_rfl) (λ x=>by kernel_rfl)
def px:DCode:=(.seq [0] (.region [oa 0 2 (.mv An)]) (.seq [2] (.region [om 0 3 0,oF 1 4 BM [(.t 3),Au,(.c (.int .i64 36))],om 2 5 4,og 3 6 (.mv (.t 0)) 5 false,og 4 7 (.bin .eql (.t 6) (.c (.int .i64 39))) 5 false,oa 5 8 (.pick (.t 5) AR (.t 7)),om 6 9 8,og 7 10 (.mv (.t 0)) 9 false,og 8 11 (.bin .eql (.t 10) (.c (.int .i64 42))) 9 false,oa 9 12 (.pick (.t 9) AR (.t 11)),om 10 2 12]) .ret))
def J6:Fn:=⟨⟨1,13,0,true,[.tmp 2],px⟩,[.one .frz (.int .i64)],.one (.one .own (.bool))⟩
theorem pC:J6.A:=AV ⟨Gk,trivial⟩
def Je:Int->Bool:=J6.V
def YA:Int->Prop:=J6.O
theorem pU:J6.B:=AX ⟨Gj,trivial⟩ (by kernel_rfl) (λ x=>by kernel_rfl)
def wJ:DCode:=(.seq [4,3,0] (.region [oa 0 3 (.boxB 0 4 (.t 1)),oa 1 4 (.allocB 1 [Ab,Ab,Ab,Ab])]) (.seq [4,3,0] (.region [oa 0 5 (.fieldA 2 (.t 3)),xA 1 6 (.loadB 0 none (.t 5)) (rg 1),om 2 7 0,xA 3 8 (.nilck (.t 7)) [2],xA 4 9 (.fieldA 5 (.t 8)) [2,3],xA 5 10 (.loadH none (.t 9)) [2,3,4],xA 6 11 (.bin .or (.t 6) (.t 10)) (rg 6),xA 7 12 (.fieldA 2 (.t 3)) (rg 7),xS 8 (.storeB 0 1 (.t 12) (.t 11)) (rg 8)]) (.seq [4,3,0] (.region [om 0 13 0,oa 1 14 (.nilck (.t 13)),oa 2 15 (.fieldA 5 (.t 14)),os 3 (.storeH 1 (.t 15) AE)]) (.seq [4,3,0] (.seq [19,4,3,0] (.region [oa 0 16 (.fieldA 1 (.t 3)),oa 1 17 (.loadB 0 none (.t 16)),oF 2 18 J6 [(.t 17)],oa 3 19 (.un .not (.t 18))]) (.cond (.t 19) (.region [om 0 20 0,oa 1 21 (.nilck (.t 20)),oa 2 22 (.fieldA 6 (.t 21)),os 3 (.storeH 1 (.t 22) An)]) .skip)) (.seq [4,3] (.seq [37,4,3] (.region [om 0 23 0,oa 1 24 (.nilck (.t 23)),oa 2 25 (.fieldA 6 (.t 24)),oa 3 26 (.loadH none (.t 25)),om 4 27 26,og 5 28 (.fieldA 1 (.t 3)) 27 true,og 6 29 (.loadB 0 none (.t 28)) 27 true,og 7 30 (.bin .leq (.t 29) (.c (.int .i64 26))) 27 true,oa 8 31 (.pick (.t 27) (.t 30) An),om 9 32 31,og 10 33 (.fieldA 2 (.t 3)) 32 true,og 11 34 (.loadB 0 none (.t 33)) 32 true,og 12 35 (.bin .andNot (.t 34) (.c (.int .i64 2))) 32 true,og 13 36 (.bin .eql (.t 35) AE) 32 true,oa 14 37 (.pick (.t 32) (.t 36) An)]) (.cond (.t 37) (.region [oa 0 38 (.fieldA 2 (.t 3)),os 1 (.storeB 0 1 (.t 38) (.c (.int .i64 2)))]) .skip)) (.seq [4] (.region [ob 0 39 (.loadB 0 (some 4) (.t 3)),os 1 (.storeB 1 4 (.t 4) (.t 39))]) .ret))))))
def LF:DFun:=⟨2,40,2,false,[.cell 4 (some 4)],wJ⟩
@[irreducible] def O2:Be:=EK LF.er.er
@[irreducible] def Ro:Cb:=Da LF.er
theorem vP:D4 O2 Ro:=by unfold O2 Ro;exact FZ (f:=LF.er) ⟨pC,trivial⟩
def VN:List HT:=[.agg [Aw,Aw,Aw,Aw]]
def VM:List (Ql×CT):=[Aq,(.own,.sl (.one (.sl BA))),(.own,.sl (.one (.sl BD))),Aq,(.own,.sl Bj),Aq,(.own,.bool)]
def VG:QT:=.one (.agg [Aq,Aq,Aq,Aq])
def Vf:List (Ql×CT):=[Aq,Aq,Aq,Aq]
@[irreducible] def Rp(x:Qb):CH×Ci:=(shut λ x=>La LF VN Vf VM VG x).1 x
@[irreducible] def Rh(x:Qb):Prop:=(shut λ x=>K0 LF VN Vf VM VG x).1 x
def iq:CL:=LZ VN Vf VM VG Rh Rp
theorem vU:DN Ro iq:=by unfold Ro;exact O8 (f:=LF) (hs:=VN) (c2:=Vf) (cs:=VM) (q:=VG) ⟨pU,trivial⟩ (by kernel_rfl) (λ x=>by kernel_rfl) (λ x h=>by unfold Rh at h;exact Eq.mp (congrFun (shut _).2 x) h) (λ x=>by unfold Rp;exact(congrFun (shut _).2 x).symm)
def sd:DCode:=(.seq [4,3,0] (.region [oa 0 3 (.boxB 0 4 (.t 1)),oa 1 4 (.allocB 1 [Ab,Ab,Ab,Ab])]) (.seq [4,3] (.seq [6,4,3,0] (.region [oa 0 5 (.fieldA 0 (.t 3)),oa 1 6 (.loadB 0 none (.t 5))]) (.block 0 (.seq [7,6,4,3,0] (.region [oa 0 8 (.bin .eql (.t 6) (.c (.int .i64 2))),om 1 7 8]) (.cond (.t 7) (.seq [11,4,3,0] (.region [oa 0 9 (.fieldA 1 (.t 3)),oa 1 10 (.loadB 0 none (.t 9)),oa 2 11 (.bin .gtr (.t 10) AE)]) (.cond (.t 11) (.seq [4] (.region [om 0 12 0,oa 1 13 (.loadB 0 (some 4) (.t 3)),op 2 14 O2 Ro iq [(.t 12),(.t 13)],os 3 (.storeB 1 4 (.t 4) (.t 14))]) .ret) .skip)) (.seq [15,6,4,3,0] (.region [oa 0 16 (.bin .eql (.t 6) (.c (.int .i64 4))),om 1 15 16]) (.cond (.t 15) (.region [om 0 17 0,om 1 18 0,xA 2 19 (.nilck (.t 18)) [1],xA 3 20 (.fieldA 3 (.t 19)) [1,2],xA 4 21 (.loadH none (.t 20)) [1,2,3],oa 5 22 (.fieldA 3 (.t 3)),xA 6 23 (.loadB 0 none (.t 22)) [5],xA 7 24 (.bin .shl Au (.t 23)) [5,6],xA 8 25 (.bin .xor (.t 21) (.t 24)) [1,2,3,4,5,6,7],xA 9 26 (.nilck (.t 17)) (rg 9),xA 10 27 (.fieldA 3 (.t 26)) (rg 10),xS 11 (.storeH 1 (.t 27) (.t 25)) (rg 11)]) (.seq [28,6,4,3,0] (.region [oa 0 29 (.bin .eql (.t 6) (.c (.int .i64 5))),om 1 28 29]) (.cond (.t 28) (.region [om 0 30 0,oa 1 31 (.fieldA 3 (.t 3)),oa 2 32 (.loadB 0 none (.t 31)),oa 3 33 (.bin .shl Au (.t 32)),oa 4 34 (.bin .andNot (.t 33) Au),oa 5 35 (.nilck (.t 30)),oa 6 36 (.fieldA 3 (.t 35)),os 7 (.storeH 1 (.t 36) (.t 34))]) (.seq [37,6,4,3,0] (.region [oa 0 38 (.bin .eql (.t 6) (.c (.int .i64 8))),om 1 37 38]) (.cond (.t 37) (.seq [48,4,3,0] (.region [om 0 39 0,xA 1 40 (.nilck (.t 39)) (rg 1),xA 2 41 (.fieldA 5 (.t 40)) (rg 2),xA 3 42 (.loadH none (.t 41)) (rg 3),oa 4 43 (.fieldA 2 (.t 3)),xA 5 44 (.loadB 0 none (.t 43)) [4],xA 6 45 (.bin .and (.t 42) (.t 44)) (rg 6),oa 7 46 (.fieldA 2 (.t 3)),xA 8 47 (.loadB 0 none (.t 46)) [7],xA 9 48 (.bin .eql (.t 45) (.t 47)) (rg 9)]) (.cond (.t 48) (.region [om 0 49 0,om 1 50 0,xA 2 51 (.nilck (.t 50)) [1],xA 3 52 (.fieldA 5 (.t 51)) [1,2],xA 4 53 (.loadH none (.t 52)) [1,2,3],oa 5 54 (.fieldA 2 (.t 3)),xA 6 55 (.loadB 0 none (.t 54)) [5],xA 7 56 (.bin .andNot (.t 53) (.t 55)) [1,2,3,4,5,6],xA 8 57 (.nilck (.t 49)) (rg 8),xA 9 58 (.fieldA 5 (.t 57)) (rg 9),xS 10 (.storeH 1 (.t 58) (.t 56)) (rg 10)]) (.region [om 0 59 0,om 1 60 0,xA 2 61 (.nilck (.t 60)) [1],xA 3 62 (.fieldA 5 (.t 61)) [1,2],xA 4 63 (.loadH none (.t 62)) [1,2,3],oa 5 64 (.fieldA 2 (.t 3)),xA 6 65 (.loadB 0 none (.t 64)) [5],xA 7 66 (.bin .or (.t 63) (.t 65)) [1,2,3,4,5,6],xA 8 67 (.nilck (.t 59)) (rg 8),xA 9 68 (.fieldA 5 (.t 67)) (rg 9),xS 10 (.storeH 1 (.t 68) (.t 66)) (rg 10)]))) (.seq [69,4,3,0] (.region [oa 0 70 (.bin .eql (.t 6) (.c (.int .i64 10))),om 1 69 70]) (.cond (.t 69) (.region [om 0 71 0,om 1 72 0,oa 2 73 (.nilck (.t 72)),oa 3 74 (.fieldA 6 (.t 73)),oa 4 75 (.loadH none (.t 74)),oa 5 76 (.un .not (.t 75)),oa 6 77 (.nilck (.t 71)),oa 7 78 (.fieldA 6 (.t 77)),os 8 (.storeH 1 (.t 78) (.t 76))]) .skip)))))))))))) (.seq [4] (.region [ob 0 79 (.loadB 0 (some 4) (.t 3)),os 1 (.storeB 1 4 (.t 4) (.t 79))]) .ret)))
def Lp:DFun:=⟨2,80,2,false,[.cell 4 (some 4)],sd⟩
@[irreducible] def OA:Be:=EK Lp.er.er
@[irreducible] def Q2:Cb:=Da Lp.er
theorem rM:D4 OA Q2:=by unfold OA Q2;exact FZ (f:=Lp.er) ⟨vP,trivial⟩
def Uw:List HT:=[.agg [Aw,Aw,Aw,Aw]]
def UG:List (Ql×CT):=[Aq,(.own,.sl (.one (.sl BA))),(.own,.sl (.one (.sl BD))),Aq,(.own,.sl Bj),Aq,(.own,.bool)]
def UE:QT:=.one (.agg [Aq,Aq,Aq,Aq])
def Uc:List (Ql×CT):=[Aq,Aq,Aq,Aq]
@[irreducible] def Oy(x:Qb):CH×Ci:=(shut λ x=>La Lp Uw Uc UG UE x).1 x
@[irreducible] def Oq(x:Qb):Prop:=(shut λ x=>K0 Lp Uw Uc UG UE x).1 x
def fH:CL:=LZ Uw Uc UG UE Oq Oy
theorem rY:DN Q2 fH:=by unfold Q2;exact O8 (f:=Lp) (hs:=Uw) (c2:=Uc) (cs:=UG) (q:=UE) ⟨vU,trivial⟩ (by kernel_rfl) (λ x=>by kernel_rfl) (λ x h=>by unfold Oq at h;exact Eq.mp (congrFun (shut _).2 x) h) (λ x=>by unfold Oy;exact(congrFun (shut _).2 x).symm)
def wC:DCode:=(.seq [6,3,2,1] (.region [oa 0 3 (.boxB 0 7 (.t 0)),oa 1 6 (.allocB 1 [Ab,.nils,.nils,Ab,.nils,Ab,Cy]),oa 2 7 (.mv (.c .nils)),oa 3 8 (.mv An)]) (.seq [6,3,2,1] (.seq [29,6,3,2,1] (.region [oa 0 12 (.loadB 0 (some 7) (.t 3)),oF 1 13 GP [(.t 12)],oa 2 14 (.un .not (.t 13)),om 3 15 14,og 4 16 (.mv (.t 1)) 15 false,og 5 17 (.fieldA 0 (.t 3)) 15 false,og 6 18 (.fieldA 0 (.t 17)) 15 false,og 7 19 (.loadB 0 none (.t 18)) 15 false,og 8 20 (.bin .sub (.t 19) Au) 15 false,⟨9,some 21,.call false BM.S BM.P BM.D [(.t 16),AE,(.t 20)],(some (15,false)),[]⟩,og 10 22 (.un .not (.t 21)) 15 false,oa 11 23 (.pick (.t 15) AR (.t 22)),om 12 24 23,og 13 25 (.loadB 0 (some 7) (.t 3)) 24 false,og 14 26 (.mv (.t 1)) 24 false,⟨15,some 27,.call false GV.S GV.P GV.D [(.t 25),(.t 26)],(some (24,false)),[]⟩,og 16 28 (.bin .geq (.t 27) AE) 24 false,oa 17 29 (.pick (.t 24) AR (.t 28))]) (.cond (.t 29) (.seq [8,7,6] (.region [oa 0 30 (.build [Ab,.nils,.nils,Ab,.nils,Ab,Cy] []),⟨1,some 31,.a false (.litSlice 2 0 [] []) (some (.cons (.int .i64) (.one (.sl (.one (.int .i64)))))),none,[]⟩,os 2 (.storeB 1 7 (.t 6) (.t 30)),om 3 7 31,oa 4 8 (.mv An)]) .ret) .skip)) (.seq [9,6,3,2,1] (.region [oa 0 32 (.loadB 0 (some 7) (.t 3)),oF 1 33 GU [(.t 32)],oa 2 9 (.allocH [Ab,.nils,.nils,Ab,.nils,Ab,Cy]),os 3 (.storeH 7 (.t 9) (.t 33))]) (.seq [10,9,6,3,2,1] (.region [oa 9 10 (.allocH [Ab,Ab,Ab,Ab]),oa 0 34 (.fieldA 0 (.t 3)),xA 1 35 (.loadB 0 (some 2) (.t 34)) (rg 1),oa 2 36 (.fieldA 3 (.t 3)),xA 3 37 (.loadB 0 none (.t 36)) [2],oa 4 38 (.fieldA 4 (.t 3)),xA 5 39 (.loadB 0 none (.t 38)) [4],om 7 41 1,xF 6 40 Kg [(.t 37),(.t 39)] [2,3,4,5],xF 8 42 Kf [(.t 35),(.t 40),(.t 41)] (rg 8),xS 10 (.storeH 4 (.t 10) (.t 42)) (rg 10)]) (.seq [10,9,6,3,1] (.seq [43,10,9,6,3,1] (.region [om 0 43 2]) (.cond (.t 43) (.region [oa 0 44 (.loadH (some 4) (.t 10)),oF 1 45 Kv [(.t 44)],os 2 (.storeH 4 (.t 10) (.t 45))]) (.region [oa 0 46 (.loadH (some 4) (.t 10)),oF 1 47 KD [(.t 46)],os 2 (.storeH 4 (.t 10) (.t 47))]))) (.seq [10,9,6,3,1] (.region [oa 0 48 (.loadH (some 4) (.t 10)),op 1 49 OA Q2 fH [(.t 9),(.t 48)],os 2 (.storeH 4 (.t 10) (.t 49))]) (.seq [10,9,6,3] (.region [oa 0 50 (.fieldA 4 (.t 9)),ob 1 51 (.loadH none (.t 50)),om 2 52 1,ob 3 53 (.loadH (some 4) (.t 10)),oa 4 54 (.build [Ab,Ab,Ab,Ab,Ab] [(0,1,(.t 52)),(1,4,(.t 53))]),⟨5,some 55,.a false (.litSlice 5 1 [Ab,Ab,Ab,Ab,Ab] [(0,5,(.t 54))]) (some Bj),none,[]⟩,oa 6 56 (.app 5 (.t 51) (.t 55)),oa 7 57 (.fieldA 4 (.t 9)),os 8 (.storeH 1 (.t 57) (.t 56))]) (.seq [11,10,9,6,3] (.region [⟨0,some 58,.a false (.litSlice 2 0 [] []) (some (.cons (.int .i64) (.one (.sl (.one (.int .i64)))))),none,[]⟩,om 1 11 58]) (.seq [11,9,6,3] (.seq [69,11,10,9,6,3] (.region [oa 0 59 (.fieldA 0 (.t 10)),oa 1 60 (.loadH none (.t 59)),oa 2 61 (.bin .eql (.t 60) (.c (.int .i64 9))),om 3 62 61,og 4 63 (.fieldA 3 (.t 10)) 62 true,og 5 64 (.loadH none (.t 63)) 62 true,og 6 65 (.fieldA 2 (.t 3)) 62 true,og 7 66 (.loadB 0 none (.t 65)) 62 true,og 8 67 (.len (.t 66)) 62 true,og 9 68 (.bin .lss (.t 64) (.t 67)) 62 true,oa 10 69 (.pick (.t 62) (.t 68) An)]) (.cond (.t 69) (.region [oa 0 70 (.fieldA 4 (.t 9)),xA 1 71 (.loadH none (.t 70)) (rg 1),oa 2 72 (.fieldA 2 (.t 3)),xA 3 73 (.loadB 0 none (.t 72)) [2],oa 4 74 (.fieldA 3 (.t 10)),xA 5 75 (.loadH none (.t 74)) [4],xA 6 76 (.indexA 1 (.t 73) (.t 75)) [2,3,4,5],xA 7 77 (.loadH none (.t 76)) [2,3,4,5,6],xF 8 78 JZ [(.t 71),(.t 77)] (rg 8),xA 9 11 (.mv (.t 78)) (rg 9)]) .skip)) (.seq [11,9,6,3] (.region [om 0 79 11,oa 1 80 (.fieldA 4 (.t 9)),oa 2 81 (.loadH none (.t 80)),oF 3 82 EX [(.t 81)],⟨4,some 83,.a false (.litSlice 2 1 [Ab,.nils] [(0,2,(.t 82))]) (some (.cons (.int .i64) (.one (.sl (.one (.int .i64)))))),none,[]⟩,oa 5 84 (.app 2 (.t 79) (.t 83)),om 6 11 84]) (.seq [8,7,6] (.region [oa 0 85 (.loadH (some 7) (.t 9)),oa 1 86 (.fieldA 4 (.t 3)),xA 2 87 (.loadB 0 none (.t 86)) [1],on 4 89 11,xF 3 88 EX [(.t 87)] [1,2],xF 5 90 Ia [(.t 88),(.t 89)] [1,2,3,4],⟨6,none,.clm (.t 9) 85 (.storeB 1 7 (.t 6) (.t 85)),none,[0,1,2,3,4,5]⟩,xA 7 7 (.mv (.t 90)) (rg 7),xA 8 8 (.mv AR) (rg 8)]) .ret)))))))))))
def KE:Fn:=⟨⟨3,91,2,false,[.cell 6 (some 7),.tmp 7,.tmp 8],wC⟩,[.agg [Aw,(.frz,.sl (.one (.sl BA))),(.frz,.sl (.one (.sl BD))),Aw,(.frz,.sl Bj),Aw,(.frz,.bool)],.one .frz (.int .i64),.one .frz (.bool)],.tup [.agg [Aq,(.own,.sl (.one (.sl BA))),(.own,.sl (.one (.sl BD))),Aq,(.own,.sl Bj),Aq,(.own,.bool)],.one .own (.sl (.cons (.int .i64) (.one (.sl (.one (.int .i64)))))),.one .own (.bool)]⟩
theorem vZ:KE.A:=AV ⟨YP,Gk,gf,Ze,rS,rE,uO,vS,rM,o8,QJ,QJ,eU,trivial⟩
def Jp:Ff->Ci×Fb×Bool:=KE.V
def MT:Ff->Prop:=KE.O
theorem wO:KE.B:=AX ⟨YT,Gj,gb,Zg,rL,rK,tP,wN,rY,pc,QB,QB,e6,trivial⟩ (by kernel_rfl) (λ x=>by kernel_rfl)
def qc:DCode:=(.seq [0] (.region [oa 0 2 (.mv An)]) (.seq [2] (.region [om 0 3 0,oa 1 4 (.bin .geq (.t 3) Au),om 2 5 4,og 3 6 (.mv (.t 0)) 5 true,og 4 7 (.bin .leq (.t 6) (.c (.int .i64 36))) 5 true,oa 5 8 (.pick (.t 5) (.t 7) An),om 6 9 8,og 7 10 (.mv (.t 0)) 9 false,og 8 11 (.bin .eql (.t 10) (.c (.int .i64 39))) 9 false,oa 9 12 (.pick (.t 9) AR (.t 11)),om 10 13 12,og 11 14 (.mv (.t 0)) 13 false,og 12 15 (.bin .eql (.t 14) (.c (.int .i64 42))) 13 false,oa 13 16 (.pick (.t 13) AR (.t 15)),om 14 2 16]) .ret))
def H5:Fn:=⟨⟨1,17,0,true,[.tmp 2],qc⟩,[.one .frz (.int .i64)],.one (.one .own (.bool))⟩
theorem pr:H5.A:=AV trivial
def Lk:Int->Bool:=H5.V
def Yw:Int->Prop:=H5.O
theorem qd:H5.B:=AX trivial (by kernel_rfl) (λ x=>by kernel_rfl)
def tG:DCode:=(.seq [4,3,0] (.region [oa 0 3 (.boxB 0 4 (.t 1)),oa 1 4 (.allocB 1 [Ab,Ab,Ab,Ab])]) (.seq [4,3] (.seq [6,4,3,0] (.region [oa 0 5 (.fieldA 0 (.t 3)),oa 1 6 (.loadB 0 none (.t 5))]) (.block 0 (.seq [7,6,4,3,0] (.region [oa 0 8 (.bin .eql (.t 6) (.c (.int .i64 2))),om 1 7 8]) (.cond (.t 7) (.seq [4,3,0] (.seq [11,4,3,0] (.region [oa 0 9 (.fieldA 1 (.t 3)),oa 1 10 (.loadB 0 none (.t 9)),oa 2 11 (.bin .eql (.t 10) AE)]) (.cond (.t 11) (.seq [4] (.region [ob 0 12 (.loadB 0 (some 4) (.t 3)),os 1 (.storeB 1 4 (.t 4) (.t 12))]) .ret) .skip)) (.seq [4,3,0] (.region [oa 0 13 (.fieldA 2 (.t 3)),xA 1 14 (.loadB 0 none (.t 13)) (rg 1),om 2 15 0,xA 3 16 (.nilck (.t 15)) [2],xA 4 17 (.fieldA 5 (.t 16)) [2,3],xA 5 18 (.loadH none (.t 17)) [2,3,4],xA 6 19 (.bin .or (.t 14) (.t 18)) (rg 6),xA 7 20 (.fieldA 2 (.t 3)) (rg 7),xS 8 (.storeB 0 1 (.t 20) (.t 19)) (rg 8)]) (.seq [4,3,0] (.region [om 0 21 0,oa 1 22 (.nilck (.t 21)),oa 2 23 (.fieldA 5 (.t 22)),os 3 (.storeH 1 (.t 23) AE)]) (.seq [4,3,0] (.region [om 0 24 0,om 1 25 0,oa 2 26 (.nilck (.t 25)),oa 3 27 (.fieldA 6 (.t 26)),oa 4 28 (.loadH none (.t 27)),om 5 29 28,og 6 30 (.fieldA 1 (.t 3)) 29 true,og 7 31 (.loadB 0 none (.t 30)) 29 true,⟨8,some 32,.call false H5.S H5.P H5.D [(.t 31)],(some (29,true)),[]⟩,oa 9 33 (.pick (.t 29) (.t 32) An),oa 10 34 (.nilck (.t 24)),oa 11 35 (.fieldA 6 (.t 34)),os 12 (.storeH 1 (.t 35) (.t 33))]) (.seq [50,4,3] (.region [om 0 36 0,oa 1 37 (.nilck (.t 36)),oa 2 38 (.fieldA 6 (.t 37)),oa 3 39 (.loadH none (.t 38)),om 4 40 39,og 5 41 (.fieldA 1 (.t 3)) 40 true,og 6 42 (.loadB 0 none (.t 41)) 40 true,og 7 43 (.bin .leq (.t 42) (.c (.int .i64 26))) 40 true,oa 8 44 (.pick (.t 40) (.t 43) An),om 9 45 44,og 10 46 (.fieldA 2 (.t 3)) 45 true,og 11 47 (.loadB 0 none (.t 46)) 45 true,og 12 48 (.bin .andNot (.t 47) (.c (.int .i64 2))) 45 true,og 13 49 (.bin .eql (.t 48) AE) 45 true,oa 14 50 (.pick (.t 45) (.t 49) An)]) (.cond (.t 50) (.region [oa 0 51 (.fieldA 2 (.t 3)),os 1 (.storeB 0 1 (.t 51) (.c (.int .i64 2)))]) .skip)))))) (.seq [52,6,4,3,0] (.region [oa 0 53 (.bin .eql (.t 6) (.c (.int .i64 4))),om 1 52 53]) (.cond (.t 52) (.region [om 0 54 0,xA 1 55 (.nilck (.t 54)) (rg 1),xA 2 56 (.fieldA 3 (.t 55)) (rg 2),xA 3 57 (.loadH none (.t 56)) (rg 3),oa 4 58 (.fieldA 3 (.t 3)),xA 5 59 (.loadB 0 none (.t 58)) [4],xA 6 60 (.bin .shl Au (.t 59)) [4,5],xA 7 61 (.bin .xor (.t 57) (.t 60)) (rg 7),xA 8 62 (.nilck (.t 54)) (rg 8),xA 9 63 (.fieldA 3 (.t 62)) (rg 9),xS 10 (.storeH 1 (.t 63) (.t 61)) (rg 10)]) (.seq [64,6,4,3,0] (.region [oa 0 65 (.bin .eql (.t 6) (.c (.int .i64 5))),om 1 64 65]) (.cond (.t 64) (.region [om 0 66 0,oa 1 67 (.fieldA 3 (.t 3)),oa 2 68 (.loadB 0 none (.t 67)),oa 3 69 (.bin .shl Au (.t 68)),oa 4 70 (.bin .andNot (.t 69) Au),oa 5 71 (.nilck (.t 66)),oa 6 72 (.fieldA 3 (.t 71)),os 7 (.storeH 1 (.t 72) (.t 70))]) (.seq [73,6,4,3,0] (.region [oa 0 74 (.bin .eql (.t 6) (.c (.int .i64 8))),om 1 73 74]) (.cond (.t 73) (.seq [84,4,3,0] (.region [om 0 75 0,xA 1 76 (.nilck (.t 75)) (rg 1),xA 2 77 (.fieldA 5 (.t 76)) (rg 2),xA 3 78 (.loadH none (.t 77)) (rg 3),oa 4 79 (.fieldA 2 (.t 3)),xA 5 80 (.loadB 0 none (.t 79)) [4],xA 6 81 (.bin .and (.t 78) (.t 80)) (rg 6),oa 7 82 (.fieldA 2 (.t 3)),xA 8 83 (.loadB 0 none (.t 82)) [7],xA 9 84 (.bin .eql (.t 81) (.t 83)) (rg 9)]) (.cond (.t 84) (.region [om 0 85 0,xA 1 86 (.nilck (.t 85)) (rg 1),xA 2 87 (.fieldA 5 (.t 86)) (rg 2),xA 3 88 (.loadH none (.t 87)) (rg 3),oa 4 89 (.fieldA 2 (.t 3)),xA 5 90 (.loadB 0 none (.t 89)) [4],xA 6 91 (.bin .andNot (.t 88) (.t 90)) (rg 6),xA 7 92 (.nilck (.t 85)) (rg 7),xA 8 93 (.fieldA 5 (.t 92)) (rg 8),xS 9 (.storeH 1 (.t 93) (.t 91)) (rg 9)]) (.region [om 0 94 0,xA 1 95 (.nilck (.t 94)) (rg 1),xA 2 96 (.fieldA 5 (.t 95)) (rg 2),xA 3 97 (.loadH none (.t 96)) (rg 3),oa 4 98 (.fieldA 2 (.t 3)),xA 5 99 (.loadB 0 none (.t 98)) [4],xA 6 100 (.bin .or (.t 97) (.t 99)) (rg 6),xA 7 101 (.nilck (.t 94)) (rg 7),xA 8 102 (.fieldA 5 (.t 101)) (rg 8),xS 9 (.storeH 1 (.t 102) (.t 100)) (rg 9)]))) (.seq [103,4,3,0] (.region [oa 0 104 (.bin .eql (.t 6) (.c (.int .i64 10))),om 1 103 104]) (.cond (.t 103) (.region [om 0 105 0,om 1 106 0,oa 2 107 (.nilck (.t 106)),oa 3 108 (.fieldA 6 (.t 107)),oa 4 109 (.loadH none (.t 108)),oa 5 110 (.un .not (.t 109)),oa 6 111 (.nilck (.t 105)),oa 7 112 (.fieldA 6 (.t 111)),os 8 (.storeH 1 (.t 112) (.t 110))]) .skip)))))))))))) (.seq [4] (.region [ob 0 113 (.loadB 0 (some 4) (.t 3)),os 1 (.storeB 1 4 (.t 4) (.t 113))]) .ret)))
def Lw:DFun:=⟨2,114,2,false,[.cell 4 (some 4)],tG⟩
@[irreducible] def OS:Be:=EK Lw.er.er
@[irreducible] def Rb:Cb:=Da Lw.er
theorem uD:D4 OS Rb:=by unfold OS Rb;exact FZ (f:=Lw.er) ⟨pr,trivial⟩
def VA:List HT:=[.agg [Aw,Aw,Aw,Aw]]
def U8:List (Ql×CT):=[Aq,(.own,.sl (.one (.sl BA))),(.own,.sl (.one (.sl BD))),Aq,(.own,.sl Bj),Aq,(.own,.bool)]
def Vy:QT:=.one (.agg [Aq,Aq,Aq,Aq])
def UK:List (Ql×CT):=[Aq,Aq,Aq,Aq]
@[irreducible] def OX(x:Qb):CH×Ci:=(shut λ x=>La Lw VA UK U8 Vy x).1 x
@[irreducible] def OI(x:Qb):Prop:=(shut λ x=>K0 Lw VA UK U8 Vy x).1 x
def gZ:CL:=LZ VA UK U8 Vy OI OX
theorem tQ:DN Rb gZ:=by unfold Rb;exact O8 (f:=Lw) (hs:=VA) (c2:=UK) (cs:=U8) (q:=Vy) ⟨qd,trivial⟩ (by kernel_rfl) (λ x=>by kernel_rfl) (λ x h=>by unfold OI at h;exact Eq.mp (congrFun (shut _).2 x) h) (λ x=>by unfold OX;exact(congrFun (shut _).2 x).symm)
def wM:DCode:=(.seq [6,3,2,1] (.region [oa 0 3 (.boxB 0 7 (.t 0)),oa 1 6 (.allocB 1 [Ab,.nils,.nils,Ab,.nils,Ab,Cy]),oa 2 7 (.mv (.c .nils))]) (.seq [8,6,3,2,1] (.region [oa 0 12 (.loadB 0 (some 7) (.t 3)),oF 1 13 H7 [(.t 12)],oa 2 8 (.allocH [Ab,.nils,.nils,Ab,.nils,Ab,Cy]),os 3 (.storeH 7 (.t 8) (.t 13))]) (.seq [9,8,6,3,2,1] (.region [oa 0 14 (.fieldA 3 (.t 3)),oa 1 15 (.loadB 0 none (.t 14)),oa 2 16 (.fieldA 4 (.t 3)),oa 3 17 (.loadB 0 none (.t 16)),oF 4 18 Kh [(.t 15),(.t 17)],om 5 9 18]) (.seq [10,8,6,3,2,1] (.region [oa 13 10 (.allocH [Ab,Ab,Ab,Ab]),oa 0 19 (.fieldA 0 (.t 3)),xA 1 20 (.fieldA 1 (.t 19)) (rg 1),xA 2 21 (.loadB 0 none (.t 20)) (rg 2),oa 3 22 (.fieldA 0 (.t 3)),xA 4 23 (.loadB 0 (some 2) (.t 22)) [3],om 5 24 9,om 6 25 1,om 10 29 1,xF 7 26 Kq [(.t 23),(.t 24),(.t 25)] [3,4,5,6],xA 8 27 (.indexA 1 (.t 21) (.t 26)) (rg 8),xA 9 28 (.loadH none (.t 27)) (rg 9),xA 11 30 (.indexA 4 (.t 28) (.t 29)) (rg 11),xB 12 31 (.loadH (some 4) (.t 30)) (rg 12),xS 14 (.storeH 4 (.t 10) (.t 31)) (rg 14)]) (.seq [10,8,6,3,1] (.seq [32,10,8,6,3,1] (.region [om 0 32 2]) (.cond (.t 32) (.region [oa 0 33 (.loadH (some 4) (.t 10)),oF 1 34 Ku [(.t 33)],os 2 (.storeH 4 (.t 10) (.t 34))]) (.region [oa 0 35 (.loadH (some 4) (.t 10)),oF 1 36 Kx [(.t 35)],os 2 (.storeH 4 (.t 10) (.t 36))]))) (.seq [10,8,6,3,1] (.region [oa 0 37 (.loadH (some 4) (.t 10)),op 1 38 OS Rb gZ [(.t 8),(.t 37)],os 2 (.storeH 4 (.t 10) (.t 38))]) (.seq [10,8,6,3] (.region [oa 0 39 (.fieldA 4 (.t 8)),ob 1 40 (.loadH none (.t 39)),om 2 41 1,ob 3 42 (.loadH (some 4) (.t 10)),oa 4 43 (.build [Ab,Ab,Ab,Ab,Ab] [(0,1,(.t 41)),(1,4,(.t 42))]),⟨5,some 44,.a false (.litSlice 5 1 [Ab,Ab,Ab,Ab,Ab] [(0,5,(.t 43))]) (some Bj),none,[]⟩,oa 6 45 (.app 5 (.t 40) (.t 44)),oa 7 46 (.fieldA 4 (.t 8)),os 8 (.storeH 1 (.t 46) (.t 45))]) (.seq [11,10,8,6,3] (.region [oa 0 11 (.mv (.c .nils))]) (.seq [11,8,6,3] (.seq [57,11,10,8,6,3] (.region [oa 0 47 (.fieldA 0 (.t 10)),oa 1 48 (.loadH none (.t 47)),oa 2 49 (.bin .eql (.t 48) (.c (.int .i64 9))),om 3 50 49,og 4 51 (.fieldA 3 (.t 10)) 50 true,og 5 52 (.loadH none (.t 51)) 50 true,og 6 53 (.fieldA 2 (.t 3)) 50 true,og 7 54 (.loadB 0 none (.t 53)) 50 true,og 8 55 (.len (.t 54)) 50 true,og 9 56 (.bin .lss (.t 52) (.t 55)) 50 true,oa 10 57 (.pick (.t 50) (.t 56) An)]) (.cond (.t 57) (.region [oa 0 58 (.fieldA 4 (.t 8)),xA 1 59 (.loadH none (.t 58)) (rg 1),oa 2 60 (.fieldA 2 (.t 3)),xA 3 61 (.loadB 0 none (.t 60)) [2],oa 4 62 (.fieldA 3 (.t 10)),xA 5 63 (.loadH none (.t 62)) [4],xA 6 64 (.indexA 1 (.t 61) (.t 63)) [2,3,4,5],xA 7 65 (.loadH none (.t 64)) [2,3,4,5,6],xF 8 66 J0 [(.t 59),(.t 65)] (rg 8),xA 9 11 (.mv (.t 66)) (rg 9)]) .skip)) (.seq [11,8,6,3] (.region [om 0 67 11,oa 1 68 (.fieldA 4 (.t 8)),oa 2 69 (.loadH none (.t 68)),oF 3 70 CN [(.t 69)],⟨4,some 71,.a false (.litSlice 2 1 [Ab,.nils] [(0,2,(.t 70))]) (some (.cons (.int .i64) (.one (.sl (.one (.int .i64)))))),none,[]⟩,oa 5 72 (.app 2 (.t 67) (.t 71)),om 6 11 72]) (.seq [7,6] (.region [oa 0 73 (.loadH (some 7) (.t 8)),oa 1 74 (.fieldA 4 (.t 3)),xA 2 75 (.loadB 0 none (.t 74)) [1],om 4 77 11,xF 3 76 CN [(.t 75)] [1,2],⟨5,some 78,.call true FP.S FP.P FP.D [(.t 76),(.t 77)],none,[1,2,3,4]⟩,⟨6,none,.clm (.t 8) 73 (.storeB 1 7 (.t 6) (.t 73)),none,[0,1,2,3,4,5]⟩,xA 7 7 (.mv (.t 78)) (rg 7)]) .ret)))))))))))
def Ky:Fn:=⟨⟨3,79,2,false,[.cell 6 (some 7),.tmp 7],wM⟩,[.agg [Aw,(.frz,.sl (.one (.sl BA))),(.frz,.sl (.one (.sl BD))),Aw,(.frz,.sl Bj),Aw,(.frz,.bool)],.one .frz (.int .i64),.one .frz (.bool)],.tup [.agg [Aq,(.own,.sl (.one (.sl BA))),(.own,.sl (.one (.sl BD))),Aq,(.own,.sl Bj),Aq,(.own,.bool)],.one .own (.sl (.cons (.int .i64) (.one (.slf (.one (.int .i64))))))]⟩
theorem wx:Ky.A:=AV ⟨eM,rq,sw,tV,wK,uD,pj,Lq,Lq,eF,trivial⟩
def VI:Ff->Ci×Fb:=Ky.V
def Zq:Ff->Prop:=Ky.O
theorem wj:Ky.B:=AX ⟨eQ,se,tz,tL,vH,tQ,pf,Ln,Ln,eG,trivial⟩ (by kernel_rfl) (λ x=>by kernel_rfl)
def wA:DCode:=(.seq [6,3,2,1] (.region [oa 0 3 (.boxB 0 7 (.t 0)),oa 1 6 (.allocB 1 [Ab,.nils,.nils,Ab,.nils,Ab,Cy]),oa 2 7 (.mv (.c .nils)),oa 3 8 (.mv An)]) (.seq [6,3,2,1] (.seq [30,6,3,2,1] (.region [oa 0 11 (.loadB 0 (some 7) (.t 3)),oF 1 12 EZ [(.t 11)],oa 2 13 (.un .not (.t 12)),om 3 14 13,og 4 15 (.mv (.t 1)) 14 false,og 5 16 (.bin .lss (.t 15) AE) 14 false,oa 6 17 (.pick (.t 14) AR (.t 16)),om 7 18 17,og 8 19 (.mv (.t 1)) 18 false,og 9 20 (.fieldA 0 (.t 3)) 18 false,og 10 21 (.fieldA 0 (.t 20)) 18 false,og 11 22 (.loadB 0 none (.t 21)) 18 false,og 12 23 (.bin .geq (.t 19) (.t 22)) 18 false,oa 13 24 (.pick (.t 18) AR (.t 23)),om 14 25 24,og 15 26 (.loadB 0 (some 7) (.t 3)) 25 false,og 16 27 (.mv (.t 1)) 25 false,⟨17,some 28,.call false Dw.S Dw.P Dw.D [(.t 26),(.t 27)],(some (25,false)),[]⟩,og 18 29 (.bin .geq (.t 28) AE) 25 false,oa 19 30 (.pick (.t 25) AR (.t 29))]) (.cond (.t 30) (.seq [8,7,6] (.region [oa 0 31 (.build [Ab,.nils,.nils,Ab,.nils,Ab,Cy] []),os 1 (.storeB 1 7 (.t 6) (.t 31)),oa 2 7 (.mv (.c .nils)),oa 3 8 (.mv An)]) .ret) .skip)) (.seq [10,9,6] (.region [oa 0 33 (.loadB 0 (some 7) (.t 3)),om 1 34 1,om 2 35 2,oF 3 36 Ky [(.t 33),(.t 34),(.t 35)],om 4 32 36,oa 5 37 (.extract (.t 32) 0),oa 6 38 (.extract (.t 32) 1),oa 7 9 (.allocB 2 [Ab,.nils,.nils,Ab,.nils,Ab,Cy]),os 8 (.storeB 2 7 (.t 9) (.t 37)),om 9 10 38]) (.seq [8,7,6] (.region [ob 0 39 (.loadB 2 (some 7) (.t 9)),om 1 40 10,os 2 (.storeB 1 7 (.t 6) (.t 39)),om 3 7 40,oa 4 8 (.mv AR)]) .ret))))
def Kz:Fn:=⟨⟨3,41,3,false,[.cell 6 (some 7),.tmp 7,.tmp 8],wA⟩,[.agg [Aw,(.frz,.sl (.one (.sl BA))),(.frz,.sl (.one (.sl BD))),Aw,(.frz,.sl Bj),Aw,(.frz,.bool)],.one .frz (.int .i64),.one .frz (.bool)],.tup [.agg [Aq,(.own,.sl (.one (.sl BA))),(.own,.sl (.one (.sl BD))),Aq,(.own,.sl Bj),Aq,(.own,.bool)],.one .own (.sl (.cons (.int .i64) (.one (.slf (.one (.int .i64)))))),.one .own (.bool)]⟩
theorem wL:Kz.A:=AV ⟨T6,Ra,wx,trivial⟩
def MV:Ff->Ci×Fb×Bool:=Kz.V
def OV:Ff->Prop:=Kz.O
theorem vJ:Kz.B:=AX ⟨Uo,Q9,wj,trivial⟩ (by kernel_rfl) (λ x=>by kernel_rfl)
end
section
set_option maxRecDepth 100000
theorem uM (x):Re x=(x.1,(lApp [] x.2)):=(Kw.v x).trans (by kernel_rfl)
theorem vf (x):Zk x=(Av (((List.length ([]:List Int))+(List.length x.2))*1)):=(Kw.o x).trans (by kernel_rfl)
def TJ(x:JP)(x0:Mg):Bool:=(iLt x0.2.1 (lLen x.2))
def TK(x:JP)(x0:Mg):Mg:=((bSel (bNot (Of (x0.2.2,(lGet x.2 (iNat x0.2.1) (0,[]))))) (lApp x0.1 [(Re (lGet x.2 (iNat x0.2.1) (0,[])))]) x0.1),(iAdd .i64 x0.2.1 1),(lGet x.2 (iNat x0.2.1) (0,[])))
def Ys(x:JP)(x0:Mg):Prop:=(((iLt x0.2.1 (lLen x.2))=true->(((((0:Int)<=x0.2.1)/\(x0.2.1<(((List.length x.2):Int))))/\(((iNat x0.2.1)<(List.length x.2))/\((TN (x0.2.2,(lGet x.2 (iNat x0.2.1) (0,[]))))/\(((bNot (Of (x0.2.2,(lGet x.2 (iNat x0.2.1) (0,[])))))=true->((((0:Int)<=x0.2.1)/\(x0.2.1<(((List.length x.2):Int))))/\(((iNat x0.2.1)<(List.length x.2))/\((Zk (lGet x.2 (iNat x0.2.1) (0,[])))/\(Av (((List.length x0.1)+(List.length [(Re (lGet x.2 (iNat x0.2.1) (0,[])))]))*2))))))/\((bNot (Of (x0.2.2,(lGet x.2 (iNat x0.2.1) (0,[])))))=false->True)))))/\((((0:Int)<=x0.2.1)/\(x0.2.1<(((List.length x.2):Int))))/\((iNat x0.2.1)<(List.length x.2)))))/\((iLt x0.2.1 (lLen x.2))=false->True))
theorem ql (x):QD x=(Am (TJ x) (TK x) ([],0,x.1)).1:=(Ia.v x).trans (by kernel_rfl)
theorem qw (x):Qz x=(LoopOk (TJ x) (TK x) (Ys x) ([],0,x.1)):=(Ia.o x).trans (by kernel_rfl)
theorem sX (x):Q8 x=(bSel (bOr (bNot (Gh x.1)) (iLt (Ft x) 0)) ((0,[],[],0,[],0,false),[],false) (((DG x.1).1,(DG x.1).2.1,(DG x.1).2.2.1,(DG x.1).2.2.2.1,(Dj ((DG x.1).2.2.2.2.1,(Ft x))),(DG x.1).2.2.2.2.2),(QD ((AY x.1.2.2.2.2.1),[(AY (Dj ((DG x.1).2.2.2.2.1,(Ft x))))])),true)):=(Kk.v x).trans (by kernel_rfl)
theorem sY (x):QV x=((Q6 x)/\((Oo x.1)/\(((bOr (bNot (Gh x.1)) (iLt (Ft x) 0))=true->True)/\((bOr (bNot (Gh x.1)) (iLt (Ft x) 0))=false->((OD x.1)/\((ME ((DG x.1).2.2.2.2.1,(Ft x)))/\((Lm x.1.2.2.2.2.1)/\((Lm (Dj ((DG x.1).2.2.2.2.1,(Ft x))))/\((Qz ((AY x.1.2.2.2.2.1),[(AY (Dj ((DG x.1).2.2.2.2.1,(Ft x))))]))/\(((List.length (DG x.1).2.1)=(List.length (DG x.1).2.1))/\(((List.length (DG x.1).2.2.1)=(List.length (DG x.1).2.2.1))/\((List.length (Dj ((DG x.1).2.2.2.2.1,(Ft x))))=(List.length (Dj ((DG x.1).2.2.2.2.1,(Ft x)))))))))))))))):=(Kk.o x).trans (by kernel_rfl)
theorem pJ (x):B6 x=((H6 (x.1,x.2.1)).1,(H6 (x.1,x.2.1)).2,(MD x.2.2.1),x.2.2.2):=(H7.v x).trans (by kernel_rfl)
theorem pA (x):Qr x=((Qx (x.1,x.2.1))/\((Qs x.2.2.1)/\(Av ((List.length x.2.2.2.2.1)*5)))):=(H7.o x).trans (by kernel_rfl)
def Tw(x:JP)(x0:Mg):Bool:=(iLt x0.2.1 (lLen x.2))
def Tv(x:JP)(x0:Mg):Mg:=((bSel (bNot (FQ (x0.2.2,(lGet x.2 (iNat x0.2.1) (0,[]))))) (lApp x0.1 [(lGet x.2 (iNat x0.2.1) (0,[]))]) x0.1),(iAdd .i64 x0.2.1 1),(bSel (bNot (FQ (x0.2.2,(lGet x.2 (iNat x0.2.1) (0,[]))))) (lGet x.2 (iNat x0.2.1) (0,[])).1 (lGet x.2 (iNat x0.2.1) (0,[])).1),(bSel (bNot (FQ (x0.2.2,(lGet x.2 (iNat x0.2.1) (0,[]))))) (lGet x.2 (iNat x0.2.1) (0,[])).2 (lGet x.2 (iNat x0.2.1) (0,[])).2))
def Yp(x:JP)(x0:Mg):Prop:=(((iLt x0.2.1 (lLen x.2))=true->((((0:Int)<=x0.2.1)/\(x0.2.1<(((List.length x.2):Int))))/\(((iNat x0.2.1)<(List.length x.2))/\((Lg (x0.2.2,(lGet x.2 (iNat x0.2.1) (0,[]))))/\(((bNot (FQ (x0.2.2,(lGet x.2 (iNat x0.2.1) (0,[])))))=true->(Av (((List.length x0.1)+(List.length [(lGet x.2 (iNat x0.2.1) (0,[]))]))*2)))/\((bNot (FQ (x0.2.2,(lGet x.2 (iNat x0.2.1) (0,[])))))=false->True))))))/\((iLt x0.2.1 (lLen x.2))=false->True))
theorem oX (x):Qq x=(Am (Tw x) (Tv x) ([],0,x.1)).1:=(FP.v x).trans (by kernel_rfl)
theorem oZ (x):Qp x=(LoopOk (Tw x) (Tv x) (Yp x) ([],0,x.1)):=(FP.o x).trans (by kernel_rfl)
theorem sC (x):U0 x=(((B6 x.1).1,(B6 x.1).2.1,(B6 x.1).2.2.1,(B6 x.1).2.2.2.1,(lApp (lTake (B6 x.1).2.2.2.2.1 (lN (lSub (B6 x.1).2.2.2.2.1 0 (iNat (BS x))))) (lSub (B6 x.1).2.2.2.2.1 (iNat (iAdd .i64 (BS x) 1)) (lN (B6 x.1).2.2.2.2.1))),(B6 x.1).2.2.2.2.2),(Qq ((BL x.1.2.2.2.2.1),[(BL (lApp (lTake (B6 x.1).2.2.2.2.1 (lN (lSub (B6 x.1).2.2.2.2.1 0 (iNat (BS x))))) (lSub (B6 x.1).2.2.2.2.1 (iNat (iAdd .i64 (BS x) 1)) (lN (B6 x.1).2.2.2.2.1))))]))):=(Ko.v x).trans (by kernel_rfl)
theorem tc (x):Y4 x=((Qr x.1)/\((Km x)/\((((0:Int)<=(BS x))/\((0<=(iNat (BS x)))/\(((iNat (BS x))<=(List.length (B6 x.1).2.2.2.2.1))/\(0<(List.length (B6 x.1).2.2.2.2.1)))))/\((((0:Int)<=(iAdd .i64 (BS x) 1))/\(((iNat (iAdd .i64 (BS x) 1))<=(lN (B6 x.1).2.2.2.2.1))/\(((lN (B6 x.1).2.2.2.2.1)<=(List.length (B6 x.1).2.2.2.2.1))/\(0<(List.length (B6 x.1).2.2.2.2.1)))))/\(((0<(List.length (B6 x.1).2.2.2.2.1))/\(((List.length (lSub (B6 x.1).2.2.2.2.1 0 (iNat (BS x))))<=(List.length (B6 x.1).2.2.2.2.1))/\(Av (((List.length (lSub (B6 x.1).2.2.2.2.1 0 (iNat (BS x))))+(List.length (lSub (B6 x.1).2.2.2.2.1 (iNat (iAdd .i64 (BS x) 1)) (lN (B6 x.1).2.2.2.2.1))))*5))))/\((GM x.1.2.2.2.2.1)/\((GM (lApp (lTake (B6 x.1).2.2.2.2.1 (lN (lSub (B6 x.1).2.2.2.2.1 0 (iNat (BS x))))) (lSub (B6 x.1).2.2.2.2.1 (iNat (iAdd .i64 (BS x) 1)) (lN (B6 x.1).2.2.2.2.1))))/\(Qp ((BL x.1.2.2.2.2.1),[(BL (lApp (lTake (B6 x.1).2.2.2.2.1 (lN (lSub (B6 x.1).2.2.2.2.1 0 (iNat (BS x))))) (lSub (B6 x.1).2.2.2.2.1 (iNat (iAdd .i64 (BS x) 1)) (lN (B6 x.1).2.2.2.2.1))))]))))))))):=(Ko.o x).trans (by kernel_rfl)
theorem sZ (x):Lz x=(bSel (bOr (bNot (CV x.1)) (iLt (BS x) 0)) ((0,[],[],0,[],0,false),[],false) ((U0 x).1,(U0 x).2,true)):=(Il.v x).trans (by kernel_rfl)
theorem sD (x):MK x=(((Lr x.1)/\(((bNot (CV x.1))=true->True)/\((bNot (CV x.1))=false->(Km x))))/\(((bOr (bNot (CV x.1)) (iLt (BS x) 0))=true->True)/\((bOr (bNot (CV x.1)) (iLt (BS x) 0))=false->(Y4 x)))):=(Il.o x).trans (by kernel_rfl)
theorem p8 (x):Je x=(bOr (BH (x,1,36)) (bOr (iEq x 39) (iEq x 42))):=(J6.v x).trans (by kernel_rfl)
theorem pR (x):YA x=(Ec (x,1,36)):=(J6.o x).trans (by kernel_rfl)
theorem vq (x):Rp x=((x.2.2.1,x.2.2.2.1,(bSel (bAnd (bAnd (bNot (bNot (Je x.2.2.2.1))) x.1.2.2.2.2.2.2) (bAnd (iLe x.2.2.2.1 26) (iEq (iAndNot .i64 (iOr .i64 x.2.2.2.2.1 x.1.2.2.2.2.2.1) 2) 0))) 2 (iOr .i64 x.2.2.2.2.1 x.1.2.2.2.2.2.1)),x.2.2.2.2.2),x.1.1,x.1.2.1,x.1.2.2.1,x.1.2.2.2.1,x.1.2.2.2.2.1,0,(bAnd (bNot (bNot (Je x.2.2.2.1))) x.1.2.2.2.2.2.2)):=by unfold Rp;exact(congrFun (shut _).2 x).trans (by kernel_rfl)
theorem wy (x):Rh x=(YA x.2.2.2.1):=by unfold Rh;exact(congrFun (shut _).2 x).trans (by kernel_rfl)
theorem sk (x):Oy x=(bSel (bOr (bNot (iEq x.2.2.1 2)) (bNot (iGt x.2.2.2.1 0))) (x.2.2,x.1.1,x.1.2.1,x.1.2.2.1,(bSel (iEq x.2.2.1 2) x.1.2.2.2.1 (bSel (iEq x.2.2.1 4) (iXor .i64 x.1.2.2.2.1 (iShl .i64 1 x.2.2.2.2.2)) (bSel (iEq x.2.2.1 5) (iAndNot .i64 (iShl .i64 1 x.2.2.2.2.2) 1) x.1.2.2.2.1))),x.1.2.2.2.2.1,(bSel (iEq x.2.2.1 2) x.1.2.2.2.2.2.1 (bSel (iEq x.2.2.1 4) x.1.2.2.2.2.2.1 (bSel (iEq x.2.2.1 5) x.1.2.2.2.2.2.1 (bSel (iEq x.2.2.1 8) (bSel (iEq (iAnd .i64 x.1.2.2.2.2.2.1 x.2.2.2.2.1) x.2.2.2.2.1) (iAndNot .i64 x.1.2.2.2.2.2.1 x.2.2.2.2.1) (iOr .i64 x.1.2.2.2.2.2.1 x.2.2.2.2.1)) x.1.2.2.2.2.2.1)))),(bSel (iEq x.2.2.1 2) x.1.2.2.2.2.2.2 (bSel (iEq x.2.2.1 4) x.1.2.2.2.2.2.2 (bSel (iEq x.2.2.1 5) x.1.2.2.2.2.2.2 (bSel (iEq x.2.2.1 8) x.1.2.2.2.2.2.2 (bSel (iEq x.2.2.1 10) (bNot x.1.2.2.2.2.2.2) x.1.2.2.2.2.2.2)))))) (Rp x)):=by unfold Oy;exact(congrFun (shut _).2 x).trans (by kernel_rfl)
theorem so (x):Oq x=(((iEq x.2.2.1 2)=true->(((iGt x.2.2.2.1 0)=true->(Rh x))/\((iGt x.2.2.2.1 0)=false->True)))/\((iEq x.2.2.1 2)=false->(((iEq x.2.2.1 4)=true->((0:Int)<=x.2.2.2.2.2))/\((iEq x.2.2.1 4)=false->(((iEq x.2.2.1 5)=true->((0:Int)<=x.2.2.2.2.2))/\((iEq x.2.2.1 5)=false->True)))))):=by unfold Oq;exact(congrFun (shut _).2 x).trans (by kernel_rfl)
def Lt(x:Ff):=BH (x.2.1,0,(iSub .i64 x.1.1 1))
def Cm(x:Ff):=UH ((x.1.1,x.1.2.1),(QS (x.1.2.2.2.1,x.1.2.2.2.2.1)),x.2.1)
def BQ(x:Ff):=Oy ((DG x.1),((bSel x.2.2 (DF (Cm x)).1 (DH (Cm x)).1),(bSel x.2.2 (DF (Cm x)).2.1 (DH (Cm x)).2.1),(bSel x.2.2 (DF (Cm x)).2.2.1 (DH (Cm x)).2.2.1),(bSel x.2.2 (DF (Cm x)).2.2.2 (DH (Cm x)).2.2.2)),(bSel x.2.2 (DF (Cm x)).1 (DH (Cm x)).1),(bSel x.2.2 (DF (Cm x)).2.1 (DH (Cm x)).2.1),(bSel x.2.2 (DF (Cm x)).2.2.1 (DH (Cm x)).2.2.1),(bSel x.2.2 (DF (Cm x)).2.2.2 (DH (Cm x)).2.2.2))
def QW(x:Ff):=AY (lApp (BQ x).2.2.2.2.2.1 [(x.2.1,(BQ x).1)])
def QZ(x:Ff):=Fm ((lApp (BQ x).2.2.2.2.2.1 [(x.2.1,(BQ x).1)]),(lGet x.1.2.2.1 (iNat (BQ x).1.2.2.2) []))
theorem gM (x):Jp x=(bSel (bOr (bNot (Gh x.1)) (bOr (bNot (Lt x)) (iGe (Ft (x.1,x.2.1)) 0))) ((0,[],[],0,[],0,false),[],false) (((BQ x).2.1,(BQ x).2.2.1,(BQ x).2.2.2.1,(BQ x).2.2.2.2.1,(lApp (BQ x).2.2.2.2.2.1 [(x.2.1,(BQ x).1)]),(BQ x).2.2.2.2.2.2),(QD ((AY x.1.2.2.2.2.1),(lApp (bSel (bAnd (iEq (BQ x).1.1 9) (iLt (BQ x).1.2.2.2 (lLen x.1.2.2.1))) (QZ x) []) [(QW x)]))),true)):=(KE.v x).trans (by kernel_rfl)
theorem ib (x):MT x=(((Oo x.1)/\(((bNot (Gh x.1))=true->True)/\((bNot (Gh x.1))=false->((Ec (x.2.1,0,(iSub .i64 x.1.1 1)))/\(((bNot (Lt x))=true->True)/\((bNot (Lt x))=false->(Q6 (x.1,x.2.1))))))))/\(((bOr (bNot (Gh x.1)) (bOr (bNot (Lt x)) (iGe (Ft (x.1,x.2.1)) 0)))=true->True)/\((bOr (bNot (Gh x.1)) (bOr (bNot (Lt x)) (iGe (Ft (x.1,x.2.1)) 0)))=false->((OD x.1)/\((Uk (x.1.2.2.2.1,x.1.2.2.2.2.1))/\((Ui ((x.1.1,x.1.2.1),(QS (x.1.2.2.2.1,x.1.2.2.2.2.1)),x.2.1))/\(((x.2.2=true->(U4 (Cm x)))/\(x.2.2=false->(Vl (Cm x))))/\((Oq ((DG x.1),((bSel x.2.2 (DF (Cm x)).1 (DH (Cm x)).1),(bSel x.2.2 (DF (Cm x)).2.1 (DH (Cm x)).2.1),(bSel x.2.2 (DF (Cm x)).2.2.1 (DH (Cm x)).2.2.1),(bSel x.2.2 (DF (Cm x)).2.2.2 (DH (Cm x)).2.2.2)),(bSel x.2.2 (DF (Cm x)).1 (DH (Cm x)).1),(bSel x.2.2 (DF (Cm x)).2.1 (DH (Cm x)).2.1),(bSel x.2.2 (DF (Cm x)).2.2.1 (DH (Cm x)).2.2.1),(bSel x.2.2 (DF (Cm x)).2.2.2 (DH (Cm x)).2.2.2)))/\((Av (((List.length (BQ x).2.2.2.2.2.1)+(List.length [(x.2.1,(BQ x).1)]))*5))/\((((bAnd (iEq (BQ x).1.1 9) (iLt (BQ x).1.2.2.2 (lLen x.1.2.2.1)))=true->((((0:Int)<=(BQ x).1.2.2.2)/\((BQ x).1.2.2.2<(((List.length x.1.2.2.1):Int))))/\(((iNat (BQ x).1.2.2.2)<(List.length x.1.2.2.1))/\(N2 ((lApp (BQ x).2.2.2.2.2.1 [(x.2.1,(BQ x).1)]),(lGet x.1.2.2.1 (iNat (BQ x).1.2.2.2) []))))))/\((bAnd (iEq (BQ x).1.1 9) (iLt (BQ x).1.2.2.2 (lLen x.1.2.2.1)))=false->True))/\((Lm (lApp (BQ x).2.2.2.2.2.1 [(x.2.1,(BQ x).1)]))/\((Av (((List.length (bSel (bAnd (iEq (BQ x).1.1 9) (iLt (BQ x).1.2.2.2 (lLen x.1.2.2.1))) (QZ x) []))+(List.length [(QW x)]))*2))/\((Lm x.1.2.2.2.2.1)/\((Qz ((AY x.1.2.2.2.2.1),(lApp (bSel (bAnd (iEq (BQ x).1.1 9) (iLt (BQ x).1.2.2.2 (lLen x.1.2.2.1))) (QZ x) []) [(QW x)])))/\(((List.length (BQ x).2.2.1)=(List.length (BQ x).2.2.1))/\(((List.length (BQ x).2.2.2.1)=(List.length (BQ x).2.2.2.1))/\((List.length (lApp (BQ x).2.2.2.2.2.1 [(x.2.1,(BQ x).1)]))=(List.length (lApp (BQ x).2.2.2.2.2.1 [(x.2.1,(BQ x).1)]))))))))))))))))))):=(KE.o x).trans (by kernel_rfl)
theorem pB (x):Lk x=(bSel (iGe x 1) (bOr (iLe x 36) (bOr (iEq x 39) (iEq x 42))) (bOr (iEq x 39) (iEq x 42))):=(H5.v x).trans (by kernel_rfl)
theorem pq (x):Yw x=True:=(H5.o x).trans (by kernel_rfl)
theorem u9 (x):OX x=(bSel (bOr (bNot (iEq x.2.2.1 2)) (bNot (iEq x.2.2.2.1 0))) ((x.2.2.1,x.2.2.2.1,(bSel (iEq x.2.2.1 2) (bSel (bAnd (bAnd x.1.2.2.2.2.2.2 (Lk x.2.2.2.1)) (bAnd (iLe x.2.2.2.1 26) (iEq (iAndNot .i64 (iOr .i64 x.2.2.2.2.1 x.1.2.2.2.2.2.1) 2) 0))) 2 (iOr .i64 x.2.2.2.2.1 x.1.2.2.2.2.2.1)) x.2.2.2.2.1),x.2.2.2.2.2),x.1.1,x.1.2.1,x.1.2.2.1,(bSel (iEq x.2.2.1 2) x.1.2.2.2.1 (bSel (iEq x.2.2.1 4) (iXor .i64 x.1.2.2.2.1 (iShl .i64 1 x.2.2.2.2.2)) (bSel (iEq x.2.2.1 5) (iAndNot .i64 (iShl .i64 1 x.2.2.2.2.2) 1) x.1.2.2.2.1))),x.1.2.2.2.2.1,(bSel (iEq x.2.2.1 2) (bSel (bAnd (bAnd x.1.2.2.2.2.2.2 (Lk x.2.2.2.1)) (bAnd (iLe x.2.2.2.1 26) (iEq (iAndNot .i64 (iOr .i64 x.2.2.2.2.1 x.1.2.2.2.2.2.1) 2) 0))) 0 0) (bSel (iEq x.2.2.1 4) x.1.2.2.2.2.2.1 (bSel (iEq x.2.2.1 5) x.1.2.2.2.2.2.1 (bSel (iEq x.2.2.1 8) (bSel (iEq (iAnd .i64 x.1.2.2.2.2.2.1 x.2.2.2.2.1) x.2.2.2.2.1) (iAndNot .i64 x.1.2.2.2.2.2.1 x.2.2.2.2.1) (iOr .i64 x.1.2.2.2.2.2.1 x.2.2.2.2.1)) x.1.2.2.2.2.2.1)))),(bSel (iEq x.2.2.1 2) (bSel (bAnd (bAnd x.1.2.2.2.2.2.2 (Lk x.2.2.2.1)) (bAnd (iLe x.2.2.2.1 26) (iEq (iAndNot .i64 (iOr .i64 x.2.2.2.2.1 x.1.2.2.2.2.2.1) 2) 0))) (bAnd x.1.2.2.2.2.2.2 (Lk x.2.2.2.1)) (bAnd x.1.2.2.2.2.2.2 (Lk x.2.2.2.1))) (bSel (iEq x.2.2.1 4) x.1.2.2.2.2.2.2 (bSel (iEq x.2.2.1 5) x.1.2.2.2.2.2.2 (bSel (iEq x.2.2.1 8) x.1.2.2.2.2.2.2 (bSel (iEq x.2.2.1 10) (bNot x.1.2.2.2.2.2.2) x.1.2.2.2.2.2.2)))))) (x.2.2,x.1)):=by unfold OX;exact(congrFun (shut _).2 x).trans (by kernel_rfl)
theorem ub (x):OI x=(((iEq x.2.2.1 2)=true->(((iEq x.2.2.2.1 0)=true->True)/\((iEq x.2.2.2.1 0)=false->((x.1.2.2.2.2.2.2=true->(Yw x.2.2.2.1))/\(x.1.2.2.2.2.2.2=false->True)))))/\((iEq x.2.2.1 2)=false->(((iEq x.2.2.1 4)=true->((0:Int)<=x.2.2.2.2.2))/\((iEq x.2.2.1 4)=false->(((iEq x.2.2.1 5)=true->((0:Int)<=x.2.2.2.2.2))/\((iEq x.2.2.1 5)=false->True)))))):=by unfold OI;exact(congrFun (shut _).2 x).trans (by kernel_rfl)
def Jk(x:Ff):=Q5 ((x.1.1,x.1.2.1),(E0 (x.1.2.2.2.1,x.1.2.2.2.2.1)),x.2.1)
def EE(x:Ff):=VL (lGet (lGet x.1.2.1 (iNat (Jk x)) []) (iNat x.2.1) (0,0,0,0))
def ED(x:Ff):=Vn (lGet (lGet x.1.2.1 (iNat (Jk x)) []) (iNat x.2.1) (0,0,0,0))
def BP(x:Ff):=OX ((B6 x.1),((bSel x.2.2 (ED x).1 (EE x).1),(bSel x.2.2 (ED x).2.1 (EE x).2.1),(bSel x.2.2 (ED x).2.2.1 (EE x).2.2.1),(bSel x.2.2 (ED x).2.2.2 (EE x).2.2.2)),(bSel x.2.2 (ED x).1 (EE x).1),(bSel x.2.2 (ED x).2.1 (EE x).2.1),(bSel x.2.2 (ED x).2.2.1 (EE x).2.2.1),(bSel x.2.2 (ED x).2.2.2 (EE x).2.2.2))
def Q1(x:Ff):=BL (lApp (BP x).2.2.2.2.2.1 [(x.2.1,(BP x).1)])
def QP(x:Ff):=N7 ((lApp (BP x).2.2.2.2.2.1 [(x.2.1,(BP x).1)]),(lGet x.1.2.2.1 (iNat (BP x).1.2.2.2) []))
theorem vC (x):VI x=(((BP x).2.1,(BP x).2.2.1,(BP x).2.2.2.1,(BP x).2.2.2.2.1,(lApp (BP x).2.2.2.2.2.1 [(x.2.1,(BP x).1)]),(BP x).2.2.2.2.2.2),(Qq ((BL x.1.2.2.2.2.1),(lApp (bSel (bAnd (iEq (BP x).1.1 9) (iLt (BP x).1.2.2.2 (lLen x.1.2.2.1))) (QP x) []) [(Q1 x)])))):=(Ky.v x).trans (by kernel_rfl)
theorem wg (x):Zq x=((Qr x.1)/\((Uq (x.1.2.2.2.1,x.1.2.2.2.2.1))/\((QX ((x.1.1,x.1.2.1),(E0 (x.1.2.2.2.1,x.1.2.2.2.2.1)),x.2.1))/\((((0:Int)<=(Jk x))/\((Jk x)<(((List.length x.1.2.1):Int))))/\(((iNat (Jk x))<(List.length x.1.2.1))/\((((0:Int)<=x.2.1)/\(x.2.1<(((List.length (lGet x.1.2.1 (iNat (Jk x)) [])):Int))))/\(((iNat x.2.1)<(List.length (lGet x.1.2.1 (iNat (Jk x)) [])))/\(((x.2.2=true->(U7 (lGet (lGet x.1.2.1 (iNat (Jk x)) []) (iNat x.2.1) (0,0,0,0))))/\(x.2.2=false->(VE (lGet (lGet x.1.2.1 (iNat (Jk x)) []) (iNat x.2.1) (0,0,0,0)))))/\((OI ((B6 x.1),((bSel x.2.2 (ED x).1 (EE x).1),(bSel x.2.2 (ED x).2.1 (EE x).2.1),(bSel x.2.2 (ED x).2.2.1 (EE x).2.2.1),(bSel x.2.2 (ED x).2.2.2 (EE x).2.2.2)),(bSel x.2.2 (ED x).1 (EE x).1),(bSel x.2.2 (ED x).2.1 (EE x).2.1),(bSel x.2.2 (ED x).2.2.1 (EE x).2.2.1),(bSel x.2.2 (ED x).2.2.2 (EE x).2.2.2)))/\((Av (((List.length (BP x).2.2.2.2.2.1)+(List.length [(x.2.1,(BP x).1)]))*5))/\((((bAnd (iEq (BP x).1.1 9) (iLt (BP x).1.2.2.2 (lLen x.1.2.2.1)))=true->((((0:Int)<=(BP x).1.2.2.2)/\((BP x).1.2.2.2<(((List.length x.1.2.2.1):Int))))/\(((iNat (BP x).1.2.2.2)<(List.length x.1.2.2.1))/\(N1 ((lApp (BP x).2.2.2.2.2.1 [(x.2.1,(BP x).1)]),(lGet x.1.2.2.1 (iNat (BP x).1.2.2.2) []))))))/\((bAnd (iEq (BP x).1.1 9) (iLt (BP x).1.2.2.2 (lLen x.1.2.2.1)))=false->True))/\((GM (lApp (BP x).2.2.2.2.2.1 [(x.2.1,(BP x).1)]))/\((Av (((List.length (bSel (bAnd (iEq (BP x).1.1 9) (iLt (BP x).1.2.2.2 (lLen x.1.2.2.1))) (QP x) []))+(List.length [(Q1 x)]))*2))/\((GM x.1.2.2.2.2.1)/\((Qp ((BL x.1.2.2.2.2.1),(lApp (bSel (bAnd (iEq (BP x).1.1 9) (iLt (BP x).1.2.2.2 (lLen x.1.2.2.1))) (QP x) []) [(Q1 x)])))/\(((List.length (BP x).2.2.1)=(List.length (BP x).2.2.1))/\(((List.length (BP x).2.2.2.1)=(List.length (BP x).2.2.2.1))/\((List.length (lApp (BP x).2.2.2.2.2.1 [(x.2.1,(BP x).1)]))=(List.length (lApp (BP x).2.2.2.2.2.1 [(x.2.1,(BP x).1)])))))))))))))))))))):=(Ky.o x).trans (by kernel_rfl)
theorem gW (x):MV x=(bSel (bOr (bNot (CV x.1)) (bOr (iLt x.2.1 0) (bOr (iGe x.2.1 x.1.1) (iGe (BS (x.1,x.2.1)) 0)))) ((0,[],[],0,[],0,false),[],false) ((VI x).1,(VI x).2,true)):=(Kz.v x).trans (by kernel_rfl)
theorem gF (x):OV x=(((Lr x.1)/\(((bNot (CV x.1))=true->True)/\((bNot (CV x.1))=false->(((iLt x.2.1 0)=true->True)/\((iLt x.2.1 0)=false->(((iGe x.2.1 x.1.1)=true->True)/\((iGe x.2.1 x.1.1)=false->(Km (x.1,x.2.1)))))))))/\(((bOr (bNot (CV x.1)) (bOr (iLt x.2.1 0) (bOr (iGe x.2.1 x.1.1) (iGe (BS (x.1,x.2.1)) 0))))=true->True)/\((bOr (bNot (CV x.1)) (bOr (iLt x.2.1 0) (bOr (iGe x.2.1 x.1.1) (iGe (BS (x.1,x.2.1)) 0))))=false->(Zq x)))):=(Kz.o x).trans (by kernel_rfl)
attribute [irreducible] Re Zk QD Qz Q8 QV B6 Qr Qq Qp U0 Y4 Lz MK Je YA Jp MT Lk Yw VI Zq MV OV
end
section
set_option maxRecDepth 8000
def vt:DCode:=(.seq [4,1,0] (.region [oa 0 4 (.allocB 0 [Ab,.nils,.nils,Ab,.nils,Ab,Cy])]) (.seq [5,4,1,0] (.region [⟨0,some 9,.a false (.litSlice 1 0 [] []) (some (.one (.sl BD))),none,[]⟩,om 1 5 9]) (.seq [5,4,1,0] (.seq [6,5,4,1,0] (.region [om 0 10 0,op 1 11 Cd Dv E1 [(.t 10),(.c (.int .i64 4))],om 2 6 11]) (.block 0 (.loop [0,1,4,5,6] 1 (.seq [6,5,4,1,0] (.seq [13,6,5,4,1,0] (.region [om 0 12 6,oa 1 13 (.bin .gtr (.t 12) AE)]) (.cond (.t 13) .skip (.exit 0))) (.seq [6,5,4,1,0] (.block 1 (.region [om 0 16 5,om 1 17 0,op 2 18 OU Rg gT [(.t 17)],⟨3,some 19,.a false (.litSlice 1 1 [.nils] [(0,1,(.t 18))]) (some (.one (.sl BD))),none,[]⟩,oa 4 20 (.app 1 (.t 16) (.t 19)),om 5 5 20])) (.region [om 0 14 6,oa 1 15 (.bin .sub (.t 14) Au),om 2 6 15])))))) (.seq [7,4] (.region [om 0 22 0,om 1 23 1,op 2 24 OP Rj gQ [(.t 22),(.t 23)],on 3 25 5,oF 4 26 Kc [(.t 24),(.t 25)],om 5 21 26,oa 6 27 (.extract (.t 21) 0),oa 7 28 (.extract (.t 21) 1),oa 8 7 (.allocB 1 [Ab,.nils,.nils,Ab,.nils,Ab,Cy]),os 9 (.storeB 1 7 (.t 7) (.t 27)),om 10 8 28]) (.seq [4] (.region [ob 0 29 (.loadB 1 (some 7) (.t 7)),os 1 (.storeB 0 7 (.t 4) (.t 29))]) .ret)))))
def LD:DFun:=⟨2,30,2,false,[.cell 4 (some 7)],vt⟩
@[irreducible] def O0:Be:=EK LD.er.er
@[irreducible] def Rr:Cb:=Da LD.er
theorem vD:D4 O0 Rr:=by unfold O0 Rr;exact FZ (f:=LD.er) ⟨Fq,uz,ug,qi,trivial⟩
def VQ:List HT:=[.one .frz (.int .i64)]
def VO:List (Ql×CT):=[(.frz,.sl (.one (.int .u8))),Aq,Aq]
def VF:QT:=.one (.agg [Aq,(.own,.sl (.one (.sl BA))),(.own,.sl (.one (.sl BD))),Aq,(.own,.sl Bj),Aq,(.own,.bool)])
@[irreducible] def AP(x:Cw):Ci×A6:=(shut λ x=>HS LD VQ VO VF x).1 x
@[irreducible] def OQ(x:Cw):Prop:=(shut λ x=>HH LD VQ VO VF x).1 x
def iA:CL:=IC VQ VO VF OQ AP
theorem vK:DN Rr iA:=by unfold Rr;exact KH (f:=LD) (hs:=VQ) (cs:=VO) (q:=VF) ⟨Fp,tM,uI,qj,trivial⟩ (by kernel_rfl) (λ x=>by kernel_rfl) (λ x h=>by unfold OQ at h;exact Eq.mp (congrFun (shut _).2 x) h) (λ x=>by unfold AP;exact(congrFun (shut _).2 x).symm)
def tW:DCode:=(.seq [4,1,0] (.region [oa 0 4 (.allocB 0 [Ab,.nils,.nils,Ab,.nils,Ab,Cy])]) (.seq [5,4,1,0] (.region [om 0 11 0,om 1 12 1,op 2 13 O0 Rr iA [(.t 11),(.t 12)],oa 3 5 (.allocB 1 [Ab,.nils,.nils,Ab,.nils,Ab,Cy]),os 4 (.storeB 1 7 (.t 5) (.t 13))]) (.seq [5,4] (.seq [6,5,4,1,0] (.region [om 0 14 0,op 1 15 Cd Dv E1 [(.t 14),(.c (.int .i64 8))],om 2 6 15]) (.block 0 (.loop [0,1,4,5,6] 1 (.seq [6,5,4,1,0] (.seq [17,6,5,4,1,0] (.region [om 0 16 6,oa 1 17 (.bin .gtr (.t 16) AE)]) (.cond (.t 17) .skip (.exit 0))) (.seq [6,5,4,1,0] (.scope (.block 1 (.seq [7,6,5,4,1,0] (.region [om 0 20 0,om 1 21 1,op 2 22 Cd Dv E1 [(.t 20),(.t 21)],om 3 7 22]) (.seq [10,8,7,6,5,4,1,0] (.region [oa 9 8 (.allocH [Ab,.nils,.nils,Ab,.nils,Ab,Cy]),oa 0 24 (.loadB 1 (some 7) (.t 5)),om 1 25 7,om 2 26 0,xP 3 27 Hp Jm fZ [(.t 26),(.c (.int .i64 2))] [2],xF 4 28 KE [(.t 24),(.t 25),(.t 27)] (rg 4),xA 5 23 (.mv (.t 28)) (rg 5),xA 6 29 (.extract (.t 23) 0) (rg 6),xA 7 30 (.extract (.t 23) 1) [0,1,2,3,4,5],xA 8 31 (.extract (.t 23) 2) [0,1,2,3,4,5],xS 10 (.storeH 7 (.t 8) (.t 29)) [0,1,2,3,4,5,6,9],xB 11 9 (.mv (.t 30)) [0,1,2,3,4,5,6,7,9,10],xA 12 10 (.mv (.t 31)) (rg 12)]) (.seq [8,6,5,4,1,0] (.seq [33,8,7,6,5,4,1,0] (.region [om 0 32 10,oa 1 33 (.un .not (.t 32))]) (.cond (.t 33) (.region [oa 0 35 (.loadB 1 (some 7) (.t 5)),om 1 36 7,oF 2 37 Kk [(.t 35),(.t 36)],om 3 34 37,oa 4 38 (.extract (.t 34) 0),oa 5 39 (.extract (.t 34) 1),oa 6 40 (.extract (.t 34) 2),os 7 (.storeH 7 (.t 8) (.t 38))]) .skip)) (.region [ob 0 41 (.loadH (some 7) (.t 8)),os 1 (.storeB 1 7 (.t 5) (.t 41))])))))) (.region [om 0 18 6,oa 1 19 (.bin .sub (.t 18) Au),om 2 6 19])))))) (.seq [4] (.region [ob 0 42 (.loadB 1 (some 7) (.t 5)),os 1 (.storeB 0 7 (.t 4) (.t 42))]) .ret))))
def LB:DFun:=⟨2,43,2,false,[.cell 4 (some 7)],tW⟩
@[irreducible] def OT:Be:=EK LB.er.er
@[irreducible] def Rf:Cb:=Da LB.er
theorem uv:D4 OT Rf:=by unfold OT Rf;exact FZ (f:=LB.er) ⟨vD,Fq,Fq,UL,vZ,sI,trivial⟩
def Vm:List HT:=[.one .frz (.int .i64)]
def Vk:List (Ql×CT):=[(.frz,.sl (.one (.int .u8))),Aq,Aq]
def Vg:QT:=.one (.agg [Aq,(.own,.sl (.one (.sl BA))),(.own,.sl (.one (.sl BD))),Aq,(.own,.sl Bj),Aq,(.own,.bool)])
@[irreducible] def MQ(x:Cw):Ci×A6:=(shut λ x=>HS LB Vm Vk Vg x).1 x
@[irreducible] def OE(x:Cw):Prop:=(shut λ x=>HH LB Vm Vk Vg x).1 x
def hJ:CL:=IC Vm Vk Vg OE MQ
theorem tK:DN Rf hJ:=by unfold Rf;exact KH (f:=LB) (hs:=Vm) (cs:=Vk) (q:=Vg) ⟨vK,Fp,Fp,tn,wO,tu,trivial⟩ (by kernel_rfl) (λ x=>by kernel_rfl) (λ x h=>by unfold OE at h;exact Eq.mp (congrFun (shut _).2 x) h) (λ x=>by unfold MQ;exact(congrFun (shut _).2 x).symm)
def pN:DCode:=(.seq [4,1,0] (.region [oa 0 4 (.allocB 0 [Ab,.nils,.nils,Ab,.nils,Ab,Cy])]) (.seq [4] (.region [on 0 5 0,op 1 6 LC ON Zs [(.t 5),(.c (.int .i64 7))],om 2 7 1,op 3 8 OT Rf hJ [(.t 6),(.t 7)],os 4 (.storeB 0 7 (.t 4) (.t 8))]) .ret))
def J8:Fn:=⟨⟨2,9,1,false,[.cell 4 (some 7)],pN⟩,[.one .frz (.sl (.one (.int .u8))),.one .frz (.int .i64)],.one (.agg [Aq,(.own,.sl (.one (.sl BA))),(.own,.sl (.one (.sl BD))),Aq,(.own,.sl Bj),Aq,(.own,.bool)])⟩
theorem pM:J8.A:=AV ⟨gj,uv,trivial⟩
def BW:Eh->Int×DU×De×Int×Bz×Int×Bool:=J8.V
def TT:Eh->Prop:=J8.O
theorem pZ:J8.B:=AX ⟨gv,tK,trivial⟩ (by kernel_rfl) (λ x=>by kernel_rfl)
end
section
set_option maxRecDepth 100000
def Jh(x0:De×CS):Bool:=(iGt x0.2.1 0)
def Jj(x:Cw)(x0:De×CS):(De×CS):=((lApp x0.1 [(Jl (x.1.1,x0.2.2)).1]),(iSub .i64 x0.2.1 1),(Jl (x.1.1,x0.2.2)).2)
def Za(x:Cw)(x0:De×CS):Prop:=(((iGt x0.2.1 0)=true->((OH (x.1.1,x0.2.2))/\(Av (((List.length x0.1)+(List.length [(Jl (x.1.1,x0.2.2)).1]))*1))))/\((iGt x0.2.1 0)=false->True))
theorem vQ (x):AP x=((Ol ((It ((x.1.1,(Am Jh (Jj x) ([],(As (x.1,4)))).2.2),x.2)).1,(Am Jh (Jj x) ([],(As (x.1,4)))).1)).1,(It ((x.1.1,(Am Jh (Jj x) ([],(As (x.1,4)))).2.2),x.2)).2):=by unfold AP;exact(congrFun (shut _).2 x).trans (by kernel_rfl)
theorem vV (x):OQ x=((D0 (x.1,4))/\((LoopOk Jh (Jj x) (Za x) ([],(As (x.1,4))))/\((OG ((x.1.1,(Am Jh (Jj x) ([],(As (x.1,4)))).2.2),x.2))/\(TX ((It ((x.1.1,(Am Jh (Jj x) ([],(As (x.1,4)))).2.2),x.2)).1,(Am Jh (Jj x) ([],(As (x.1,4)))).1))))):=by unfold OQ;exact(congrFun (shut _).2 x).trans (by kernel_rfl)
def Ej(x:Cw):=As ((x.1.1,(AP x).2),8)
def MH(x:Cw)(x0:Mi):=As ((x.1.1,x0.2.2.2.2.2.2.2.2),x.2)
def Un(x:Cw)(x0:Mi):=OK ((x.1.1,(MH x x0).2),(0,[],[],0,[],0,false),2)
def Lo(x:Cw)(x0:Mi):=Q8 ((x0.2.1,x0.2.2.1,x0.2.2.2.1,x0.2.2.2.2.1,x0.2.2.2.2.2.1,x0.2.2.2.2.2.2.1,x0.2.2.2.2.2.2.2.1),(MH x x0).1)
def EW(x:Cw)(x0:Mi):=Jp ((x0.2.1,x0.2.2.1,x0.2.2.2.1,x0.2.2.2.2.1,x0.2.2.2.2.2.1,x0.2.2.2.2.2.2.1,x0.2.2.2.2.2.2.2.1),(MH x x0).1,(Un x x0).1)
def Ib(x0:Mi):Bool:=(iGt x0.1 0)
def H9(x:Cw)(x0:Mi):Mi:=((iSub .i64 x0.1 1),(bSel (bNot (EW x x0).2.2) (Lo x x0).1.1 (EW x x0).1.1),(bSel (bNot (EW x x0).2.2) (Lo x x0).1.2.1 (EW x x0).1.2.1),(bSel (bNot (EW x x0).2.2) (Lo x x0).1.2.2.1 (EW x x0).1.2.2.1),(bSel (bNot (EW x x0).2.2) (Lo x x0).1.2.2.2.1 (EW x x0).1.2.2.2.1),(bSel (bNot (EW x x0).2.2) (Lo x x0).1.2.2.2.2.1 (EW x x0).1.2.2.2.2.1),(bSel (bNot (EW x x0).2.2) (Lo x x0).1.2.2.2.2.2.1 (EW x x0).1.2.2.2.2.2.1),(bSel (bNot (EW x x0).2.2) (Lo x x0).1.2.2.2.2.2.2 (EW x x0).1.2.2.2.2.2.2),(Un x x0).2)
def YO(x:Cw)(x0:Mi):Prop:=(((iGt x0.1 0)=true->((D0 ((x.1.1,x0.2.2.2.2.2.2.2.2),x.2))/\((Ov ((x.1.1,(MH x x0).2),(0,[],[],0,[],0,false),2))/\((MT ((x0.2.1,x0.2.2.1,x0.2.2.2.1,x0.2.2.2.2.1,x0.2.2.2.2.2.1,x0.2.2.2.2.2.2.1,x0.2.2.2.2.2.2.2.1),(MH x x0).1,(Un x x0).1))/\(((bNot (EW x x0).2.2)=true->(QV ((x0.2.1,x0.2.2.1,x0.2.2.2.1,x0.2.2.2.2.1,x0.2.2.2.2.2.1,x0.2.2.2.2.2.2.1,x0.2.2.2.2.2.2.2.1),(MH x x0).1)))/\((bNot (EW x x0).2.2)=false->True))))))/\((iGt x0.1 0)=false->True))
theorem uu (x):MQ x=(((Am Ib (H9 x) ((Ej x).1,(AP x).1.1,(AP x).1.2.1,(AP x).1.2.2.1,(AP x).1.2.2.2.1,(AP x).1.2.2.2.2.1,(AP x).1.2.2.2.2.2.1,(AP x).1.2.2.2.2.2.2,(Ej x).2)).2.1,(Am Ib (H9 x) ((Ej x).1,(AP x).1.1,(AP x).1.2.1,(AP x).1.2.2.1,(AP x).1.2.2.2.1,(AP x).1.2.2.2.2.1,(AP x).1.2.2.2.2.2.1,(AP x).1.2.2.2.2.2.2,(Ej x).2)).2.2.1,(Am Ib (H9 x) ((Ej x).1,(AP x).1.1,(AP x).1.2.1,(AP x).1.2.2.1,(AP x).1.2.2.2.1,(AP x).1.2.2.2.2.1,(AP x).1.2.2.2.2.2.1,(AP x).1.2.2.2.2.2.2,(Ej x).2)).2.2.2.1,(Am Ib (H9 x) ((Ej x).1,(AP x).1.1,(AP x).1.2.1,(AP x).1.2.2.1,(AP x).1.2.2.2.1,(AP x).1.2.2.2.2.1,(AP x).1.2.2.2.2.2.1,(AP x).1.2.2.2.2.2.2,(Ej x).2)).2.2.2.2.1,(Am Ib (H9 x) ((Ej x).1,(AP x).1.1,(AP x).1.2.1,(AP x).1.2.2.1,(AP x).1.2.2.2.1,(AP x).1.2.2.2.2.1,(AP x).1.2.2.2.2.2.1,(AP x).1.2.2.2.2.2.2,(Ej x).2)).2.2.2.2.2.1,(Am Ib (H9 x) ((Ej x).1,(AP x).1.1,(AP x).1.2.1,(AP x).1.2.2.1,(AP x).1.2.2.2.1,(AP x).1.2.2.2.2.1,(AP x).1.2.2.2.2.2.1,(AP x).1.2.2.2.2.2.2,(Ej x).2)).2.2.2.2.2.2.1,(Am Ib (H9 x) ((Ej x).1,(AP x).1.1,(AP x).1.2.1,(AP x).1.2.2.1,(AP x).1.2.2.2.1,(AP x).1.2.2.2.2.1,(AP x).1.2.2.2.2.2.1,(AP x).1.2.2.2.2.2.2,(Ej x).2)).2.2.2.2.2.2.2.1),(Am Ib (H9 x) ((Ej x).1,(AP x).1.1,(AP x).1.2.1,(AP x).1.2.2.1,(AP x).1.2.2.2.1,(AP x).1.2.2.2.2.1,(AP x).1.2.2.2.2.2.1,(AP x).1.2.2.2.2.2.2,(Ej x).2)).2.2.2.2.2.2.2.2):=by unfold MQ;exact(congrFun (shut _).2 x).trans (by kernel_rfl)
theorem tI (x):OE x=((OQ x)/\((D0 ((x.1.1,(AP x).2),8))/\(LoopOk Ib (H9 x) (YO x) ((Ej x).1,(AP x).1.1,(AP x).1.2.1,(AP x).1.2.2.1,(AP x).1.2.2.2.1,(AP x).1.2.2.2.2.1,(AP x).1.2.2.2.2.2.1,(AP x).1.2.2.2.2.2.2,(Ej x).2)))):=by unfold OE;exact(congrFun (shut _).2 x).trans (by kernel_rfl)
theorem pz (x):BW x=(MQ ((Jn (x.1,7)),x.2)).1:=(J8.v x).trans (by kernel_rfl)
theorem p9 (x):TT x=((MO (x.1,7))/\(OE ((Jn (x.1,7)),x.2))):=(J8.o x).trans (by kernel_rfl)
attribute [irreducible] BW TT
end
theorem AG(a:Bool):bNot a=!a:=by simp only[PR]
theorem AD(a b:Bool):bAnd a b=(a&&b):=by simp only[di]
theorem Ba(a b:Bool):bOr a b=(a||b):=by simp only[n8]
theorem Nh(a b:Bool):bIff a b=(a == b):=by simp only[nC]
theorem BF{α:Type}(c:Bool)(x y:α):bSel c x y=if c=true then x else y:=by cases c<;>simp[Dc,CP]
theorem Bv(a b:Int):iEq a b=decide (a=b):=by
 rw[X4];by_cases h:a=b<;>simp[h]
theorem CX(a b:Int):iNe a b=!decide (a=b):=by
 rw[n9];by_cases h:a=b<;>simp[h]
theorem Ap(a b:Int):iLt a b=decide (a<b):=by simp only[oA]
theorem Ev(a b:Int):iLe a b=decide (a<=b):=by simp only[n7]
theorem CQ(a b:Int):iGt a b=decide (b<a):=by simp only[nZ]
theorem CM(a b:Int):iGe a b=decide (b<=a):=by simp only[oJ]
theorem mX(a b:dX):sEq a b=(a == b):=by simp only[oC]
theorem nA(a b:dX):sNe a b=!(a == b):=by simp only[oj]
section
variable {α:Type}
theorem Ao(l:List α):lLen l=(l.length:Int):=by simp only[nj]
theorem HN(l:List α):lN l=l.length:=by simp only[Yf]
theorem A8(l:List α)(j:Nat)(d:α):lGet l j d=l.getD j d:=by simp only[cw]
theorem me(l:List α)(j:Nat)(x:α):lSet l j x=l.set j x:=by simp only[cW]
theorem HC(l:List α)(a b:Nat):lSub l a b=(l.drop a).take (b-a):=by simp only[nJ]
theorem WN(l:List α)(n:Nat):lTake l n=l.take n:=by simp only[bP]
theorem BE(l m:List α):lApp l m=l++m:=by simp only[Nt]
theorem mD(n:Int)(x:α):lRep n x=List.replicate n.toNat x:=by simp only[nb]
theorem Ax(a:Int):iNat a=a.toNat:=by simp only[ct]
theorem mJ(a b:dX):sAdd a b=a++b:=by simp only[mY]
end
def AO(n:Int):Prop:=-9223372036854775808<=n/\n<=9223372036854775807
theorem KL{n:Int}(h:AO n):IntKind.i64.wrap n=n:=by
 obtain⟨h1,h2⟩:=h;show (if decide (n % 18446744073709551616>=9223372036854775808)=true then n % 18446744073709551616-18446744073709551616 else n % 18446744073709551616)=n;simp only[Ar];split<;>omega
theorem Bu{a b:Int}(h:AO (a+b)):iAdd .i64 a b=a+b:=by rw[nf];exact KL h
theorem Er{a b:Int}(h:AO (a-b)):iSub .i64 a b=a-b:=by rw[ny];exact KL h
theorem aY{a b:Int}(h:AO (a*b)):iMul .i64 a b=a*b:=by rw[nU];exact KL h
theorem W2{a b:Int}(ha:0<=a):iRem a b=a % b:=by rw[mW];exact Int.tmod_eq_emod_of_nonneg ha
section
variable {X:Type} {c:X->Bool} {f:X->X} {p:X->Prop}
theorem LR(I:X->Prop)(m:X->Nat)(h:∀ x,I x->p x/\(c x=true->I (f x)/\m (f x)<m x)){x0:X}(h0:I x0) :
 LoopOk c f p x0/\I (Am c f x0)/\c (Am c f x0)=false:=by
 have go:∀ (n:Nat) (x:X),m x<n->I x->∃ y,LoopTo c f p x y/\I y/\c y=false:=by
  intro n
  induction n with
  |zero=>intro x hm;exact absurd hm (Xg _)
  | succ n ih=>
    intro x hm hI;obtain⟨h1,h2⟩:=h x hI
    cases hc:c x with
    |false=>exact⟨x,.stop h1 hc,hI,hc⟩
    | true=>
      obtain⟨h3,h4⟩:=h2 hc;obtain⟨y,h5,h6,h7⟩:=ih (f x) (by omega) h3;exact⟨y,.go h1 hc h5,h6,h7⟩
 obtain⟨y,h1,h2,h3⟩:=go _ x0 (Xf _) h0
 rw[h1.val]
 exact⟨⟨y,h1⟩,h2,h3⟩
theorem MZ(I:X->Prop)(m:X->Nat)(h:∀ x,I x->c x=true->I (f x)/\m (f x)<m x){x0:X}(h0:I x0):I (Am c f x0)/\c (Am c f x0)=false:=
 (LR (p:=λ _=>True) I m (λ x hx=>⟨trivial,h x hx⟩) h0).2
theorem Iw(n:Nat)(st:Nat->X){x0:X}(h0:st 0=x0)(hs:∀ k,k<n->p (st k)/\c (st k)=true/\f (st k)=st (k+1))(he:p (st n)/\c (st n)=false):LoopOk c f p x0/\Am c f x0=st n:=by
 have go:∀ k,k<=n->LoopTo c f p (st (n-k)) (st n):=by
  intro k
  induction k with
  |zero=>intro _;exact .stop he.1 he.2
  | succ k ih=>
    intro hk;obtain⟨h1,h2,h3⟩:=hs (n-(k+1)) (by omega);refine .go h1 h2 ?_;rw[h3,show n-(k+1)+1=n-k by omega];exact ih (by omega)
 have:=go n (BI _);rw[Nat.sub_self,h0] at this;exact⟨⟨_,this⟩,this.val⟩
end
def CO(t:Nat->Bool):Nat->Nat->Nat
 |0,i=>i
 |k+1,i=>if t i then i else CO t k (i+1)
theorem Jr(t:Nat->Bool):∀ k i,i<=CO t k i/\CO t k i<=i+k
 |0,i=>⟨BI _,BI _⟩
 | k+1,i=>by
   unfold CO
   split
   . omega
   . have:=Jr t k (i+1);omega
theorem O9(t:Nat->Bool):∀ k i,CO t k i<i+k->t (CO t k i)=true
 |0,i,h=>by unfold CO at h;omega
 | k + 1,i,h=>by
   unfold CO at h ⊢
   split
   . rename_i ht;exact ht
   . rename_i ht
     rw[Ae ht] at h
     exact O9 t k (i+1) (by omega)
theorem RA(t:Nat->Bool):∀ k i j,i<=j->j<CO t k i->t j=false
 |0,i,j,h,h'=>by unfold CO at h';omega
 | k + 1,i,j,h,h'=>by
   unfold CO at h'
   split at h'
   . omega
   . rename_i ht
     by_cases hj:j=i
     . subst hj;simpa using ht
     . exact RA t k (i+1) j (by omega) h'
theorem Zao{c:Int->Bool}{f:Int->Int}{p:Int->Prop}(n:Nat)(t:Nat->Bool)(hn:(n:Int)<=9223372036854775806)(hc:∀ i:Nat,i<=n->c i=(decide (i<n)&&!t i))(hf:∀ i:Nat,i<n->f i=iAdd .i64 i 1)(hp:∀ i:Nat,i<=n->p i) :
 LoopOk c f p 0/\Am c f 0=(CO t n 0:Nat):=by
 have hle:=Jr t n 0
 refine Iw (CO t n 0) (λ k=>(k:Int)) rfl (λ k hk=>?_) ⟨hp _ (by omega),?_⟩
 . have hk':k<n:=by omega
   refine⟨hp k (by omega),?_,?_⟩
   . rw[hc k (by omega),RA t n 0 k (by omega) hk];simp[hk']
   . rw[hf k hk',Bu (by unfold AO;omega)];omega
 . rw[hc _ (by omega)]
   by_cases h:CO t n 0<n
   . rw[O9 t n 0 (by omega)];simp
   . simp[h]
theorem O4{t:Nat->Bool}{n:Nat}:CO t n 0=n↔∀ i,i<n->t i=false:=by
 constructor
 . intro h i hi;exact RA t n 0 i (by omega) (by omega)
 . intro h;have hle:=Jr t n 0;rcases BN (CO t n 0) n with h1|h1
   . have:=O9 t n 0 (by omega);rw[h _ h1] at this;cases this
   . omega
theorem Si{c:Int->Bool}{f:Int->Int}(n:Nat)(t:Nat->Bool)(hn:(n:Int)<=9223372036854775806)(hc:∀ i:Nat,i<=n->c i=(decide (i<n)&&!t i))(hf:∀ i:Nat,i<n->f i=iAdd .i64 i 1):Am c f 0=(CO t n 0:Nat):=(Zao (p:=λ _=>True) n t hn hc hf (λ _ _=>trivial)).2
theorem DK{α:Type}(x:List α)(i:Nat)(d:α)(h:i<x.length):x.getD i d∈x:=by
 rw[Ee,Bf h];exact Gw h
theorem IM{X:Type}{c:X->Bool}{f:X->X}{p:X->Prop}(ix:X->Int)(n:Int)(hn:n<=9223372036854775806)(hc:∀ x,0<=ix x->ix x<=n->c x=true->ix x<n)(hf:∀ x,ix (f x)=iAdd .i64 (ix x) 1)(hp:∀ x,0<=ix x->ix x<=n->p x){x0:X}(h0:0<=ix x0)(h1:ix x0<=n):LoopOk c f p x0:=by
 refine(LR (λ x=>0<=ix x/\ix x<=n) (λ x=>(n-ix x).toNat) (λ x hI=>⟨hp x hI.1 hI.2,λ hcc=>?_⟩) ⟨h0,h1⟩).1;have:=hc x hI.1 hI.2 hcc;obtain⟨k1,k2⟩:=hI;have e:=hf x;rw[Bu (by unfold AO;omega)] at e;refine⟨by omega,by omega⟩
theorem lM{c:Int->Bool}{f:Int->Int}{n:Nat}(h:¬ Am c f 0<(n:Int))(hn:(n:Int)<=9223372036854775806)(hc:∀ i:Nat,i<=n->c i=true->i<n)(hf:∀ i:Nat,i<n->f i=iAdd .i64 i 1):∀ i:Nat,i<n->c i=true:=by
 have hv:=Si (c:=c) (f:=f) n (λ i=>!c i) hn (λ i hi=>by
  by_cases h1:i<n
  . simp[h1]
  . cases h2:c i with
    |false=>simp[h1]
    |true=>exact absurd (hc i hi h2) h1) hf
 rw[hv] at h;have hle:=Jr (λ i=>!c i) n 0
 have e:CO (λ i=>!c i) n 0=n:=by omega
 intro i hi;have:=O4.1 e i hi;simpa using this
def Z2(_:Int×Int×Int×Int):Prop:=True
def ZbX(x:Fc):Prop:=Z2 (x.2.1,x.2.2.1,x.2.2.2.1,x.2.2.2.2)/\True
def Po(x:Bz):Prop:=x.length<=1048576/\∀ a∈x,ZbX a
def yl(x:Hc):Prop:=x.length<=1048576/\∀ a∈x,Z2 a
def ZE(x:DU):Prop:=x.length<=1048576/\∀ a∈x,yl a
def Gp(x:CZ):Prop:=ZE x.2/\True
theorem aE {X Y:Type} {c:X->Bool} {f:X->X} {p:X->Prop} {d:Y->Bool} {g:Y->Y} {q:Y->Prop} (R:X->Y->Prop) (m:X->Nat)
 (h:∀ x y,R x y->p x/\q y/\c x=d y/\(c x=true->R (f x) (g y)/\m (f x)<m x)) {x0:X} {y0:Y} (h0:R x0 y0) :
 LoopOk c f p x0/\LoopOk d g q y0/\R (Am c f x0) (Am d g y0)/\c (Am c f x0)=false:=by
 have go:∀ (n:Nat) (x:X) (y:Y),m x<n->R x y->∃ u v,LoopTo c f p x u/\LoopTo d g q y v/\R u v/\c u=false:=by
  intro n
  induction n with
  |zero=>intro x y hm;exact absurd hm (Xg _)
  | succ n ih=>
    intro x y hm hR;obtain⟨h1,h2,h3,h4⟩:=h x y hR
    cases hc:c x with
    |false=>exact⟨x,y,.stop h1 hc,.stop h2 (by rw[<- h3];exact hc),hR,hc⟩
    | true=>
      obtain⟨h5,h6⟩:=h4 hc;obtain⟨u,v,a1,a2,a3,a4⟩:=ih _ _ (by omega) h5;exact⟨u,v,.go h1 hc a1,.go h2 (by rw[<- h3];exact hc) a2,a3,a4⟩
 obtain⟨u,v,a1,a2,a3,a4⟩:=go _ x0 y0 (Xf _) h0
 exact⟨⟨_,a1⟩,⟨_,a2⟩,by rw[a1.val,a2.val];exact a3,by rw[a1.val];exact a4⟩
theorem Pv{X:Type}{c:X->Bool}{f:X->X}{p:X->Prop}(I:X->Prop)(m:X->Nat)(h:∀ x,I x->p x/\(c x=true->I (f x)/\m (f x)<m x)){x0:X}(h0:I x0) :
 LoopOk c f p x0/\I (Am c f x0)/\c (Am c f x0)=false:=LR I m h h0
theorem Zct{X:Type}{c:X->Bool}{f:X->X}{p:X->Prop}(n:Nat)(st:Nat->X)(t:Nat->Bool){x0:X}(h0:st 0=x0)(hc:∀ i,i<=n->(∀ j,j<i->t j=true)->c (st i)=(decide (i<n)&&t i))(hf:∀ i,i<n->(∀ j,j<=i->t j=true)->f (st i)=st (i+1))(hp:∀ i,i<=n->(∀ j,j<i->t j=true)->p (st i)) :
 LoopOk c f p x0/\∃ k,k<=n/\Am c f x0=st k/\(k=n↔∀ i,i<n->t i=true):=by
 have hle:=Jr (λ i=>!t i) n 0
 have hno:∀ j,j<CO (λ i=>!t i) n 0->t j=true:=λ j hj=>by
  have:=RA (λ i=>!t i) n 0 j (by omega) hj;simpa using this
 have:=Iw (c:=c) (f:=f) (p:=p) (CO (λ i=>!t i) n 0) st h0 (λ k hk=>by
  refine⟨hp k (by omega) (λ j hj=>hno j (by omega)),?_,hf k (by omega) (λ j hj=>hno j (by omega))⟩;rw[hc k (by omega) (λ j hj=>hno j (by omega)),hno k hk]
  have:k<n:=by omega
  simp[this]) ⟨hp _ (by omega) hno,by
  rw[hc _ (by omega) hno];by_cases h:CO (λ i=>!t i) n 0<n
  . have:=O9 (λ i=>!t i) n 0 (by omega);simp only[BC] at this;rw[this];simp
  . simp[h]⟩
 refine⟨this.1,_,by omega,this.2,?_⟩
 rw[O4]
 simp
theorem Jt{α:Type}(x:List α)(d:α){i:Nat}(h:i<x.length):x.take i++[x.getD i d]=x.take (i+1):=by
 rw[List.take_add_one,Ee,Bf h];rfl
theorem aZ {α:Type} {c:Int×List α->Bool} {f:Int×List α->Int×List α} {p:Int×List α->Prop} (x:List α) (d:α) (hl:x.length<=1048576)
 (hc:∀ (i:Nat) (l:List α),c ((i:Int),l)=decide (i<x.length)) (hf:∀ (i:Nat) (l:List α),i<x.length->f ((i:Int),l)=(iAdd .i64 (i:Int) 1,l++[x.getD i d])) (hp:∀ (i:Nat) (l:List α),i<=x.length->l.length=i->p ((i:Int),l)) :
 LoopOk c f p (0,[])/\Am c f (0,[])=((x.length:Int),x):=by
 have:=Iw (c:=c) (f:=f) (p:=p) x.length (λ i=>((i:Int),x.take i)) (x0:=(0,[])) rfl (λ k hk=>by
  refine⟨hp k _ (by omega) (by rw[Eu];omega),by rw[hc];simpa using hk,?_⟩;rw[hf k _ hk,Bu (by unfold AO;omega),Jt x d hk]
  simp) ⟨hp _ _ (by omega) (by rw[Eu];omega),by rw[hc];simp⟩
 rw[HE] at this
 exact this
theorem Zac {α:Type} {c:List α×Int->Bool} {f:List α×Int->List α×Int} {p:List α×Int->Prop} (x:List α) (d:α) (hl:x.length<=1048576)
 (hc:∀ (i:Nat) (l:List α),c (l,(i:Int))=decide (i<x.length)) (hf:∀ (i:Nat) (l:List α),i<x.length->f (l,(i:Int))=(l++[x.getD i d],iAdd .i64 (i:Int) 1)) (hp:∀ (i:Nat) (l:List α),i<=x.length->l.length=i->p (l,(i:Int))) :
 LoopOk c f p ([],0)/\Am c f ([],0)=(x,(x.length:Int)):=by
 have:=Iw (c:=c) (f:=f) (p:=p) x.length (λ i=>(x.take i,(i:Int))) (x0:=([],0)) rfl (λ k hk=>by
  refine⟨hp k _ (by omega) (by rw[Eu];omega),by rw[hc];simpa using hk,?_⟩;rw[hf k _ hk,Bu (by unfold AO;omega),Jt x d hk]
  simp) ⟨hp _ _ (by omega) (by rw[Eu];omega),by rw[hc];simp⟩
 rw[HE] at this
 exact this
theorem mL{a b:Nat}(ha:a<9223372036854775808)(hb:b<9223372036854775808):iAnd .i64 (a:Int) (b:Int)=((a &&& b:Nat):Int):=by
 have e:(BitVec.ofInt 64 (a:Int) &&& BitVec.ofInt 64 (b:Int)).toNat=a &&& b:=by
  rw[BitVec.ofInt_natCast,BitVec.ofInt_natCast,BitVec.toNat_and,BitVec.toNat_ofNat,BitVec.toNat_ofNat,Nat.mod_eq_of_lt (by omega),Nat.mod_eq_of_lt (by omega)]
 have h:a &&& b<=a:=Nat.and_le_left;rw[cE];show IntKind.i64.wrap ((BitVec.ofInt 64 (a:Int) &&& BitVec.ofInt 64 (b:Int)).toNat:Int)=_;rw[e];exact KL (by unfold AO;omega)
theorem XM{a b:Nat}(ha:a<4611686018427387904)(hb:b<4611686018427387904):iOr .i64 (a:Int) (b:Int)=((a ||| b:Nat):Int):=by
 have e:(BitVec.ofInt 64 (a:Int) ||| BitVec.ofInt 64 (b:Int)).toNat=a ||| b:=by
  rw[BitVec.ofInt_natCast,BitVec.ofInt_natCast,BitVec.toNat_or,BitVec.toNat_ofNat,BitVec.toNat_ofNat,Nat.mod_eq_of_lt (by omega),Nat.mod_eq_of_lt (by omega)]
 have h:a ||| b<2^62:=Nat.or_lt_two_pow (by omega) (by omega)
 rw[oc];show IntKind.i64.wrap ((BitVec.ofInt 64 (a:Int) ||| BitVec.ofInt 64 (b:Int)).toNat:Int)=_;rw[e];exact KL (by unfold AO;omega)
theorem Zb8(a k:Nat)(h:k<=64):iShr .i64 (a:Int) (k:Int)=((a / 2^k:Nat):Int):=by
 rw[nL];show Int.fdiv (a:Int) (2^min (k:Int).toNat 64)=_;rw[Bn,Nat.min_eq_left h,Int.fdiv_eq_ediv_of_nonneg _ (by exact_mod_cast GC _)];norm_cast
theorem Sc{a k:Nat}(hk:k<=64)(h:a*2^k<9223372036854775808):iShl .i64 (a:Int) (k:Int)=((a*2^k:Nat):Int):=by
 rw[m9];show IntKind.i64.wrap ((a:Int)*2^min (k:Int).toNat 64)=_;rw[Bn,Nat.min_eq_left hk]
 have:((a:Int)*2^k)=((a*2^k:Nat):Int):=by norm_cast
 rw[this];exact KL (by unfold AO;omega)
def Bytes(x:Bb):Prop:=∀ a∈x,0<=a/\a<256
theorem Bytes.get{x:List Int}(h:Bytes x)(i:Nat):∃ n:Nat,n<256/\x.getD i 0=(n:Int):=by
 by_cases hi:i<x.length
 . obtain⟨h0,h1⟩:=h _ (DK x i 0 hi);exact⟨(x.getD i 0).toNat,by omega,by omega⟩
 . exact⟨0,by omega,by rw[Ee,BV (by omega)];rfl⟩
theorem Bytes.of{x:List Int}(h:CT.wf (.sl (.one (.int .u8))) x):Bytes x:=by
 intro a ha;have:=h.2 a ha;simp only[RT.wf,CT.wf] at this
 have h:IntKind.u8.min<=a/\a<=IntKind.u8.max:=by simpa [Lit.wf] using this
 have e1:IntKind.u8.min=0:=by decide
 have e2:IntKind.u8.max=255:=by decide
 rw[e1,e2] at h;omega
theorem zj(k:Int)(x:DU)(hs:Gp (k,x)):UT (k,x)/\Ri (k,x)=(k,x):=by
 rw[tN,vl]
 obtain⟨a1,a2⟩:=aZ (c:=T7 (k,x)) (f:=Uj (k,x)) (p:=Y0 (k,x)) x [] hs.1.1 (λ i l=>by simp[T7,Ap,Ao])
  (λ i l _=>by simp[Uj,BE,A8,Ax]) (λ i l hi hl=>by
   simp only[Y0,Ap,Ao,Ar];refine⟨λ h=>?_,λ _=>trivial⟩
   have e:lGet x (iNat (i:Int)) []=x.getD i []:=by rw[A8,Ax,Bn]
   have h1:(x.getD i []).length<=1048576:=(hs.1.2 _ (DK x i [] (by omega))).1;have h2:x.length<=1048576:=hs.1.1;rw[e]
   refine⟨⟨by omega,h⟩,by rw[Ax];omega,by unfold Av;simp only[AJ];omega,by unfold Av;simp only[AH,AJ];omega⟩)
 exact⟨a1,by rw[a2]⟩
theorem gS(k:Int)(x:DU)(hs:Gp (k,x)):Qx (k,x)/\H6 (k,x)=(k,x):=by
 rw[pH,pK]
 obtain⟨a1,a2⟩:=aZ (c:=TG (k,x)) (f:=TE (k,x)) (p:=Yq (k,x)) x [] hs.1.1 (λ i l=>by simp[TG,Ap,Ao])
  (λ i l _=>by simp[TE,BE,A8,Ax]) (λ i l hi hl=>by
   simp only[Yq,Ap,Ao,Ar];refine⟨λ h=>?_,λ _=>trivial⟩
   have e:lGet x (iNat (i:Int)) []=x.getD i []:=by rw[A8,Ax,Bn]
   have h1:(x.getD i []).length<=1048576:=(hs.1.2 _ (DK x i [] (by omega))).1;have h2:x.length<=1048576:=hs.1.1;rw[e]
   refine⟨⟨by omega,h⟩,by rw[Ax];omega,by unfold Av;omega,by unfold Av;simp only[AH,AJ];omega⟩)
 exact⟨a1,by rw[a2]⟩
theorem LH(x:CH):Eb x=Bt x:=by
 simp only[r6,QI,Zy,U1,UO,Y9,AG,AD,Ba,Nh,BF,Bv,CX,Ap,Ev,CQ,CM,mX,nA,Ao,HN,A8,me,HC,WN,BE,mD,Ax,mJ];rw[JN]
 repeat' split
 all_goals simp only[Ah,Cp,BC,CJ,Gb,Ca,Ar,Bo,Gz,IW,A0,Jv] at *
 all_goals omega
theorem TM(x:CH):MG x:=by
 have h:∀ y,Ec y:=λ y=>by rw[O1];trivial
 rw[rU];simp[h]
theorem Qu(x:CH):MI x:=by
 have h1:∀ y,OC y:=λ y=>by rw[ud];trivial
 have h2:∀ y,MP y:=λ y=>by rw[vg];trivial
 have h3:∀ y,QU y:=λ y=>by rw[sE];trivial
 rw[sr];simp[h1,h2,h3]
theorem Gu(a b c:Int):BH (a,b,c)=(decide (b<=a)&&decide (a<=c)):=by rw[Zy];simp only[AD,CM,Ev]
theorem PE (x):Ec x:=by rw[O1];trivial
theorem ZZ (x):Oh x:=by rw[qg];exact TM _
theorem Pf(x:Bz):EF x=Ct x:=by
 rw[tF,U5]
 have:∀ {c c':Int×Int->Bool} {f:Int×Int->Int×Int} {a:Int×Int} {n:Int},(∀ x,c x=c' x)->bNot (iLt (Am c f a).2 n)=bNot (iLt (Am c' f a).2 n):=by
  intro c c' f a n h;rw[funext h]
 apply this;intro st;rw[JN];simp only[YD,LH,Gu,VS,AG,AD,Ba,Bv,Ap,CQ,Ah,Cp,BC,CJ,Gb,Ca,Ar,Bo,Gz,IW,A0,Jv];generalize Bt _=A;cases A<;>simp<;>omega
theorem Ug(x:Bz)(h:x.length<=1048576):MN x:=by
 rw[tO];refine IM (λ st=>st.2) x.length (by omega) (λ st _ _ hc=>?_) (λ st=>rfl) (λ st h0 h1=>?_) (by simp) (by simp)
 . simp only[AD,Ap,Ao,Ah,Ar] at hc;exact hc.1
 . refine⟨λ hlt=>?_,λ _=>trivial⟩;simp only[Ap,Ao,Ar] at hlt
   have h3:st.2.toNat<x.length:=by omega
   simp only[Gu,Ax,h3,h0,hlt,PE,ZZ,TM,HA,implies_true,Jz,AG,Ba,Ah,Cp,BC,CJ,Gb,Ca,Ar,Bo,Gz,IW,A0,Jv,CJ,Ca];exact⟨λ hh=>hh.1,λ hh=>hh.1.1⟩
theorem TZ(x:Bz)(h:x.length<=1048576):MM x:=by
 rw[vo];refine IM (λ st=>st.2) x.length (by omega) (λ st _ _ hc=>?_) (λ st=>rfl) (λ st h0 h1=>?_) (by simp) (by simp)
 . simp only[AD,Ap,Ao,Ah,Ar] at hc;exact hc.1
 . refine⟨λ hlt=>?_,λ _=>trivial⟩;simp only[Ap,Ao,Ar] at hlt
   have h3:st.2.toNat<x.length:=by omega
   simp only[iI,Ax,h3,h0,hlt,Qu,HA,implies_true,Jz,Ap,CQ,AG,Ba,Ah,Cp,BC,CJ,Gb,Ca,Ar,Bo,Gz,IW,A0,Jv,CJ,Ca];refine⟨λ h4 h5=>by omega,λ h4 h5=>by omega⟩
def Xp(h:Fc):Prop:=0<=h.1/\h.1<=31/\Bt h.2=true/\h.2.1≠1/\h.2.1≠6/\h.2.1≠7
theorem Rz{x:List Fc}(hl:x.length<=1048576)(h:Ct x=true):∀ a∈x,Xp a:=by
 rw[U5,AG,BC,Ap _ (lLen x),Bo] at h
 have key:=MZ (c:=λ x0:Int×Int=>(bAnd (iLt x0.2 (lLen x)) (bAnd (bNot (bOr (iLt (lGet x (iNat x0.2) (0,0,0,0,0)).1 0) (bOr (iGt (lGet x (iNat x0.2) (0,0,0,0,0)).1 31) (bOr (iEq (Eo (x0.1,(lGet x (iNat x0.2) (0,0,0,0,0)).1)) 1) (bNot (Bt ((lGet x (iNat x0.2) (0,0,0,0,0)).2.1,(lGet x (iNat x0.2) (0,0,0,0,0)).2.2.1,(lGet x (iNat x0.2) (0,0,0,0,0)).2.2.2.1,(lGet x (iNat x0.2) (0,0,0,0,0)).2.2.2.2))))))) (bNot (bOr (iEq (lGet x (iNat x0.2) (0,0,0,0,0)).2.1 1) (bOr (iEq (lGet x (iNat x0.2) (0,0,0,0,0)).2.1 6) (iEq (lGet x (iNat x0.2) (0,0,0,0,0)).2.1 7)))))))
  (f:=λ x0=>((iOr .i64 x0.1 (iShl .i64 1 (lGet x (iNat x0.2) (0,0,0,0,0)).1)),(iAdd .i64 x0.2 1)))
  (λ st=>∃ i:Nat,st.2=i/\i<=x.length/\∀ j,j<i->Xp (x.getD j (0,0,0,0,0))) (λ st=>x.length-st.2.toNat) (λ st hI hc=>?_) (x0:=(0,0)) ⟨0,rfl,GC _,λ j hj=>by omega⟩
 . obtain⟨⟨i,k1,k2,k3⟩,_⟩:=key;rw[k1,Ao] at h
   have:i=x.length:=by omega
   subst this;intro a ha;obtain⟨j,hj,rfl⟩:=IF ha;have:=k3 j hj;rw[Ee,Bf hj] at this;exact this
 . obtain⟨i,k1,k2,k3⟩:=hI;obtain⟨s,j⟩:=st;simp only at k1;subst k1;simp only[AD,AG,Ba,Ap,CQ,Bv,Ao,A8,Ax,Bn,Ah,BC,Ca,Ar,Bo,CJ] at hc;obtain⟨c1,⟨c2,c3,_,c5⟩,c6,c7,c8⟩:=hc;refine⟨⟨i+1,?_,by omega,λ j hj=>?_⟩,?_⟩
   . simp only;rw[Bu (by unfold AO;omega)];omega
   . by_cases hji:j=i
     . subst hji;exact⟨by omega,by omega,c5,c6,c7,c8⟩
     . exact k3 j (by omega)
   . simp only;rw[Bu (by unfold AO;omega)];omega
theorem iO{a:Int×Int×Int×Int}(h:Bt a=true)(hk:a.1=3):a.2.1=0/\a.2.2.1=0/\1<=a.2.2.2/\a.2.2.2<=3:=by
 rw[QI] at h;simp only[Y9,U1,UO,hk,AG,AD,Ba,Nh,BF,Bv,CX,Ap,Ev,CQ,CM,mX,nA,Ao,HN,A8,me,HC,WN,BE,mD,Ax,mJ] at h;simp at h;omega
theorem iK(f:Int)(x:Bz):QS (f,x)=E0 (f,x):=by
 rw[rG,rR]
 have e:BH (f,0,15)=bAnd (iGe f 0) (iLe f 15):=by rw[Gu,AD,CM,Ev]
 simp only[Pf,e]
 cases h:Ct x with
 | true=>
   rw[show bNot true=false from by rw[AG];rfl,CP]
   have:∀ a:Bool,bAnd a true=a:=λ a=>by rw[AD,Mh]
   simp only[this]
 | false=>
   rw[show bNot false=true from by rw[AG];rfl,Dc];rw[yj (by rw[AD,Bool.and_false])]
theorem pI(f:Int)(x:Bz)(h:x.length<=1048576):Uk (f,x):=by
 rw[qR];refine⟨PE _,?_⟩;refine IM (λ st=>st.2) x.length (by omega) (λ st _ _ hc=>?_) (λ st=>rfl) (λ st h0 h1=>?_) (by simp) (by simp)
 . simp only[AD,Ap,Ao,Ah,Ar] at hc;exact hc.1
 . refine⟨⟨λ _=>Ug x h,λ _=>trivial⟩,λ hlt=>?_,λ _=>trivial⟩;simp only[AD,Ap,Ao,Ah,Ar,Pf] at hlt;obtain⟨hlt,hh⟩:=hlt
   have h3:st.2.toNat<x.length:=by omega
   simp only[Ax,A8,h3,h0,hlt,HA,implies_true,Jz,Bv,Ar];intro hk;have:=Rz h hh _ (DK x st.2.toNat (0,0,0,0,0) h3);have:=iO this.2.2.1 hk;omega
theorem qb(f:Int)(x:Bz)(h:x.length<=1048576):Uq (f,x):=by
 rw[rT];refine⟨TZ x h,λ _=>trivial,λ hh=>?_⟩
 have hh:Ct x=true:=by simpa [AG] using hh
 refine IM (λ st=>st.2) x.length (by omega) (λ st _ _ hc=>?_) (λ st=>rfl) (λ st h0 h1=>?_) (by simp) (by simp)
 . simp only[Ap,Ao,Ar] at hc;exact hc
 . refine⟨λ hlt=>?_,λ _=>trivial⟩;simp only[Ap,Ao,Ar] at hlt
   have h3:st.2.toNat<x.length:=by omega
   simp only[Ax,A8,h3,h0,hlt,HA,implies_true,Jz,Bv,Ar];intro hk;have:=Rz h hh _ (DK x st.2.toNat (0,0,0,0,0) h3);have:=iO this.2.2.1 hk;omega
theorem ZK(x:CZ):GO x=Ea x:=by
 rw[rC,YV,Gu,Gu]
 have inner:∀ (i a n:Int) (A B:Bool),bNot (bOr A (bSel (iEq a 1) (bOr (iEq i 0) B) B))=bNot (bOr A (bSel (iEq i 0) (bOr (iEq a 1) B) B)):=by
  intro i a n A B;simp only[AG,Ba,BF,Bv];by_cases h1:a=1<;>by_cases h2:i=0<;>simp[h1,h2]
 simp only[LH,λ i a A B=>inner i a 0 A B];generalize bNot (iLt (Am _ _ _) (lLen x.2))=L;rw[JN];simp only[AD,AG,Ba,Ap,CQ,Ao,Ah,Cp,BC,CJ,Gb,Ca,Ar,Bo,Gz,IW,A0,Jv];cases L<;>simp<;>omega
theorem gY(x:CZ)(h:Gp x):QH x/\QL x:=by
 obtain⟨k,x⟩:=x;have h:ZE x:=h.1;rw[r9,rr]
 have inl:∀ i:Int,0<=i->i<x.length->(lGet x (iNat i) []).length<=1048576:=λ i h0 hi=>by
  rw[A8,Ax];exact(h.2 _ (DK x i.toNat [] (by omega))).1
 refine⟨⟨?_,λ _=>trivial,λ _=>⟨PE _,λ _=>PE _,λ _=>trivial⟩⟩,λ _=>trivial,λ _=>?_⟩
 all_goals
  refine IM (λ st=>st) x.length (by have:=h.1;omega) (λ st _ _ hc=>?_) (λ st=>rfl) (λ st h0 h1=>?_) (by simp) (by simp)
  . rw[AD,Ap st,Ao,Ah,Ar] at hc
    exact hc.1
  . refine⟨λ hlt=>?_,λ _=>trivial⟩
    rw[Ap,Ao,Ar] at hlt;have hlt:st<(x.length:Int):=hlt
    have h3:iNat st<x.length:=by rw[Ax];omega
    have hl:=inl st h0 hlt;refine⟨⟨h0,hlt⟩,h3,λ _=>trivial,λ _=>?_⟩;refine IM (λ st=>st) (lGet x (iNat st) []).length (by omega) (λ j _ _ hc=>?_) (λ st=>rfl) (λ j j0 j1=>?_) (by simp) (by simp)
    . rw[AD,Ap j,Ao,Ah,Ar] at hc;exact hc.1
    . have fin:iLt j (lLen (lGet x (iNat st) []))=true->j<((lGet x (iNat st) []).length:Int)/\iNat j<(lGet x (iNat st) []).length:=λ hj=>by
       rw[Ap,Ao,Ar] at hj;exact⟨hj,by rw[Ax];omega⟩
      first
       |exact⟨⟨h0,hlt⟩,h3,λ hj=>⟨⟨h0,hlt⟩,h3,⟨j0,(fin hj).1⟩,(fin hj).2,TM _⟩,λ _=>trivial⟩
       |exact⟨λ hj=>⟨⟨j0,(fin hj).1⟩,(fin hj).2,Qu _⟩,λ _=>trivial⟩
structure MapOk (k:Int) (x:DU):Prop where
 k1:1<=k
 k2:k<=32
 l1:1<=x.length
 l2:x.length<=4
 row:∀ i:Nat,i<x.length->((x.getD i []).length:Int)=k
 act:∀ i j:Nat,i<x.length->j<(x.getD i []).length->Bt ((x.getD i []).getD j (0,0,0,0))=true/\(i=0->((x.getD i []).getD j (0,0,0,0)).1≠1)/\(((x.getD i []).getD j (0,0,0,0)).1≠9->((x.getD i []).getD j (0,0,0,0)).2.2.2<x.length)
theorem GW{k:Int}{x:List Hc}(hs:Gp (k,x))(h:Ea (k,x)=true):MapOk k x:=by
 rw[YV,AD,Ah] at h;obtain⟨h1,h2⟩:=h;simp only[AG,Ba,Ap,CQ,Ao,Ah,Cp,BC,CJ,Gb,Ca,Ar,Bo,Gz,IW,A0,Jv] at h1;rw[AG,BC,Ap _ (lLen _),Ao,Bo] at h2;have hs:ZE x:=hs.1
 have all:=lM h2 (by show (x.length:Int)<=_;omega) (λ i hi hc=>by
  rw[AD,Ap (i:Int),Ao,Ah,Ar] at hc
  have:=hc.1;show i<x.length;simp only at this;omega) (λ i hi=>rfl)
 have row:∀ i:Nat,i<x.length->((x.getD i []).length:Int)=k/\∀ j:Nat,j<(x.getD i []).length->Bt ((x.getD i []).getD j (0,0,0,0))=true/\(i=0->((x.getD i []).getD j (0,0,0,0)).1≠1)/\(((x.getD i []).getD j (0,0,0,0)).1≠9->((x.getD i []).getD j (0,0,0,0)).2.2.2<x.length):=by
  intro i hi;have hc:=all i hi;rw[AD,AD,Ah,Ah] at hc;obtain⟨_,c1,c2⟩:=hc;simp only[AG,CX,Ao,A8,Ax,Bn,Sn,Ar] at c1;rw[AG,BC,Ap _ (lLen _),Ao,Bo] at c2;have hli:=(hs.2 _ (DK x i [] hi)).1
  have hin:(lGet x (iNat (i:Int)) [])=x.getD i []:=by rw[A8,Ax,Bn]
  have all2:=lM c2 (by show ((lGet x (iNat (i:Int)) []).length:Int)<=_;rw[hin];omega) (λ j hj hc=>by
   simp only[AD,Ap,Ao,Ah,Ar] at hc
   have:=hc.1;show j<(lGet x (iNat (i:Int)) []).length;omega) (λ j hj=>rfl)
  refine⟨c1,λ j hj=>?_⟩;have hc:=all2 j (by show j<(lGet x (iNat (i:Int)) []).length;rw[hin];exact hj);simp only[hin] at hc;simp only[AD,AG,Ba,BF,Bv,CX,CM,Ao,A8,Ax,Bn,Ah,BC,Ca,CJ] at hc;obtain⟨_,d1,d2⟩:=hc;refine⟨d1,λ hz=>?_,λ h9=>?_⟩
  . subst hz;simp only[Int.ofNat_zero,Int.natCast_zero,decide_true,AN,Ca,Bo] at d2;exact d2.1
  . split at d2
    . simp only[Ca,Gb,Bo,CJ,Ar] at d2;rcases d2.2 with d2|d2
      . exact absurd d2 h9
      . omega
    . simp only[Gb,Bo,CJ,Ar] at d2;rcases d2 with d2|d2
      . exact absurd d2 h9
      . omega
 exact⟨by omega,by omega,by omega,by omega,λ i hi=>(row i hi).1,λ i j hi hj=>(row i hi).2 j hj⟩
theorem jz(k:Int)(x:DU)(on key:Int)(hs:Gp (k,x)):FW ((k,x),on,key)=BR ((k,x),on,key):=by
 rw[tD,BR.eq_1,Zb];simp only[ZK,VS,Gu]
 cases h:Ea (k,x) with
 |false=>simp only[AG,Ba];simp[BF]
 | true=>
   have m:=GW hs h;rw[Er (by unfold AO;have:=m.k1;have:=m.k2;omega)]
   have:bOr (bNot true) (bNot (decide (0<=key)&&decide (key<=k-1)))=bOr (bNot true) (bOr (iLt key 0) (iGe key k)):=by
    rw[JN];simp only[AG,Ba,Ap,CM,Ah,Cp,BC,CJ,Gb,Ca,Ar,Bo,Gz,IW,A0,Jv];simp;omega
   rw[this]
theorem jE(k:Int)(x:DU)(on key:Int)(hs:Gp (k,x)):UB ((k,x),on,key)/\Ux ((k,x),on,key):=by
 obtain⟨o1,o2⟩:=gY (k,x) hs
 have loop:∀ {c:Int->Bool} {f:Int->Int} {p:Int->Prop},Ea (k,x)=true->(∀ st,c st=true->0<st)->(∀ st,f st=iSub .i64 st 1)->(∀ st:Int,0<=st->st<x.length->p st)->LoopOk c f p (iSub .i64 (lLen x) 1):=by
  intro c f p h hc hf hp;have m:=GW hs h
  have:=m.l1;have:=m.l2
  rw[Ao,Er (by unfold AO;omega)];refine(LR (λ st:Int=>0<=st/\st<x.length) (λ st=>st.toNat) (λ st hI=>⟨hp st hI.1 hI.2,λ hcc=>?_⟩) (by omega)).1;have:=hc st hcc;rw[hf,Er (by unfold AO;omega)];omega
 have cell:Ea (k,x)=true->0<=key->key<k->∀ st:Int,0<=st->st<x.length->iNat st<x.length/\key<((lGet x (iNat st) []).length:Int)/\iNat key<(lGet x (iNat st) []).length:=by
  intro h h0 h1 st s0 s1;have m:=GW hs h;have:=m.row st.toNat (by omega);rw[A8,Ax,Ax];omega
 rw[tf,Ux.eq_1];simp only[ZK];refine⟨⟨⟨o1,λ _=>trivial,λ _=>PE _⟩,λ _=>trivial,λ hb=>?_⟩,o2,λ _=>trivial,λ hb=>?_⟩
 . simp only[Gu,AG,Ba,Ca,CJ,Ah,Ar] at hb;obtain⟨h,h0,h1⟩:=hb;have m:=GW hs h;rw[Er (by unfold AO;have:=m.k1;have:=m.k2;omega)] at h1;refine loop h (λ st hc=>?_) (λ st=>rfl) (λ st s0 s1=>?_)
   . rw[AD,CQ,Ah,Ar] at hc;exact hc.1
   . obtain⟨e1,e2,e3⟩:=cell h h0 (by omega) st s0 s1;exact⟨λ _=>⟨s0,λ _=>⟨⟨s0,s1⟩,e1,⟨h0,e2⟩,e3⟩,λ _=>trivial⟩,λ _=>trivial⟩
 . simp only[Ap,CM,AG,Ba,Ca,CJ,Bo] at hb;obtain⟨h,h0,h1⟩:=hb;have hk0:0<=key:=Int.not_lt.mp h0;rw[sO];refine loop h (λ st hc=>?_) (λ st=>rfl) (λ st s0 s1=>?_)
   . rw[AD,CQ,Ah,Ar] at hc;exact hc.1
   . obtain⟨e1,e2,e3⟩:=cell h (by omega) (by omega) st s0 s1;exact⟨λ _=>⟨by rw[iI];exact s0,λ _=>⟨⟨s0,s1⟩,e1,⟨hk0,e2⟩,e3⟩,λ _=>trivial⟩,λ _=>trivial⟩
def Zch(_:Int×Int×Int):Prop:=True
def Zbu(x:CY):Prop:=x.length<=1048576/\∀ a∈x,Zch a
def M8(x:De):Prop:=x.length<=1048576/\∀ a∈x,Zbu a
def F0(x:Ci):Prop:=Gp (x.1,x.2.1)/\M8 x.2.2.1/\Po x.2.2.2.2.1/\True
def Bi(h:Fc):Int×Int:=(h.2.2.1,h.2.2.2.1)
theorem jQ(dn:Bz)(i:Nat):(dn.map Bi).getD i (0,0)=Bi (dn.getD i (0,0,0,0,0)):=by
 rw[Ee,Ee,HD];cases dn[i]?<;>rfl
theorem ZcW{c:Int->Bool}{f:Int->Int}(n:Int)(h0:0<=n)(hn:n<=9223372036854775806)(hc:∀ st:Int,c st=true->st<n)(hf:∀ st,f st=iAdd .i64 st 1):0<=Am c f 0:=
 (MZ (λ st=>0<=st/\st<=n) (λ st=>(n-st).toNat) (λ st hI h=>by
  have:=hc st h
  rw[hf,Bu (by constructor<;>omega)]
  exact⟨by omega,by omega⟩) ⟨by omega,h0⟩).1.1
theorem Ng(dn:Bz)(k c m:Int):B7 (dn,k,c,m)=Bh (dn.map Bi,c,m):=by
 rw[tJ,Zl];simp only[A8,jQ,Ao,Bc,Bi]
theorem WR(dm:NW)(q:A6)(h:dm.length<=1048576):Bh (dm,q)=-1\/(0<=Bh (dm,q)/\Bh (dm,q)<dm.length):=by
 rw[Zl,BF,Ap,Ao];split
 . rename_i hlt;rw[Ar] at hlt;refine .inr ⟨ZcW dm.length (by omega) (by omega) (λ st hc=>?_) (λ _=>rfl),hlt⟩;rw[AD,Ap,Ah,Ar] at hc;exact hc.1
 . exact .inl rfl
theorem bM(dn:Bz)(q:CS)(h:dn.length<=1048576):ML (dn,q):=by
 rw[uP];refine IM (λ st=>st) dn.length (by omega) (λ st _ _ h=>?_) (λ _=>rfl) (λ st h0 h1=>⟨λ hlt=>?_,λ _=>trivial⟩) (by simp) (by simp)
 . rw[AD,Ap,Ao,Ah,Ar] at h;exact h.1
 . rw[Ap,Ao,Ar] at hlt;have a:(0:Int)<=st/\st<(dn.length:Int):=⟨h0,hlt⟩
   have b:iNat st<dn.length:=by rw[Ax];omega
   exact⟨a,b,λ _=>⟨a,b⟩,λ _=>trivial⟩
theorem mG(dm:NW)(q:A6)(h:dm.length<=1048576):OJ (dm,q):=by
 rw[uJ];refine IM (λ st=>st) dm.length (by omega) (λ st _ _ h=>?_) (λ _=>rfl) (λ st h0 h1=>⟨λ hlt=>?_,λ _=>trivial⟩) (by simp) (by simp)
 . rw[AD,Ap,Ao,Ah,Ar] at h;exact h.1
 . rw[Ap,Ao,Ar] at hlt;exact⟨⟨h0,hlt⟩,by rw[Ax];omega⟩
theorem iP(dn:Bz)(p:Int)(h0:0<=p)(h1:p<dn.length) :
 (Dj (dn,p)).map Bi=lApp (lTake (dn.map Bi) (lN (lSub (dn.map Bi) 0 (iNat p)))) (lSub (dn.map Bi) (iNat (iAdd .i64 p 1)) (lN (dn.map Bi))):=by
 have hm:min p.toNat dn.length=p.toNat:=by omega
 rw[Qy]
 simp only[BE,WN,HN,HC,Ax,Ha,L5,Eu,Gx,Xq,List.map_drop,Bc,CW,hm]
theorem iM(dn:Bz)(p:Int)(h0:0<=p)(h1:p<dn.length)(h:dn.length<=1048576):(Dj (dn,p)).length<=dn.length:=by
 rw[Qy];simp only[BE,HN,HC,Ax,Ha,L5,Eu,Nz,Cq,CW];rw[Bu (by constructor<;>omega)];omega
theorem bj(K p:Int)(A:Bool):bNot (bOr (bNot (BH (K,0,2))) (bOr (bNot A) (bNot (bIff (iEq K 2) (iGe p 0)))))=
 bAnd (bNot (bNot A)) (bSel (bOr (iEq K 0) (iEq K 1)) (bNot (iGe p 0)) (bAnd (iEq K 2) (bNot (iLt p 0)))):=by
 have hp:decide (p<0)=!decide (0<=p):=by simp only[<- decide_not,Int.not_le]
 rw[Zy]
 simp only[AD,AG,Ba,Nh,BF,Bv,CM,Ev,Ap,hp]
 generalize decide (0<=p)=P
 have h:K=0\/K=1\/K=2\/(¬ (0<=K/\K<=2)):=by omega
 rcases h with h|h|h|h
 . subst h;cases A<;>cases P<;>decide
 . subst h;cases A<;>cases P<;>decide
 . subst h;cases A<;>cases P<;>decide
 . have e0:K≠0:=by omega
   have e1:K≠1:=by omega
   have e2:K≠2:=by omega
   have e3:(decide (0<=K)&&decide (K<=2))=false:=by rw[<- Bool.decide_and];exact DP h
   simp only[e3,e0,e1,e2,decide_false];cases A<;>rfl
theorem Zaq {l:List CS} {cs:List Fc×Int->Bool} {fs} {ci:List A6×Int->Bool} {fi}
 (h:∀ (dn:Bz) (i:Int),0<=i->i<=l.length->dn.length<=i->cs (dn,i)=ci (dn.map Bi,i)/\(cs (dn,i)=true->i<l.length/\∃ dn':List Fc,fs (dn,i)=(dn',i+1)/\fi (dn.map Bi,i)=(dn'.map Bi,i+1)/\dn'.length<=i+1)) :
 bAnd (bNot (iLt (Am cs fs ([],0)).2 (lLen l))) (bAnd (iLe (lLen l) 8) (iEq (lLen (Am cs fs ([],0)).1) 0))=
 bAnd (bNot (iGt (lLen l) 8)) (bAnd (bNot (iLt (Am ci fi ([],0)).2 (lLen l))) (iEq (lLen (Am ci fi ([],0)).1) 0)):=by
 have go:∀ (n:Nat) (dn:Bz) (i:Int),0<=i->i<=l.length->dn.length<=i->(l.length-i).toNat<n ->
  ∃ (en:Bz) (j:Int),LoopTo cs fs (λ _=>True) (dn,i) (en,j)/\LoopTo ci fi (λ _=>True) (dn.map Bi,i) (en.map Bi,j):=by
  intro n
  induction n with
  |zero=>intro _ _ _ _ _ hm;exact absurd hm (Xg _)
  | succ n ih=>
    intro dn i h0 h1 h2 hm;obtain⟨a,b⟩:=h dn i h0 h1 h2
    cases hc:cs (dn,i) with
    |false=>exact⟨dn,i,.stop trivial hc,.stop trivial (by rw[<- a,hc])⟩
    | true=>
      obtain⟨c1,dn',c2,c3,c4⟩:=b hc;obtain⟨en,j,d1,d2⟩:=ih dn' (i+1) (by omega) (by omega) c4 (by omega);exact⟨en,j,.go trivial hc (by rw[c2];exact d1),.go trivial (by rw[<- a,hc]) (by rw[c3];exact d2)⟩
 obtain⟨en,j,d1,d2⟩:=go _ [] 0 (by omega) (by omega) (by simp) (Xf _)
 have d2:LoopTo ci fi (λ _=>True) ([],0) (en.map Bi,j):=d2
 rw[d1.val,d2.val]
 simp only[AD,AG,Ev,CQ,Ao,Bc,<- decide_not,Int.not_lt]
 exact Bool.and_left_comm ..
theorem Z6 (dn:Bz) (K c m p i:Int) (t:Bool) (n:Int) (hp:p=-1\/(0<=p/\p<dn.length)) (hd:dn.length<=i) (hi:i<n) (hn:n<=1048576)
 (hc:bSel (bOr (iEq K 0) (iEq K 1)) (bNot (iGe p 0)) (bAnd (iEq K 2) (bNot (iLt p 0)))=true) :
 bSel (bOr (iEq K 0) (iEq K 1)) (bSel (iEq K 1) (lApp (dn.map Bi) [(c,m)]) (dn.map Bi)) (lApp (lTake (dn.map Bi) (lN (lSub (dn.map Bi) 0 (iNat p)))) (lSub (dn.map Bi) (iNat (iAdd .i64 p 1)) (lN (dn.map Bi))))=
  (bSel (iEq K 1) (lApp dn [(0,2,c,m,0)]) (bSel (iEq K 2) (Dj (dn,p)) dn)).map Bi /\
 ((bSel (iEq K 1) (lApp dn [(0,2,c,m,0)]) (bSel (iEq K 2) (Dj (dn,p)) dn)).length:Int)<=i+1:=by
 simp only[BF,Ba,AD,AG,Bv,CM,Ap,Cp,Ar] at hc ⊢
 by_cases k1:K=1
 . subst k1
   simp[BE,Bi];omega
 . by_cases k0:K=0
   . subst k0;simp;omega
   . simp only[k0,k1,or_self,AQ,Ah,Ar,BC,Bo] at hc ⊢
     have h0:0<=p:=by omega
     have h1:p<dn.length:=by omega
     rw[Ac hc.1];refine⟨(iP dn p h0 h1).symm,?_⟩;have:=iM dn p h0 h1 (by omega);omega
theorem ZO(x:CY)(h:x.length<=1048576):Gi x=Io x:=by
 rw[Y3,tw];refine Zaq (λ dn i h0 h1 h2=>?_);have hr:=WR (dn.map Bi) ((lGet x (iNat i) (0,0,0)).2.1,(lGet x (iNat i) (0,0,0)).2.2) (by rw[Bc];omega);rw[Bc] at hr;simp only[Ng,LH,MF,bj];generalize Bh (dn.map Bi,(lGet x (iNat i) (0,0,0)).2.1,(lGet x (iNat i) (0,0,0)).2.2)=p at hr ⊢;refine⟨trivial,λ hc=>?_⟩;rw[AD,AD,Ap,Ao,Ah,Ah,Ar] at hc;obtain⟨hc1,hc2,hc3⟩:=hc;obtain⟨s1,s2⟩:=Z6 dn (lGet x (iNat i) (0,0,0)).1 (lGet x (iNat i) (0,0,0)).2.1 (lGet x (iNat i) (0,0,0)).2.2 p i true x.length hr h2 hc1 (by omega) hc3;rw[Bu (a:=i) (b:=1) (by constructor<;>omega)];exact⟨hc1,_,rfl,by rw[s1],s2⟩
theorem M5{k w:Nat}(h:k<=1048577)(hw:w<=1000):Av (k*w):=by
 unfold Av;exact JC (Nat.mul_le_mul h hw) (by decide)
theorem V5(dn:Bz)(p:Int)(h0:0<=p)(h1:p<dn.length)(h:dn.length<=1048576):ME (dn,p):=by
 rw[qB,Bu (a:=p) (b:=1) (by constructor<;>omega)];simp only[Ax,HN,BE,HC,Ha,L5,Eu,Nz,Cq,AJ,CW];refine⟨⟨h0,by omega,by omega,by omega⟩,⟨by omega,by omega,by omega,by omega⟩,M5 (by omega) (by omega),M5 (by omega) (by omega)⟩
theorem fY(x:CY)(h:x.length<=1048576):Ow x:=by
 rw[tq];refine(LR (λ st:List Fc×Int=>0<=st.2/\st.2<=(x.length:Int)/\(st.1.length:Int)<=st.2) (λ st=>((x.length:Int)-st.2).toNat) (λ st hI=>?_) ⟨by simp,by simp,by simp⟩).1;obtain⟨dn,i⟩:=st;obtain⟨i0,i1,i2⟩:=hI;simp only at i0 i1 i2;have hr:=WR (dn.map Bi) ((lGet x (iNat i) (0,0,0)).2.1,(lGet x (iNat i) (0,0,0)).2.2) (by rw[Bc];omega);rw[Bc] at hr;have hf:=bM dn ((lGet x (iNat i) (0,0,0)).1,(lGet x (iNat i) (0,0,0)).2.1,(lGet x (iNat i) (0,0,0)).2.2) (by omega);simp only[Ng,LH,MF,bj,TM,fu,O1];generalize Bh (dn.map Bi,(lGet x (iNat i) (0,0,0)).2.1,(lGet x (iNat i) (0,0,0)).2.2)=p at hr ⊢;refine⟨⟨λ hlt=>?_,λ _=>trivial⟩,λ hc=>?_⟩
 . rw[Ap,Ao,Ar] at hlt;refine⟨⟨i0,hlt⟩,by rw[Ax];omega,hf,⟨trivial,λ _=>trivial,λ _=>⟨trivial,trivial⟩⟩,λ _=>trivial,λ hc=>⟨λ _=>⟨trivial,M5 (by simp only[AH,AJ];omega) (by omega)⟩,λ k1=>⟨λ k2=>?_,λ _=>trivial⟩⟩⟩;have hc:=congrArg bNot hc;rw[bj] at hc;simp only[BF,Ba,AD,AG,Bv,CM,Ap,Ar] at hc k1 k2;simp[k2] at hc;exact V5 dn p (by omega) (by omega) (by omega)
 . rw[AD,AD,Ap,Ao,Ah,Ah,Ar] at hc;obtain⟨hc1,hc2,hc3⟩:=hc;obtain⟨s1,s2⟩:=Z6 dn (lGet x (iNat i) (0,0,0)).1 (lGet x (iNat i) (0,0,0)).2.1 (lGet x (iNat i) (0,0,0)).2.2 p i true x.length hr i2 hc1 (by omega) hc3;rw[Bu (a:=i) (b:=1) (by constructor<;>omega)];exact⟨⟨by show 0<=i+1;omega,by show i+1<=_;omega,s2⟩,by show (_-(i+1)).toNat<_;omega⟩
theorem gn(x:CY)(h:x.length<=1048576):Ox x:=by
 rw[su];refine⟨λ _=>trivial,λ _=>?_⟩;refine(LR (λ st:List A6×Int=>0<=st.2/\st.2<=(x.length:Int)/\∃ dn:List Fc,st.1=dn.map Bi/\(dn.length:Int)<=st.2) (λ st=>((x.length:Int)-st.2).toNat) (λ st hI=>?_) ⟨by simp,by simp,[],rfl,by simp⟩).1;obtain⟨dm,i⟩:=st;obtain⟨i0,i1,dn,rfl,i2⟩:=hI;simp only at i0 i1 i2;have hr:=WR (dn.map Bi) ((lGet x (iNat i) (0,0,0)).2.1,(lGet x (iNat i) (0,0,0)).2.2) (by rw[Bc];omega);have hf:=mG (dn.map Bi) ((lGet x (iNat i) (0,0,0)).2.1,(lGet x (iNat i) (0,0,0)).2.2) (by rw[Bc];omega);rw[Bc] at hr;simp only[Qu];generalize Bh (dn.map Bi,(lGet x (iNat i) (0,0,0)).2.1,(lGet x (iNat i) (0,0,0)).2.2)=p at hr ⊢;refine⟨⟨λ hlt=>?_,λ _=>trivial⟩,λ hc=>?_⟩
 . rw[Ap,Ao,Ar] at hlt;refine⟨⟨i0,hlt⟩,by rw[Ax];omega,hf,trivial,λ _=>trivial,λ _=>⟨λ _=>⟨λ _=>trivial,λ _=>⟨λ _=>M5 (by simp only[Bc,AH,AJ];omega) (by omega),λ _=>trivial⟩⟩,λ _=>⟨λ _=>⟨λ _=>trivial,λ hp=>?_⟩,λ _=>trivial⟩⟩⟩;rw[Ap,Bo] at hp
   have h0:0<=p:=by omega
   have h1:p<dn.length:=by omega
   rw[Bu (a:=p) (b:=1) (by constructor<;>omega)];simp only[Ax,HN,HC,Ha,L5,Eu,Nz,Bc];exact⟨⟨h0,by omega,by omega,by omega⟩,⟨by omega,by omega,by omega,by omega⟩,by omega,by omega,M5 (by omega) (by omega)⟩
 . rw[AD,AD,Ap,Ao,Ah,Ah,Ar] at hc;obtain⟨hc1,hc2,hc3⟩:=hc;obtain⟨s1,s2⟩:=Z6 dn (lGet x (iNat i) (0,0,0)).1 (lGet x (iNat i) (0,0,0)).2.1 (lGet x (iNat i) (0,0,0)).2.2 p i true x.length hr i2 hc1 (by omega) hc3;rw[Bu (a:=i) (b:=1) (by constructor<;>omega)];exact⟨⟨by show 0<=i+1;omega,by show i+1<=_;omega,_,s1,s2⟩,by show (_-(i+1)).toNat<_;omega⟩
abbrev Cj:=Int×DU×De×Int×Bz×Int×Bool
theorem kt{c c':Int->Bool}{f:Int->Int}{p q:Int->Prop}(n:Nat)(hn:n<=1048576)(hc:∀ i:Nat,i<n->c i=c' i)(hlt:∀ i:Nat,c i=true->i<n)(hlt':∀ i:Nat,c' i=true->i<n)(hf:∀ i,f i=iAdd .i64 i 1)(hp:∀ i:Nat,i<=n->p i/\q i) :
 LoopOk c f p 0/\LoopOk c' f q 0/\Am c f 0=Am c' f 0/\0<=Am c f 0/\Am c f 0<=n:=by
 obtain⟨b1,b2,⟨k,h1,h2,h3⟩,b4⟩:=aE (c:=c) (f:=f) (p:=p) (d:=c') (g:=f) (q:=q) (x0:=0) (y0:=0) (λ x y=>∃ k:Nat,k<=n/\x=k/\y=k) (λ x=>n-x.toNat) (by
  rintro x y ⟨k,hk,rfl,rfl⟩
  refine⟨(hp k hk).1,(hp k hk).2,?_,λ h=>?_⟩
  . by_cases hkn:k<n
    . exact hc k hkn
    . have e1:c (k:Int)=false:=by cases h:c (k:Int) with
       |false=>rfl
       |true=>exact absurd (hlt k h) hkn
      have e2:c' (k:Int)=false:=by cases h:c' (k:Int) with
       |false=>rfl
       |true=>exact absurd (hlt' k h) hkn
      rw[e1,e2]
  . have hkn:=hlt k h
    have e:f (k:Int)=((k+1:Nat):Int):=by rw[hf,Bu (by unfold AO;omega)];omega
    exact⟨⟨k+1,hkn,e,e⟩,by rw[e];omega⟩) ⟨0,by omega,rfl,rfl⟩
 exact⟨b1,b2,by rw[h2,h3],by omega,by omega⟩
theorem MU(x:Cj)(hs:F0 x):Oo x/\Lr x/\CV x=Gh x:=by
 obtain⟨keys,layers,macros,fixed,held,once,caps⟩:=x;have hk:Gp (keys,layers):=hs.1;have hm:M8 macros:=hs.2.1;have hh:Po held:=hs.2.2.1;obtain⟨a1,a2⟩:=gY (keys,layers) hk
 have l1:=kt (c:=MB (keys,layers,macros,fixed,held,once,caps)) (c':=J2 (keys,layers,macros,fixed,held,once,caps)) (f:=HZ) (p:=Yt (keys,layers,macros,fixed,held,once,caps)) (q:=Yy (keys,layers,macros,fixed,held,once,caps)) macros.length hm.1
  (λ i hi=>by
   simp only[MB,J2]
   rw[A8,Ax,Bn,ZO _ (hm.2 _ (DK macros i [] hi)).1])
  (λ i h=>by simp only[MB,AD,Ah,Ap,Ao,Ar] at h;omega)
  (λ i h=>by simp only[J2,AD,Ah,Ap,Ao,Ar] at h;omega) (λ i=>rfl)
  (λ i hi=>by
   have k:(i:Int)<macros.length->Ow (lGet macros (iNat (i:Int)) [])/\Ox (lGet macros (iNat (i:Int)) []):=λ h=>by
    rw[A8,Ax,Bn];have:=(hm.2 _ (DK macros i [] (by omega))).1;exact⟨fY _ this,gn _ this⟩
   simp only[Yt,Yy,Ap,Ao,Ar]
   refine⟨⟨λ h=>⟨⟨by omega,h⟩,by rw[Ax];omega,(k h).1⟩,λ _=>trivial⟩,⟨λ h=>⟨⟨by omega,h⟩,by rw[Ax];omega,(k h).2⟩,λ _=>trivial⟩⟩)
 have l2:=kt (c:=Oe (keys,layers,macros,fixed,held,once,caps)) (c':=Lh (keys,layers,macros,fixed,held,once,caps)) (f:=HZ) (p:=YC (keys,layers,macros,fixed,held,once,caps)) (q:=YB (keys,layers,macros,fixed,held,once,caps)) held.length hh.1
  (λ i hi=>rfl)
  (λ i h=>by simp only[Oe,AD,Ah,Ap,Ao,Ar] at h;omega)
  (λ i h=>by simp only[Lh,AD,Ah,Ap,Ao,Ar] at h;omega) (λ i=>rfl)
  (λ i hi=>by
   simp only[YC,YB,Ap,Ao,Ar]
   have k:(i:Int)<held.length->iNat (i:Int)<held.length:=λ h=>by rw[Ax];omega
   refine⟨⟨λ h=>⟨⟨by omega,h⟩,k h,λ _=>trivial,λ _=>⟨⟨by omega,h⟩,k h,λ _=>⟨⟨by omega,h⟩,k h⟩,λ _=>trivial⟩⟩,λ _=>trivial⟩,⟨λ h=>⟨⟨by omega,h⟩,k h⟩,λ _=>trivial⟩⟩)
 have ef:HY=HZ:=rfl;rw[rO,sq,qZ,fe,ef];obtain⟨p1,p2,p3,_⟩:=l1;obtain⟨q1,q2,q3,_⟩:=l2;simp only[<- p3,<- q3,ZK,Pf]
 have hl:(0:Int)<=lLen layers:=by rw[Ao];omega
 refine⟨?_,?_,?_⟩
 . simp only[a1,Ug held hh.1,PE,p1,q1,hl];simp
 . simp only[a2,TZ held hh.1,p2,q2,hl];simp
 . cases hv:Ea (keys,layers) with
   |false=>simp[Ba,AG,AD]
   | true=>
     have hm:=GW hk hv
     have e1:iShl .i64 1 (lLen layers)=((2^layers.length:Nat):Int):=by
      have h2:2^layers.length<=2^4:=Nat.pow_le_pow_right (by omega) hm.l2;rw[Ao];have:=Sc (a:=1) (k:=layers.length) (by have:=hm.l2;omega) (by omega);rw[GD] at this;exact this
     have h2:2^layers.length<=2^4:=Nat.pow_le_pow_right (by omega) hm.l2;generalize (2^layers.length:Nat)=M at e1 h2;have e2:iSub .i64 (M:Int) 1=(M:Int)-1:=Er (by unfold AO;omega);rw[e1,e2,Gu,Gu];generalize iLt (Am _ _ _) (lLen macros)=A;generalize iLt (Am _ _ _) (lLen held)=B;rw[JN];simp only[Ba,AG,AD,CQ,Ap,CM,Bv,Ah,Ca,BC,Ar,Bo,Gy];constructor
     . rintro⟨⟨_,h1,h3,h4,h5⟩,h6,h7,h8,h9,h10⟩;exact⟨⟨trivial,h1,h3⟩,h6,h7,⟨h8,by omega⟩,h9,by omega,by omega⟩
     . rintro⟨⟨_,h1,h3⟩,h6,h7,⟨h8,h9⟩,h10,h11,h12⟩;exact⟨⟨trivial,h1,h3,by omega,by omega⟩,h6,h7,h8,h10,by omega⟩
theorem ic(x:De)(hs:M8 x):Qs x/\MD x=x:=by
 rw[pO,pG]
 obtain⟨a1,a2⟩:=Zac (c:=TF x) (f:=TD x) (p:=Yr x) x [] hs.1 (λ i l=>by simp[TF,Ap,Ao])
  (λ i l _=>by simp[TD,BE,A8,Ax]) (λ i l hi hl=>by
   simp only[Yr,Ap,Ao,Ar];refine⟨λ h=>?_,λ _=>trivial⟩
   have e:lGet x (iNat (i:Int)) []=x.getD i []:=by rw[A8,Ax,Bn]
   have:=(hs.2 _ (DK x i [] (by omega))).1;have:=hs.1;rw[e]
   refine⟨⟨by omega,h⟩,by rw[Ax];omega,by unfold Av;omega,by unfold Av;simp only[AH,AJ];omega⟩)
 exact⟨a1,by rw[a2]⟩
theorem Wk(x:Cj)(hs:F0 x):OD x/\DG x=x:=by
 obtain⟨keys,layers,macros,fixed,held,once,caps⟩:=x;have hm:M8 macros:=hs.2.1;have hh:Po held:=hs.2.2.1;obtain⟨c1,c2⟩:=zj keys layers hs.1;rw[tZ,ux]
 obtain⟨a1,a2⟩:=aZ (c:=T5 (keys,layers,macros,fixed,held,once,caps)) (f:=Ud (keys,layers,macros,fixed,held,once,caps)) (p:=YY (keys,layers,macros,fixed,held,once,caps)) macros [] hm.1 (λ i l=>by simp[T5,Ap,Ao])
  (λ i l _=>by simp[Ud,BE,A8,Ax]) (λ i l hi hl=>by
   simp only[YY,Ap,Ao,Ar];refine⟨λ h=>?_,λ _=>trivial⟩
   have e:lGet macros (iNat (i:Int)) []=macros.getD i []:=by rw[A8,Ax,Bn]
   have:=(hm.2 _ (DK macros i [] (by omega))).1;have:=hm.1;rw[e]
   refine⟨⟨by omega,h⟩,by rw[Ax];omega,by unfold Av;simp only[AJ];omega,by unfold Av;simp only[AH,AJ];omega⟩)
 have hl:=hh.1;refine⟨⟨c1,a1,by unfold Av;simp only[AJ];omega⟩,?_⟩;rw[a2];simp only[c2,BE,CW]
theorem vE(k:Int)(x:DU)(m:De)(hk:Gp (k,x))(hm:M8 m) :
 TX ((k,x),m)/\e7 ((k,x),m)/\e8 ((k,x),m)=Ol ((k,x),m)/\F0 (Ol ((k,x),m)).1:=by
 have hh:Po []:=⟨by simp,by simp⟩
 have hs:F0 (k,x,m,0,[],0,false):=⟨hk,hm,hh,trivial⟩
 have hz:F0 (0,[],[],0,[],0,false):=⟨⟨⟨by simp,by simp⟩,trivial⟩,⟨by simp,by simp⟩,hh,trivial⟩
 obtain⟨a1,a2⟩:=gS k x hk
 obtain⟨b1,b2⟩:=ic m hm
 obtain⟨c1,c2,c3⟩:=MU _ hs
 obtain⟨d1,d2⟩:=Wk _ hs
 rw[qy,e7,eV,e8]
 simp only[a2,b2,c3,d2,a1,b1,c1,c2,d1]
 refine⟨by simp,by simp,trivial,?_⟩
 rw[BF];split
 . exact hz
 . exact hs
theorem F5{α:Type}(x:List α)(d:α){i:Nat}(h:i<x.length):x.getD i d=x[i]:=by
 rw[Ee,Bf h];rfl
abbrev B4:=List Fc
theorem k9(m p:Nat)(hm:m<4611686018427387904)(hp:p<=64):Eo ((m:Int),(p:Int))=if m.testBit p then 1 else 0:=by
 rw[VS];simp only;rw[Zb8 m p hp];have hd:m / 2^p<=m:=Nat.div_le_self _ _;have:=mL (a:=m / 2^p) (b:=1) (by omega) (by omega);rw[show ((1:Nat):Int)=1 from rfl] at this;rw[this,Nat.and_one_is_mod,Nat.testBit_eq_decide_div_mod_eq];simp only[Ar];split<;>omega
theorem zv{x:B4}(hl:x.length<=1048576)(h:∀ a∈x,Xp a)(hd:x.Pairwise (λ a b=>a.1≠b.1)):Ct x=true:=by
 rw[U5,AG,BC]
 have key:=MZ (c:=λ x0:Int×Int=>(bAnd (iLt x0.2 (lLen x)) (bAnd (bNot (bOr (iLt (lGet x (iNat x0.2) (0,0,0,0,0)).1 0) (bOr (iGt (lGet x (iNat x0.2) (0,0,0,0,0)).1 31) (bOr (iEq (Eo (x0.1,(lGet x (iNat x0.2) (0,0,0,0,0)).1)) 1) (bNot (Bt ((lGet x (iNat x0.2) (0,0,0,0,0)).2.1,(lGet x (iNat x0.2) (0,0,0,0,0)).2.2.1,(lGet x (iNat x0.2) (0,0,0,0,0)).2.2.2.1,(lGet x (iNat x0.2) (0,0,0,0,0)).2.2.2.2))))))) (bNot (bOr (iEq (lGet x (iNat x0.2) (0,0,0,0,0)).2.1 1) (bOr (iEq (lGet x (iNat x0.2) (0,0,0,0,0)).2.1 6) (iEq (lGet x (iNat x0.2) (0,0,0,0,0)).2.1 7)))))))
  (f:=λ x0=>((iOr .i64 x0.1 (iShl .i64 1 (lGet x (iNat x0.2) (0,0,0,0,0)).1)),(iAdd .i64 x0.2 1)))
  (λ st=>∃ i m:Nat,st=((m:Int),(i:Int))/\i<=x.length/\m<4294967296/\∀ p:Nat,m.testBit p=true->∃ j,j<i/\(x.getD j (0,0,0,0,0)).1=(p:Int)) (λ st=>x.length-st.2.toNat) (λ st hI hc=>?_) (x0:=(0,0)) ⟨0,0,rfl,GC _,by omega,λ p hp=>by simp at hp⟩
 . obtain⟨⟨i,m,k1,k2,k3,k4⟩,k5⟩:=key;rw[k1] at k5 ⊢;rw[Ap,Ao,Bo];intro hlt
   have hi:i<x.length:=by simpa using hlt
   obtain⟨h1,h2,h3,h4,h5,h6⟩:=h _ (DK x i (0,0,0,0,0) hi)
   have hb:Eo ((m:Int),(x.getD i (0,0,0,0,0)).1)≠1:=by
    obtain⟨p,hp⟩:=Int.eq_ofNat_of_zero_le h1;rw[hp,k9 m p (by omega) (by omega)];split
    . next hb=>
      obtain⟨j,hj,e⟩:=k4 p hb;have:=List.pairwise_iff_getElem.1 hd j i (by omega) hi hj;rw[<- F5 x (0,0,0,0,0) hi,<- F5 x (0,0,0,0,0) (by omega:j<x.length),e,hp] at this;exact absurd rfl this
    . decide
   have h3':Bt ((x.getD i (0,0,0,0,0)).2.1,(x.getD i (0,0,0,0,0)).2.2.1,(x.getD i (0,0,0,0,0)).2.2.2.1,(x.getD i (0,0,0,0,0)).2.2.2.2)=true:=h3;simp only[AD,AG,Ba,Ap,CQ,Bv,Ao,A8,Ax,Bn,h3',hb,h4,h5,h6] at k5;simp[-List.getD_eq_getElem?_getD] at k5;omega
 . obtain⟨i,m,rfl,k2,k3,k4⟩:=hI;simp only[AD,Ap,Ao,Ah,Ar] at hc
   have hi:i<x.length:=by omega
   obtain⟨h1,h2,_⟩:=h _ (DK x i (0,0,0,0,0) hi);obtain⟨p,hp⟩:=Int.eq_ofNat_of_zero_le h1
   have hpl:p<32:=by omega
   have h2p:2^p<=2^31:=Nat.pow_le_pow_right (by omega) (by omega)
   have h31:(2:Nat)^31=2147483648:=by decide
   simp only[A8,Ax,Bn,hp];have e1:=Sc (a:=1) (k:=p) (by omega) (by omega);rw[show ((1:Nat):Int)=1 from rfl,GD] at e1;rw[e1,XM (a:=m) (b:=2^p) (by omega) (by omega)];refine⟨⟨i+1,m ||| 2^p,by rw[Bu (by unfold AO;omega)];simp,by omega,?_,λ q hq=>?_⟩,by rw[Bu (by unfold AO;omega)];omega⟩
   . have:=Nat.or_lt_two_pow (x:=m) (y:=2^p) (n:=32) (by omega) (by omega);simpa using this
   . rw[Nat.testBit_or,Cp] at hq;rcases hq with hq|hq
     . obtain⟨j,hj,e⟩:=k4 q hq;exact⟨j,by omega,e⟩
     . rw[Nat.testBit_two_pow] at hq
       have:p=q:=by simpa using hq
       exact⟨i,by omega,by rw[hp,this]⟩
theorem Zaa{x:B4}(hl:x.length<=1048576)(h:Ct x=true):x.Pairwise (λ a b=>a.1≠b.1):=by
 have hall:=Rz hl h;rw[U5,AG,BC] at h
 have key:=MZ (c:=λ x0:Int×Int=>(bAnd (iLt x0.2 (lLen x)) (bAnd (bNot (bOr (iLt (lGet x (iNat x0.2) (0,0,0,0,0)).1 0) (bOr (iGt (lGet x (iNat x0.2) (0,0,0,0,0)).1 31) (bOr (iEq (Eo (x0.1,(lGet x (iNat x0.2) (0,0,0,0,0)).1)) 1) (bNot (Bt ((lGet x (iNat x0.2) (0,0,0,0,0)).2.1,(lGet x (iNat x0.2) (0,0,0,0,0)).2.2.1,(lGet x (iNat x0.2) (0,0,0,0,0)).2.2.2.1,(lGet x (iNat x0.2) (0,0,0,0,0)).2.2.2.2))))))) (bNot (bOr (iEq (lGet x (iNat x0.2) (0,0,0,0,0)).2.1 1) (bOr (iEq (lGet x (iNat x0.2) (0,0,0,0,0)).2.1 6) (iEq (lGet x (iNat x0.2) (0,0,0,0,0)).2.1 7)))))))
  (f:=λ x0=>((iOr .i64 x0.1 (iShl .i64 1 (lGet x (iNat x0.2) (0,0,0,0,0)).1)),(iAdd .i64 x0.2 1)))
  (λ st=>∃ i m:Nat,st=((m:Int),(i:Int))/\i<=x.length/\m<4294967296/\(∀ j,j<i->∀ p:Nat,(x.getD j (0,0,0,0,0)).1=(p:Int)->m.testBit p=true)/\∀ j k,j<k->k<i->(x.getD j (0,0,0,0,0)).1≠(x.getD k (0,0,0,0,0)).1) (λ st=>x.length-st.2.toNat) (λ st hI hc=>?_) (x0:=(0,0)) ⟨0,0,rfl,GC _,by omega,λ j hj=>absurd hj (by omega),λ j k _ hk=>absurd hk (by omega)⟩
 . obtain⟨⟨i,m,k1,k2,k3,k4,k5⟩,_⟩:=key;rw[k1,Ap,Ao,Bo] at h;simp only at h
   have hi:i=x.length:=by omega
   subst hi;rw[List.pairwise_iff_getElem];intro j k hj hk hjk;have:=k5 j k hjk hk;rwa [F5 x _ hj,F5 x _ hk] at this
 . obtain⟨i,m,rfl,k2,k3,k4,k5⟩:=hI;simp only[AD,Ap (i:Int),Ao,Ah,Ar] at hc;obtain⟨c1,c2,_⟩:=hc
   have hi:i<x.length:=by omega
   obtain⟨h1,h2,_⟩:=hall _ (DK x i (0,0,0,0,0) hi);obtain⟨p,hp⟩:=Int.eq_ofNat_of_zero_le h1
   have hpl:p<32:=by omega
   have h2p:2^p<=2^31:=Nat.pow_le_pow_right (by omega) (by omega)
   have h31:(2:Nat)^31=2147483648:=by decide
   simp only[A8,Ax,Bn,hp,AG,Ba,BC,Ca,Bv,Bo] at c2
   have hb:m.testBit p=false:=by
    have:=c2.2.2.1;rw[k9 m p (by omega) (by omega)] at this
    cases hb:m.testBit p with
    |false=>rfl
    |true=>rw[hb] at this;exact absurd rfl this
   simp only[A8,Ax,Bn,hp];have e1:=Sc (a:=1) (k:=p) (by omega) (by omega);rw[show ((1:Nat):Int)=1 from rfl,GD] at e1;rw[e1,XM (a:=m) (b:=2^p) (by omega) (by omega)];refine⟨⟨i+1,m ||| 2^p,by rw[Bu (by unfold AO;omega)];simp,by omega,?_,λ j hj q hq=>?_,λ j k hjk hk=>?_⟩,by rw[Bu (by unfold AO;omega)];omega⟩
   . have:=Nat.or_lt_two_pow (x:=m) (y:=2^p) (n:=32) (by omega) (by omega);simpa using this
   . rw[Nat.testBit_or,Cp];rcases BN j i with h|h
     . exact .inl (k4 j h q hq)
     . have:j=i:=by omega
       subst this;rw[hp] at hq
       have:p=q:=by omega
       right;rw[this,Nat.testBit_two_pow_self]
   . rcases BN k i with h|h
     . exact k5 j k hjk h
     . have:k=i:=by omega
       subst this;intro e;have:=k4 j hjk p (by rw[e];exact hp);rw[hb] at this;cases this
theorem M1{x:B4}(hl:x.length<=1048576):Ct x=true↔(∀ a∈x,Xp a)/\x.Pairwise (λ a b=>a.1≠b.1):=
 ⟨λ h=>⟨Rz hl h,Zaa hl h⟩,λ h=>zv hl h.1 h.2⟩
theorem br{x:B4}(hl:x.length<=1048576)(h:Ct x=true):x.length<=32:=by
 obtain⟨h1,h2⟩:=(M1 hl).1 h
 have hn:(x.map λ a=>a.1.toNat).Nodup:=by
  rw[List.nodup_iff_pairwise_ne,List.pairwise_map]
  refine h2.imp_of_mem λ {a b} ha hb hab e=>hab ?_
  have:=(h1 a ha).1;have:=(h1 b hb).1
  omega
 have hs:(x.map λ a=>a.1.toNat) ⊆ List.range 32:=λ q hq=>by
  obtain⟨a,ha,rfl⟩:=List.mem_map.1 hq
  have:=(h1 a ha).1;have:=(h1 a ha).2.1
  rw[List.mem_range];omega
 have:=hn.length_le_of_subset hs;simpa using this
section
set_option maxRecDepth 20000
theorem kQ{c:Int->Bool}{f:Int->Int}(n:Nat)(t:Nat->Bool)(hn:(n:Int)<=9223372036854775806)(hc:∀ i:Nat,i<=n->c i=(decide (i<n)&&!t i))(hf:∀ i:Nat,i<n->f i=iAdd .i64 i 1):iLt (Am c f 0) (n:Int)=false↔∀ i,i<n->t i=false:=by
 rw[Si n t hn hc hf,Ap,Bo,<- O4];have:=Jr t n 0;omega
structure EngOk (x:Cj):Prop where
 map:Ea (x.1,x.2.1)=true
 mac:x.2.2.1.length<=4
 macs:∀ m∈x.2.2.1,Io m=true
 held:Ct x.2.2.2.2.1=true
 hk:∀ a∈x.2.2.2.2.1,a.1<x.1/\(a.2.1≠9->a.2.2.2.2<x.2.1.length)
 on0:0<=x.2.2.2.2.2.1
 on1:x.2.2.2.2.2.1<=15
 f0:0<=x.2.2.2.1
 f2:x.2.2.2.1 % 2=0
 f1:x.2.2.2.1<((2^x.2.1.length:Nat):Int)
theorem mF(n:Nat)(h:n<=40):iShl .i64 1 (n:Int)=((2^n:Nat):Int):=by
 have hp:2^n<=2^40:=Nat.pow_le_pow_right (by omega) h;have e:=Sc (a:=1) (k:=n) (by omega) (by rw[GD];exact Nat.lt_of_le_of_lt hp (by decide));rwa [GD] at e
theorem VP(x:Cj)(hs:F0 x):CV x=true↔EngOk x:=by
 obtain⟨k,l,mc,fx,hd,on,cp⟩:=x;have hmc:mc.length<=1048576:=hs.2.1.1;have hhd:hd.length<=1048576:=hs.2.2.1.1
 have s1:=kQ (c:=J2 (k,l,mc,fx,hd,on,cp)) (f:=HY) mc.length (λ i=>!Io (mc.getD i [])) (by omega)
  (λ i hi=>by simp only[J2,AD,Ap,Ao,AG,A8,Ax,Bn,G6]) (λ i hi=>rfl)
 have s2:=kQ (c:=Lh (k,l,mc,fx,hd,on,cp)) (f:=HY) hd.length (λ i=>decide (k<=(hd.getD i (0,0,0,0,0)).1)||(!decide ((hd.getD i (0,0,0,0,0)).2.1=9)&&decide ((l.length:Int)<=(hd.getD i (0,0,0,0,0)).2.2.2.2))) (by omega)
  (λ i hi=>by simp only[Lh,AD,Ba,Ap,CM,CX,Ao,AG,A8,Ax,Bn,G6]) (λ i hi=>rfl)
 have m1:(∀ i,i<mc.length->(!Io (mc.getD i []))=false)↔∀ m∈mc,Io m=true:=by
  constructor
  . intro h m hm;obtain⟨i,hi,rfl⟩:=IF hm;have:=h i hi;rw[F5 mc [] hi] at this;simpa using this
  . intro h i hi;have:=h _ (DK mc i [] hi);simpa using this
 have m2:(∀ i,i<hd.length->(decide (k<=(hd.getD i (0,0,0,0,0)).1)||(!decide ((hd.getD i (0,0,0,0,0)).2.1=9)&&decide ((l.length:Int)<=(hd.getD i (0,0,0,0,0)).2.2.2.2)))=false)↔∀ a∈hd,a.1<k/\(a.2.1≠9->a.2.2.2.2<l.length):=by
  have one:∀ a:Int×Int×Int×Int×Int,(decide (k<=a.1)||(!decide (a.2.1=9)&&decide ((l.length:Int)<=a.2.2.2.2)))=false↔a.1<k/\(a.2.1≠9->a.2.2.2.2<l.length):=by
   intro a;simp only[Ca,Gb,CJ,Ar,Bo];constructor
   . rintro⟨h1,h2⟩;exact⟨by omega,λ h9=>by rcases h2 with h|h;exact absurd h h9;omega⟩
   . rintro⟨h1,h2⟩;refine⟨by omega,?_⟩;by_cases h9:a.2.1=9
     . exact .inl h9
     . exact .inr (by have:=h2 h9;omega)
  constructor
  . intro h a ha;obtain⟨i,hi,rfl⟩:=IF ha;have:=h i hi;rw[F5 hd _ hi] at this;exact(one _).1 this
  . intro h i hi;exact(one _).2 (h _ (DK hd i _ hi))
 rw[fe];simp only;rw[Ao mc,Ao hd,Ao l];simp only[AD,AG,Ba,Ah,BC,Ca,CJ,s1.trans m1,s2.trans m2];constructor
 . rintro⟨⟨a1,a2,a3,a4,a5⟩,b1,b2,b3,b4,b5⟩;have hl:l.length<=4:=(GW hs.1 a1).l2;rw[mF _ (by omega),Ap,Ar] at b5;rw[CM,Ar] at b3;rw[Bv,Ar,W2 b3] at b4;rw[CQ,Bo] at a2 a5;rw[Ap,Bo] at a4;exact⟨a1,by simp only;omega,b1,a3,b2,by simp only;omega,by simp only;omega,b3,b4,b5⟩
 . rintro⟨a1,a2,a3,a4,a5,a6,a7,a8,a9,a10⟩;simp only at a1 a2 a3 a4 a5 a6 a7 a8 a9 a10;have hl:l.length<=4:=(GW hs.1 a1).l2;refine⟨⟨a1,by rw[CQ,Bo];omega,a4,by rw[Ap,Bo];omega,by rw[CQ,Bo];omega⟩,a3,a5,by rw[CM,Ar];exact a8,by rw[Bv,Ar,W2 a8];exact a9,by rw[mF _ (by omega),Ap,Ar];exact a10⟩
end
def B5(c:CB):Prop:=0<=c.2.1/\c.2.1<=c.1.length/\c.1.length<=1048576
theorem Xj(x:Int):0<=iAnd .i64 x 255/\iAnd .i64 x 255<=255:=by
 rw[cE]
 have h:(BitVec.ofInt IntKind.i64.bits x &&& BitVec.ofInt IntKind.i64.bits 255).toNat<=255:=by
  rw[BitVec.toNat_and];exact Nat.and_le_right
 have:IntKind.i64.wrap ((BitVec.ofInt IntKind.i64.bits x &&& BitVec.ofInt IntKind.i64.bits 255).toNat:Int)=((BitVec.ofInt IntKind.i64.bits x &&& BitVec.ofInt IntKind.i64.bits 255).toNat:Int):=KL (by unfold AO;omega);rw[this];omega
theorem W6(c:CB)(h:B5 c):Im c/\0<=(BZ c).1/\(BZ c).1<=255/\B5 (c.1,(BZ c).2):=by
 obtain⟨h1,h2,h3⟩:=h;rw[gd,gk];simp only[BF,Ap,Ao,Ax,Ar,Bo];refine⟨⟨by omega,by omega,λ _=>by omega,λ _=>trivial⟩,?_,?_,?_⟩
 . split
   . exact(Xj _).1
   . exact(Xj _).1
 . split
   . exact(Xj _).2
   . exact(Xj _).2
 . unfold B5;simp only;split
   . rw[Bu (by unfold AO;omega)];omega
   . omega
theorem Fx(c:CB)(n:Int)(h:B5 c):D0 (c,n)/\B5 (c.1,(As (c,n)).2)/\(n<=0->(As (c,n)).1=0)/\(0<n->0<=(As (c,n)).1/\(As (c,n)).1<n):=by
 rw[fM,fO];obtain⟨a1,a2,a3,a4⟩:=W6 c h;obtain⟨b1,b2,b3,b4⟩:=W6 _ a4;obtain⟨c1,c2,c3,c4⟩:=W6 _ b4;obtain⟨d1,d2,d3,d4⟩:=W6 _ c4;simp only at b1 b2 b3 b4 c1 c2 c3 c4 d1 d2 d3 d4 ⊢;simp only[BF,Ev,Ar,Bo];by_cases hn:n<=0
 . simp only[Ac hn];exact⟨⟨λ _=>trivial,λ h=>absurd hn h⟩,h,λ _=>trivial,λ h=>by omega⟩
 . simp only[Ae hn];by_cases hm:n<=256
   . simp only[Ac hm];refine⟨⟨λ h=>absurd h hn,λ _=>⟨λ _=>⟨a1,by omega⟩,λ h=>absurd hm h⟩⟩,a4,λ h=>absurd h hn,λ _=>?_⟩;rw[W2 a2];exact⟨Int.emod_nonneg _ (by omega),Int.emod_lt_of_pos _ (by omega)⟩
   . simp only[Ae hm];refine⟨⟨λ h=>absurd h hn,λ _=>⟨λ h=>absurd h hm,λ _=>⟨a1,b1,c1,d1,by omega⟩⟩⟩,d4,λ h=>absurd h hn,λ _=>?_⟩;generalize (BZ c).1=p at a2 a3;generalize (BZ (c.1,(BZ c).2)).1=q at b2 b3;generalize (BZ (c.1,(BZ (c.1,(BZ c).2)).2)).1=r at c2 c3;generalize (BZ (c.1,(BZ (c.1,(BZ (c.1,(BZ c).2)).2)).2)).1=s at d2 d3;rw[aY (a:=p) (by unfold AO;omega),aY (a:=q) (by unfold AO;omega),aY (a:=r) (by unfold AO;omega),Bu (a:=p*16777216) (by unfold AO;omega),Bu (a:=p*16777216+q*65536) (by unfold AO;omega),Bu (a:=p*16777216+q*65536+r*256) (by unfold AO;omega),W2 (by omega)];exact⟨Int.emod_nonneg _ (by omega),Int.emod_lt_of_pos _ (by omega)⟩
theorem WX(c:CB)(n:Int)(h:B5 c):Kr (c,n)/\B5 (c.1,(Cu (c,n)).2):=by
 obtain⟨a1,a2,_⟩:=Fx c n h;rw[gr,gq];exact⟨a1,a2⟩
theorem Zb7(c:CB)(l:Bb)(hl:0<l.length)(h:B5 c):Oi (c,l)/\B5 (c.1,(Di (c,l)).2)/\(Di (c,l)).1∈l:=by
 obtain⟨a1,a2,_,a4⟩:=Fx c (lLen l) h;rw[qk,qM];have a4:=a4 (by rw[Ao];omega);simp only;generalize (As (c,lLen l)).1=i at a4 ⊢;rw[Ao] at a4;refine⟨⟨a1,a4,by rw[Ax];omega⟩,a2,?_⟩;rw[A8,Ax];exact DK l _ _ (by omega)
theorem ZcH(x:Bb)(h:x.length<=1048576):OY x/\B5 (KA x)/\(KA x).1=x:=by
 rw[vL,vw];refine⟨?_,⟨by simp,by simp,h⟩,rfl⟩;refine IM (λ st=>st.2) x.length (by omega) (λ st _ _ hc=>?_) (λ _=>rfl) (λ st h0 h1=>?_) (by simp) (by simp)
 . unfold Y8 at hc;simp only[AD,Ap,Ao,Ah,Ar] at hc;exact hc.1
 . unfold fD;refine⟨λ hc=>?_,λ _=>trivial⟩;simp only[AD,Ap,Ao,Ah,Ar] at hc;rw[Ax];omega
theorem ZcZ(x:Bb):Pc x=decide (1048576<x.length)/\V0 x:=by
 rw[xV,xT];refine⟨?_,trivial⟩;rw[CQ,Ao];congr 1;exact propext (by omega)
def P6(a:CH):Prop:=Bt a=true/\a.1≠1
theorem DA(k c m n:Int):Bt (k,c,m,n)=true ↔
 ((k=0\/k=1\/k=10)/\c=0/\m=0/\n=0)\/(k=2/\n=0/\0<=c/\c<=56/\0<=m/\m<=15/\(c≠0\/m≠0))\/((k=3\/k=4)/\c=0/\m=0/\1<=n/\n<=3)\/((k=5\/k=9)/\c=0/\m=0/\0<=n/\n<=3) \/
 (k=6/\1<=c/\c<=56/\1<=m/\m<=15/\n=0)\/(k=7/\1<=c/\c<=56/\m=0/\1<=n/\n<=3)\/(k=8/\c=0/\1<=m/\m<=15/\n=0):=by
 rw[QI]
 simp only[BF,Ba,AD,Bv,CX,U1,UO,Y9,CM,Ev]
 repeat' split
 all_goals simp only[Ah,Cp,BC,CJ,Gb,Ca,Ar,Bo,Gz,IW,A0,Jv,HB,Gz,decide_not] at *
 all_goals omega
theorem ZbJ(c:CB)(n:Int)(h:B5 c)(n1:1<=n)(n4:n<=4):OL (c,n)/\B5 (c.1,(Cn (c,n)).2)/\P6 (Cn (c,n)).1/\((Cn (c,n)).1.1≠9->(Cn (c,n)).1.2.2.2<n):=by
 rw[ue,vh]
 obtain⟨m,em,m1,m3,mn⟩:∃ m,iMax 1 (iSub .i64 n 1)=m/\1<=m/\m<=3/\(1<n->m=n-1):=by
  refine⟨_,rfl,?_⟩;rw[Er (by unfold AO;omega),cI];split<;>omega
 have em':iMax 1 n=n:=by rw[cI];split<;>omega
 obtain⟨a1,a2,_,a4⟩:=Fx c 56 h;have a4:=a4 (by omega);obtain⟨b1,b2,_,b4⟩:=Fx _ 15 a2;have b4:=b4 (by omega);change B5 (c.1,(Ho (c,n)).2) at b2;change 0<=(Ho (c,n)).1/\(Ho (c,n)).1<15 at b4;obtain⟨c1,c2⟩:=WX _ 2 b2;change B5 (c.1,(CE (c,n)).2) at c2
 have hc2:B5 (c.1,(bSel (CE (c,n)).1 (CE (c,n)).2.1 (CE (c,n)).2.1),(bSel (CE (c,n)).1 (CE (c,n)).2.2 (CE (c,n)).2.2)):=by
  simp only[BF,ite_self];exact c2
 obtain⟨d1,d2,_,d4⟩:=Fx _ (iMax 1 (iSub .i64 n 1)) hc2;change B5 (c.1,(Ei (c,n)).2) at d2
 have d4:0<=(Ei (c,n)).1/\(Ei (c,n)).1<m:=by
  have:=d4 (by rw[em];omega);rw[em] at this
  have e:Ei (c,n)=As ((c.1,(bSel (CE (c,n)).1 (CE (c,n)).2.1 (CE (c,n)).2.1),(bSel (CE (c,n)).1 (CE (c,n)).2.2 (CE (c,n)).2.2)),m):=by unfold Ei;rw[em]
  rw[e];exact this
 obtain⟨e1,e2,_,e4⟩:=Fx _ 16 d2;have e4:=e4 (by omega);change B5 (c.1,(AU (c,n)).2) at e2;change 0<=(AU (c,n)).1/\(AU (c,n)).1<16 at e4;obtain⟨f1,f2,_,f4⟩:=Fx _ 4 e2;have f4:=f4 (by omega);change B5 (c.1,(Om (c,n)).2) at f2;change 0<=(Om (c,n)).1/\(Om (c,n)).1<4 at f4;obtain⟨g1,g2,_,g4⟩:=Fx _ 3 e2;have g4:=g4 (by omega);change B5 (c.1,(Kb (c,n)).2) at g2;change 0<=(Kb (c,n)).1/\(Kb (c,n)).1<3 at g4;obtain⟨i1,i2,_,i4⟩:=Fx _ (iMax 1 n) e2;have i4:=i4 (by rw[em'];omega);change B5 (c.1,(Ot (c,n)).2) at i2;change 0<=(Ot (c,n)).1/\(Ot (c,n)).1<iMax 1 n at i4;rw[em'] at i4
 have hM:1<=bSel (CE (c,n)).1 2 (iAdd .i64 1 (Ho (c,n)).1)/\bSel (CE (c,n)).1 2 (iAdd .i64 1 (Ho (c,n)).1)<=15:=by
  rw[BF,Bu (by unfold AO;omega)];split<;>omega
 have hC:1<=iAdd .i64 1 (As (c,56)).1/\iAdd .i64 1 (As (c,56)).1<=56:=by rw[Bu (by unfold AO;omega)];omega
 have hN:1<=iAdd .i64 1 (Ei (c,n)).1/\iAdd .i64 1 (Ei (c,n)).1<=m:=by rw[Bu (by unfold AO;omega)];omega
 refine⟨?_,?_⟩
 . refine⟨a1,b1,c1,d1,e1,λ _=>trivial,λ _=>⟨λ _=>trivial,λ _=>⟨λ _=>trivial,λ _=>⟨λ _=>trivial,λ _=>⟨λ _=>f1,λ _=>⟨λ _=>trivial,λ _=>⟨λ _=>i1,λ _=>⟨λ _=>⟨λ _=>⟨g1,?_,?_⟩,λ _=>trivial⟩,λ _=>trivial⟩⟩⟩⟩⟩⟩⟩⟩
   . simp only[AH,AJ];omega
   . simp only[AH,AJ,Ax];omega
 generalize bSel (CE (c,n)).1 2 (iAdd .i64 1 (Ho (c,n)).1)=M at hM ⊢;generalize iAdd .i64 1 (As (c,56)).1=C at hC ⊢;generalize iAdd .i64 1 (Ei (c,n)).1=N at hN ⊢;generalize Ot (c,n)=s7 at i2 i4 ⊢;generalize Kb (c,n)=s6 at g2 g4 ⊢;generalize Om (c,n)=s5 at f2 f4 ⊢;generalize AU (c,n)=s4 at e2 e4 ⊢
 have hL:1<n->P6 (lGet [(3,0,0,N),(4,0,0,N),(7,C,0,N)] (iNat s6.1) (0,0,0,0))/\(lGet [(3,0,0,N),(4,0,0,N),(7,C,0,N)] (iNat s6.1) (0,0,0,0):Int×Int×Int×Int).2.2.2<n:=by
  intro hn;have:=mn hn;rw[A8,Ax]
  have:s6.1=0\/s6.1=1\/s6.1=2:=by omega
  rcases this with e|e|e
  . rw[e];exact⟨⟨(DA 3 0 0 N).2 (by omega),by simp⟩,by show N<n;omega⟩
  . rw[e];exact⟨⟨(DA 4 0 0 N).2 (by omega),by simp⟩,by show N<n;omega⟩
  . rw[e];exact⟨⟨(DA 7 C 0 N).2 (by omega),by simp⟩,by show N<n;omega⟩
 generalize lGet [(3,0,0,N),(4,0,0,N),(7,C,0,N)] (iNat s6.1) (0,0,0,0)=L at hL ⊢
 have g:∀ (b:Bool) (p q:CH×A6),(B5 (c.1,p.2)/\P6 p.1/\(p.1.1≠9->p.1.2.2.2<n))->(b=false->B5 (c.1,q.2)/\P6 q.1/\(q.1.1≠9->q.1.2.2.2<n))->B5 (c.1,(bSel b p q).2)/\P6 (bSel b p q).1/\((bSel b p q).1.1≠9->(bSel b p q).1.2.2.2<n):=λ b p q hp hq=>by
  rw[BF];cases b
  . exact hq rfl
  . exact hp
 have hA:∀ (k c m z:Int),Bt (k,c,m,z)=true->k≠1->(k≠9->z<n)->P6 (k,c,m,z)/\(k≠9->z<n):=λ k c m z h1 h2 h3=>⟨⟨h1,h2⟩,h3⟩
 refine g _ _ _ ⟨?_,hA _ _ _ _ ((DA _ _ _ _).2 (by omega)) (by omega) (by omega)⟩ λ q0=>g _ _ _ ⟨e2,hA _ _ _ _ ((DA _ _ _ _).2 (by omega)) (by omega) (by omega)⟩ λ q1=>g _ _ _ ⟨e2,hA _ _ _ _ ((DA _ _ _ _).2 (by omega)) (by omega) (by omega)⟩ λ q2=>g _ _ _ ⟨e2,hA _ _ _ _ ((DA _ _ _ _).2 (by omega)) (by omega) (by omega)⟩ λ q3=>g _ _ _ ⟨e2,hA _ _ _ _ ((DA _ _ _ _).2 (by omega)) (by omega) (by omega)⟩ λ q4=>g _ _ _ ⟨f2,hA _ _ _ _ ((DA _ _ _ _).2 (by omega)) (by omega) (λ h=>absurd rfl h)⟩ λ q5=>g _ _ _ ⟨e2,hA _ _ _ _ ((DA _ _ _ _).2 (by omega)) (by omega) (by omega)⟩ λ q6=>g _ _ _ ⟨i2,hA _ _ _ _ ((DA _ _ _ _).2 (by omega)) (by omega) (by omega)⟩ λ q7=>?_
 . simp only[BF,ite_self];exact e2
 . have hn:1<n:=by
    simp only[AD,AG,q1,q2,q3,q4,q5,q6,q7,Bool.not_false,NB,Ba,CQ,Ca,CJ,Ar] at q0;exact q0.2
   exact⟨g2,(hL hn).1,λ _=>(hL hn).2⟩
section
set_option maxRecDepth 20000
abbrev FG:=Int×Int×Int×Int
abbrev ew:=Int×DU×De×Int×Bz×Int×Bool
theorem Zcq{a b:Nat}(ha:a<4611686018427387904)(hb:b<4611686018427387904):iXor .i64 (a:Int) (b:Int)=((a ^^^ b:Nat):Int):=by
 have e:(BitVec.ofInt 64 (a:Int) ^^^ BitVec.ofInt 64 (b:Int)).toNat=a ^^^ b:=by
  rw[BitVec.ofInt_natCast,BitVec.ofInt_natCast,BitVec.toNat_xor,BitVec.toNat_ofNat,BitVec.toNat_ofNat,Nat.mod_eq_of_lt (by omega),Nat.mod_eq_of_lt (by omega)]
 have h:a ^^^ b<2^62:=Nat.xor_lt_two_pow (by omega) (by omega);rw[nB];show IntKind.i64.wrap ((BitVec.ofInt 64 (a:Int) ^^^ BitVec.ofInt 64 (b:Int)).toNat:Int)=_;rw[e];exact KL (by unfold AO;omega)
def FJ(a b:Nat):Nat:=a &&& (15-b)
theorem yr:∀ a b:Fin 16,(BitVec.ofInt 64 (a.val:Int) &&& ~~~BitVec.ofInt 64 (b.val:Int)).toNat=FJ a.val b.val:=by decide +kernel
theorem mE(a b:Nat):FJ a b<=a:=Nat.and_le_left
theorem ZQ{a b:Nat}(ha:a<16)(hb:b<16):iAndNot .i64 (a:Int) (b:Int)=((FJ a b:Nat):Int):=by
 have e:(BitVec.ofInt 64 (a:Int) &&& ~~~BitVec.ofInt 64 (b:Int)).toNat=FJ a b:=yr ⟨a,ha⟩ ⟨b,hb⟩;have h:=mE a b;rw[j7];show IntKind.i64.wrap ((BitVec.ofInt 64 (a:Int) &&& ~~~BitVec.ofInt 64 (b:Int)).toNat:Int)=_;rw[e];exact KL (by unfold AO;omega)
theorem ZaI{n:Nat}(h:n<=40):iShl .i64 1 (n:Int)=((2^n:Nat):Int):=by
 have hp:2^n<=2^40:=Nat.pow_le_pow_right (by omega) h;have e:=Sc (a:=1) (k:=n) (by omega) (by rw[GD];exact Nat.lt_of_le_of_lt hp (by decide));rwa [GD] at e
theorem xL(c:Int):Lk c=Je c:=by
 rw[pB,p8,Gu];simp only[BF,Ba,Bv,CM,Ev];by_cases h:1<=c
 . simp[h]
 . simp[h]
def R4(w:Bool)(c:Int)(m on:Nat)(cp:Bool):Nat:=if (cp=true/\w=true)/\c<=26/\FJ (m ||| on) 2=0 then 2 else m ||| on
def EA(w:Bool)(x:ew)(a:FG):FG×ew:=
 if a.1=2 then
  if 0<a.2.1 then ((a.1,a.2.1,((R4 w a.2.1 a.2.2.1.toNat x.2.2.2.2.2.1.toNat x.2.2.2.2.2.2:Nat):Int),a.2.2.2),x.1,x.2.1,x.2.2.1,x.2.2.2.1,x.2.2.2.2.1,0,(x.2.2.2.2.2.2&&w))
  else (a,x)
 else if a.1=4 then (a,x.1,x.2.1,x.2.2.1,((x.2.2.2.1.toNat ^^^ 2^a.2.2.2.toNat:Nat):Int),x.2.2.2.2)
 else if a.1=5 then (a,x.1,x.2.1,x.2.2.1,((FJ (2^a.2.2.2.toNat) 1:Nat):Int),x.2.2.2.2)
 else if a.1=8 then (a,x.1,x.2.1,x.2.2.1,x.2.2.2.1,x.2.2.2.2.1,((if x.2.2.2.2.2.1.toNat &&& a.2.2.1.toNat=a.2.2.1.toNat then FJ x.2.2.2.2.2.1.toNat a.2.2.1.toNat else x.2.2.2.2.2.1.toNat ||| a.2.2.1.toNat:Nat):Int),x.2.2.2.2.2.2)
 else if a.1=10 then (a,x.1,x.2.1,x.2.2.1,x.2.2.2.1,x.2.2.2.2.1,x.2.2.2.2.2.1,!x.2.2.2.2.2.2)
 else (a,x)
theorem z6(x:ew)(a:FG)(ha:Bt a=true)(f0:0<=x.2.2.2.1)(f1:x.2.2.2.1<=15)(o0:0<=x.2.2.2.2.2.1)(o1:x.2.2.2.2.2.1<=15) :
 Oq (x,a,a)/\OI (x,a,a)/\Oy (x,a,a)=EA (Je a.2.1) x a/\OX (x,a,a)=EA (Je a.2.1) x a:=by
 obtain⟨k,L,mc,f,hd,on,cp⟩:=x
 obtain⟨kd,c,m,n⟩:=a
 have h:=(DA kd c m n).1 ha
 simp only at f0 f1 o0 o1
 obtain⟨F,rfl⟩:=Int.eq_ofNat_of_zero_le f0
 obtain⟨O,rfl⟩:=Int.eq_ofNat_of_zero_le o0
 obtain⟨M,rfl⟩:=Int.eq_ofNat_of_zero_le (show 0<=m by omega)
 obtain⟨P,rfl⟩:=Int.eq_ofNat_of_zero_le (show 0<=n by omega)
 have hM:M<16:=by omega
 have hO:O<16:=by omega
 have hP:P<=3:=by omega
 have hor:M ||| O<2^4:=Nat.or_lt_two_pow (by omega) (by omega)
 have h24:(2:Nat)^4=16:=by decide
 have e2:((2:Nat):Int)=2:=rfl
 have h2P:2^P<=2^3:=Nat.pow_le_pow_right (by omega) hP
 have h23:(2:Nat)^3=8:=by decide
 have x1:iOr .i64 (M:Int) (O:Int)=((M ||| O:Nat):Int):=XM (by omega) (by omega)
 have x2:iAndNot .i64 ((M ||| O:Nat):Int) 2=((FJ (M ||| O) 2:Nat):Int):=ZQ (b:=2) (by omega) (by omega)
 have x3:iShl .i64 1 (P:Int)=((2^P:Nat):Int):=ZaI (by omega)
 have x4:iXor .i64 (F:Int) ((2^P:Nat):Int)=((F ^^^ 2^P:Nat):Int):=Zcq (by omega) (by omega)
 have x5:iAndNot .i64 ((2^P:Nat):Int) 1=((FJ (2^P) 1:Nat):Int):=ZQ (b:=1) (by omega) (by omega)
 have x6:iAnd .i64 (O:Int) (M:Int)=((O &&& M:Nat):Int):=mL (by omega) (by omega)
 have x7:iAndNot .i64 (O:Int) (M:Int)=((FJ O M:Nat):Int):=ZQ hO hM
 have x8:iOr .i64 (O:Int) (M:Int)=((O ||| M:Nat):Int):=XM (by omega) (by omega)
 have z0:((FJ (M ||| O) 2:Nat):Int)=0↔FJ (M ||| O) 2=0:=by omega
 have z1:((O &&& M:Nat):Int)=(M:Int)↔O &&& M=M:=by omega
 refine⟨?_,?_,?_,?_⟩
 . rw[so]
   simp only[wy,pR];exact⟨λ _=>⟨λ _=>by rw[O1];trivial,λ _=>trivial⟩,λ _=>⟨λ _=>by omega,λ _=>⟨λ _=>by omega,λ _=>trivial⟩⟩⟩
 . rw[ub]
   simp only[pq];exact⟨λ _=>⟨λ _=>trivial,λ _=>⟨λ _=>trivial,λ _=>trivial⟩⟩,λ _=>⟨λ _=>by omega,λ _=>⟨λ _=>by omega,λ _=>trivial⟩⟩⟩
 . rw[sk,vq]
   unfold EA R4;simp only[x1,x2,x3,x4,x5,x6,x7,x8,Bn];generalize Je c=w;simp only[BF,Ba,AG,AD,Bv,CQ,Ev,z0,z1];by_cases k2:kd=2
   . by_cases hc:0<c
     . simp only[k2,hc,decide_true,Gy,Bool.or_false,AL,AQ,AN,Sn];by_cases hw:(cp=true/\w=true)/\c<=26/\FJ (M ||| O) 2=0
       . rw[Ac hw,Ac (by obtain⟨⟨a1,a2⟩,a3,a4⟩:=hw;simp[a1,a2,a3,a4])];obtain⟨⟨a1,a2⟩,a3,a4⟩:=hw;simp[a1,a2]
       . rw[Ae hw,Ae (by intro hh;apply hw;simp at hh;exact⟨⟨hh.1.2,hh.1.1⟩,hh.2⟩)];rw[Bool.and_comm]
     . simp only[k2,hc,decide_true,Gy,decide_false,Bool.not_false,Bool.or_true,AN,AQ]
   . simp only[k2,decide_false,Bool.not_false,Bool.true_or,AN,AQ,AL];by_cases k4:kd=4
     . simp only[k4,decide_true,AN]
     . simp only[k4,decide_false,AQ,AL];by_cases k5:kd=5
       . simp only[k5,decide_true,AN]
       . simp only[k5,decide_false,AQ,AL];by_cases k8:kd=8
         . simp only[k8,decide_true,AN,Ar];split<;>rfl
         . simp only[k8,decide_false,AQ,AL];by_cases k10:kd=10
           . simp only[k10,decide_true,AN]
           . simp only[k10,decide_false,AQ,AL]
 . rw[u9]
   unfold EA R4;simp only[xL,x1,x2,x3,x4,x5,x6,x7,x8,Bn];generalize Je c=w;simp only[BF,Ba,AG,AD,Bv,CQ,Ev,z0,z1];by_cases k2:kd=2
   . by_cases hc:0<c
     . have hc':¬ c=0:=by omega
       simp only[k2,hc,hc',decide_true,decide_false,Gy,Bool.not_false,Bool.or_true,Bool.or_false,AL,AQ,AN,Sn,ite_self];by_cases hw:(cp=true/\w=true)/\c<=26/\FJ (M ||| O) 2=0
       . rw[Ac hw,Ac (by obtain⟨⟨a1,a2⟩,a3,a4⟩:=hw;simp[a1,a2,a3,a4])];rfl
       . rw[Ae hw,Ae (by intro hh;apply hw;simpa using hh)]
     . have hc':c=0:=by omega
       simp only[k2,hc',decide_true,Gy,Bool.or_false,AL,AQ,AN];simp
   . simp only[k2,decide_false,Bool.not_false,Bool.true_or,AN,AQ,AL];by_cases k4:kd=4
     . simp only[k4,decide_true,AN]
     . simp only[k4,decide_false,AQ,AL];by_cases k5:kd=5
       . simp only[k5,decide_true,AN]
       . simp only[k5,decide_false,AQ,AL];by_cases k8:kd=8
         . simp only[k8,decide_true,AN,Ar];split<;>rfl
         . simp only[k8,decide_false,AQ,AL];by_cases k10:kd=10
           . simp only[k10,decide_true,AN]
           . simp only[k10,decide_false,AQ,AL]
theorem Zbz:∀ F:Fin 16,∀ P l:Fin 5,F.val % 2=0->1<=P.val->P.val<l.val->F.val<2^l.val->(F.val ^^^ 2^P.val) % 2=0/\F.val ^^^ 2^P.val<2^l.val:=by decide +kernel
theorem Zc1:∀ P l:Fin 5,P.val<l.val->(FJ (2^P.val) 1) % 2=0/\FJ (2^P.val) 1<2^l.val:=by decide +kernel
end
theorem wF(x:SW):Of x=FQ x:=by
 rw[p7,eO,fb];generalize bNot (iLt (Am _ _ _) _)=L;simp only[AD,AG,Ba,CX,Bv];by_cases h:x.1.1=x.2.1<;>simp[h]
theorem Zv(a b:DY)(h:a.2.length<=1048576):TN (a,b)/\Lg (a,b):=by
 obtain⟨m,a⟩:=a;obtain⟨n,b⟩:=b;rw[p6,p5,rX];have h:a.length<=1048576:=h
 have lp:∀ {c:Int->Bool} {f:Int->Int} {p:Int->Prop},(∀ st,c st=true->st<a.length)->(∀ st,f st=iAdd .i64 st 1)->(∀ st:Int,0<=st->st<=a.length->p st)->LoopOk c f p 0:=λ hc hf hp=>
  IM (λ st=>st) a.length (by omega) (λ st _ _ h=>hc st h) hf hp (by simp) (by simp)
 have cc:∀ {st:Int} {t:Bool},bAnd (iLt st (lLen a)) t=true->st<a.length:=λ {st t} h=>by
  rw[AD,Ap,Ao,Ah,Ar] at h;exact h.1
 have pp:a.length=b.length->∀ st:Int,0<=st->iLt st (lLen a)=true->(((0:Int)<=st/\st<(a.length:Int))/\iNat st<a.length/\((0:Int)<=st/\st<(b.length:Int))/\iNat st<b.length):=λ hl st h0 h1=>by
  rw[Ap,Ao,Ar] at h1;rw[Ax];omega
 refine⟨⟨λ _=>trivial,λ hb=>?_⟩,λ _=>⟨λ _=>trivial,λ hb=>?_⟩,λ _=>trivial⟩
 . simp only[Ba,CX,Ao,Ca,CJ,Ar] at hb;exact lp (λ st hc=>cc hc) (λ _=>rfl) (λ st h0 h1=>⟨pp (by omega) st h0,λ _=>trivial⟩)
 . simp only[CX,Ao,CJ,Ar] at hb;exact lp (λ st hc=>cc hc) (λ _=>rfl) (λ st h0 h1=>⟨pp (by omega) st h0,λ _=>trivial⟩)
section
set_option maxRecDepth 20000
abbrev B3:=Int×List Int
theorem Zf(a b:B3)(h:a.2.length<=1048576):FQ (a,b)=decide (a=b):=by
 obtain⟨m,x⟩:=a;obtain⟨n,y⟩:=b;simp only at h;rw[eO,fb];simp only
 rw[Si (c:=λ x0=>bAnd (iLt x0 (lLen x)) (bNot (iNe (lGet x (iNat x0) 0) (lGet y (iNat x0) 0)))) (f:=λ x0=>iAdd .i64 x0 1) x.length (λ i=>!decide (x.getD i 0=y.getD i 0)) (by omega)
  (λ i hi=>by simp only[AD,AG,CX,Ap,Ao,A8,Ax,Bn,G6,Sn]) (λ i hi=>rfl)]
 have hall:=O4 (t:=λ i=>!decide (x.getD i 0=y.getD i 0)) (n:=x.length);have hle:=Jr (λ i=>!decide (x.getD i 0=y.getD i 0)) x.length 0;generalize CO (λ i=>!decide (x.getD i 0=y.getD i 0)) x.length 0=q at hall hle;simp only[AD,AG,CX,Bv,Ap,Ao,Sn];rw[JN];simp only[Ah,BC,Ar,Bo,Al];constructor
 . rintro⟨h1,h2,h3⟩;refine⟨h1,ck (by omega) λ i hi hj=>?_⟩;have:=(hall.1 (by omega)) i hi;rw[CJ,Ar,F5 x 0 hi,F5 y 0 hj] at this;exact this
 . rintro⟨rfl,rfl⟩
   have:=hall.2 λ i hi=>by simp
   refine⟨rfl,rfl,by omega⟩
theorem lg {α S T:Type} {c:S×Int×T->Bool} {f:S×Int×T->S×Int×T} {p:S×Int×T->Prop} (x:List α) (d:α) (g:S×T->α->S×T) (s0:S×T) (hl:x.length<=2097152)
 (hc:∀ (s:S×T) (i:Nat),i<=x.length->c (s.1,(i:Int),s.2)=decide (i<x.length)) (hf:∀ (i:Nat),i<x.length->f (((x.take i).foldl g s0).1,(i:Int),((x.take i).foldl g s0).2)=((g ((x.take i).foldl g s0) (x.getD i d)).1,iAdd .i64 (i:Int) 1,(g ((x.take i).foldl g s0) (x.getD i d)).2))
 (hp:∀ (i:Nat),i<=x.length->p (((x.take i).foldl g s0).1,(i:Int),((x.take i).foldl g s0).2)) :
 LoopOk c f p (s0.1,0,s0.2)/\Am c f (s0.1,0,s0.2)=((x.foldl g s0).1,(x.length:Int),(x.foldl g s0).2):=by
 have:=Iw (c:=c) (f:=f) (p:=p) x.length (λ i=>(((x.take i).foldl g s0).1,(i:Int),((x.take i).foldl g s0).2)) (x0:=(s0.1,0,s0.2)) rfl (λ k hk=>by
  refine⟨hp k (by omega),by rw[hc _ k (by omega)];simpa using hk,?_⟩;rw[hf k hk,Bu (by unfold AO;omega),<- Jt x d hk,List.foldl_append]
  simp) ⟨hp _ (by omega),by rw[hc _ _ (by omega)];simp⟩
 refine⟨this.1,?_⟩
 rw[this.2,HE]
def D7(s:List B3×B3)(r:B3):List B3×B3:=(if s.2=r then s.1 else s.1++[r],r)
def HU(p:B3)(l:List B3):List B3:=(l.foldl D7 ([],p)).1
theorem Zbq(p:List B3×B3)(l:List B3)(r:B3):((l++[r]).foldl D7 p).2=r:=by rw[List.foldl_append];rfl
theorem kO(P:B3->Prop)(p:B3)(hp:P p)(l:List B3)(h:∀ r∈l,P r):(l.foldl D7 ([],p)).1.length<=l.length/\(∀ r∈(l.foldl D7 ([],p)).1,P r)/\P (l.foldl D7 ([],p)).2:=by
 have go : ∀ (l:List B3) (s:List B3×B3),(∀ r∈l,P r)->(∀ r∈s.1,P r)->P s.2->(l.foldl D7 s).1.length<=s.1.length+l.length/\(∀ r∈(l.foldl D7 s).1,P r)/\P (l.foldl D7 s).2:=by
  intro l
  induction l with
  |nil=>intro s _ h2 h3;exact⟨by simp,h2,h3⟩
  | cons a l ih=>
    intro s h1 h2 h3;have ha:=h1 a G9
    have:=ih (D7 s a) (λ r hr=>h1 r (List.mem_cons_of_mem _ hr)) (by
     intro r hr
     unfold D7 at hr
     simp only at hr
     split at hr
     . exact h2 r hr
     . rw[CF,List.mem_singleton] at hr
       rcases hr with hr|rfl
       . exact h2 r hr
       . exact ha) ha
    refine⟨?_,this.2⟩;have h4:=this.1
    have h5:(D7 s a).1.length<=s.1.length+1:=by
     unfold D7;simp only;split
     . omega
     . simp
    rw[List.foldl_cons,AH];omega
 have:=go l ([],p) h (by simp) hp;exact⟨by simpa using this.1,this.2⟩
theorem Zbg(p:B3)(l:List B3)(r:B3):(HU p (l++[r])=[]/\p=r)\/∃ k,HU p (l++[r])=k++[r]:=by
 have go:∀ (l:List B3) (s:List B3×B3),(s.1=[]/\s.2=p\/∃ k,s.1=k++[s.2])->((l.foldl D7 s).1=[]/\(l.foldl D7 s).2=p\/∃ k,(l.foldl D7 s).1=k++[(l.foldl D7 s).2]):=by
  intro l
  induction l with
  |nil=>intro s h;exact h
  | cons a l ih=>
    intro s h;refine ih _ ?_;unfold D7;simp only;by_cases e:s.2=a
    . rw[Ac e,<- e];exact h
    . rw[Ae e];exact .inr ⟨_,rfl⟩
 have:=go (l++[r]) ([],p) (.inl ⟨rfl,rfl⟩);rw[Zbq] at this;rcases this with⟨h1,h2⟩|h
 . exact .inl ⟨h1,h2.symm⟩
 . exact .inr h
def IZ(r:B3):Prop:=r.2.length<=1048576
theorem iT(p:B3)(l:List B3)(hp:IZ p)(hl:l.length<=2097152)(h:∀ r∈l,IZ r) :
 Qz (p,l)/\Qp (p,l)/\QD (p,l)=HU p l/\Qq (p,l)=HU p l:=by
 have g1:∀ i:Nat,lGet l (iNat (i:Int)) (0,[])=l.getD i (0,[]):=λ i=>by rw[A8,Ax,Bn]
 have inv:=λ i:Nat=>kO IZ p hp (l.take i) λ r hr=>h r (KU hr)
 have len:∀ i:Nat,(l.take i).length<=2097152:=λ i=>by rw[Eu];omega
 have cp:∀ r:B3,Re r=r:=λ r=>by rw[uM,BE,CW]
 have fs:∀ (s:List B3×B3) (r:B3),IZ s.2->bSel (bNot (FQ (s.2,r))) (s.1++[r]) s.1=(D7 s r).1:=λ s r hs=>by
  rw[Zf _ _ hs,BF,AG];unfold D7;by_cases e:s.2=r
  . simp[e]
  . simp[e]
 obtain⟨a1,a2⟩:=lg (c:=TJ (p,l)) (f:=TK (p,l)) (p:=Ys (p,l)) l (0,[]) D7 ([],p) hl
  (λ s i hi=>by simp only[TJ,Ap,Ao,G6])
  (λ i hi=>by
   obtain⟨_,_,i3⟩:=inv i;have:=fs _ (l.getD i (0,[])) i3;simp only[TK,g1,wF,cp,BE]
   rw[this];rfl) (λ i hi=>by
   obtain⟨i1,_,i3⟩:=inv i;have li:=len i;simp only[Ys,g1,Ap,Ao,Ar];refine⟨λ hlt=>?_,λ _=>trivial⟩;have hm:=h _ (DK l i (0,[]) (by omega));have hb:((0:Int)<=(i:Int)/\(i:Int)<(l.length:Int))/\iNat (i:Int)<l.length:=⟨⟨by omega,hlt⟩,by rw[Ax];omega⟩;refine⟨⟨hb.1,hb.2,(Zv _ _ i3).1,⟨λ _=>⟨hb.1,hb.2,?_,?_⟩,λ _=>trivial⟩⟩,hb⟩
   . rw[vf];unfold Av IZ at *;simp only[AJ];omega
   . unfold Av;simp only[AH,AJ];omega)
 obtain⟨b1,b2⟩:=lg (c:=Tw (p,l)) (f:=Tv (p,l)) (p:=Yp (p,l)) l (0,[]) D7 ([],p) hl
  (λ s i hi=>by simp only[Tw,Ap,Ao,G6])
  (λ i hi=>by
   obtain⟨_,_,i3⟩:=inv i;have:=fs _ (l.getD i (0,[])) i3;simp only[Tv,g1,BE];rw[this]
   simp only[BF,ite_self];rfl) (λ i hi=>by
   obtain⟨i1,_,i3⟩:=inv i;have li:=len i;simp only[Yp,g1,Ap,Ao,Ar];refine⟨λ hlt=>?_,λ _=>trivial⟩;refine⟨⟨by omega,hlt⟩,by rw[Ax];omega,(Zv _ _ i3).2,λ _=>?_,λ _=>trivial⟩
   unfold Av;simp only[AH,AJ];omega)
 rw[qw,oZ,ql,oX]
 exact⟨a1,b1,by rw[a2];rfl,by rw[b2];rfl⟩
end
theorem Ws (x):Ft x=BS x:=by rw[tT,gC]
theorem RB(x:HQ)(h:x.1.2.2.2.2.1.length<=1048576):Q6 x/\Km x:=by
 rw[uX,um]
 have:∀ {c:Int->Bool} {f:Int->Int} {p:Int->Prop},(∀ st,c st=true->st<x.1.2.2.2.2.1.length)->(∀ st,f st=iAdd .i64 st 1)->(∀ st:Int,0<=st->st<=x.1.2.2.2.2.1.length->p st)->LoopOk c f p 0:=λ hc hf hp=>
  IM (λ st=>st) x.1.2.2.2.2.1.length (by omega) (λ st _ _ h=>hc st h) hf hp (by simp) (by simp)
 constructor
 all_goals
  refine this (λ st hc=>?_) (λ _=>rfl) (λ st h0 h1=>⟨λ hlt=>?_,λ _=>trivial⟩)
  . rw[AD,Ap,Ao,Ah,Ar] at hc;exact hc.1
  . rw[Ap,Ao,Ar] at hlt
    exact⟨⟨h0,hlt⟩,by rw[Ax];omega⟩
theorem vp(k:Int)(x:DU)(on key:Int)(hs:Gp (k,x))(h:¬ BR ((k,x),on,key)<0) :
 MapOk k x/\Ea (k,x)=true/\0<=key/\key<k/\0<=BR ((k,x),on,key)/\BR ((k,x),on,key)<x.length:=by
 rw[BR.eq_1,BF] at h ⊢
 by_cases hb:bOr (bNot (Ea (k,x))) (bOr (iLt key 0) (iGe key k))=true
 . rw[Ac hb] at h;exact absurd (by decide) h
 . rw[Ae hb] at h ⊢
   simp only[Ap,CM,AG,Ba,Gz,Ca,CJ,Bo] at hb;obtain⟨hk,h0,h1⟩:=hb;have m:=GW hs hk;refine⟨m,hk,by omega,by omega,by omega,?_⟩;rw[Zb]
   have:=m.l1;have:=m.l2
   have hv:∀ {c:Int->Bool} {f:Int->Int},(∀ st,c st=true->0<st)->(∀ st,f st=iSub .i64 st 1)->bSel (iGt (Am c f (iSub .i64 (lLen x) 1)) 0) (Am c f (iSub .i64 (lLen x) 1)) 0<x.length:=by
    intro c f hc hf
    have:=(MZ (c:=c) (f:=f) (λ st:Int=>0<=st/\st<x.length) (λ st=>st.toNat) (λ st hI hcc=>by
     have:=hc st hcc;rw[hf,Er (by unfold AO;omega)]
     omega) (x0:=iSub .i64 (lLen x) 1) (by rw[Ao,Er (by unfold AO;omega)];omega)).1
    rw[BF];split<;>omega
   exact hv (λ st hc=>by rw[AD,CQ,Ah,Ar] at hc;exact hc.1) (λ st=>rfl)
theorem xt(k:Int)(x:DU)(on key:Int)(hs:Gp (k,x)):UH ((k,x),on,key)=Ji ((k,x),on,key):=by
 rw[sn,Ji];simp only[jz k x on key hs]
theorem xr(k:Int)(x:DU)(on key:Int)(hs:Gp (k,x)):Ui ((k,x),on,key)/\fw ((k,x),on,key):=by
 obtain⟨o1,o2⟩:=jE k x on key hs;rw[qP,fw];simp only[jz k x on key hs]
 have fin:iLt (BR ((k,x),on,key)) 0=false->(((0:Int)<=BR ((k,x),on,key)/\BR ((k,x),on,key)<(x.length:Int))/\iNat (BR ((k,x),on,key))<x.length/\((0:Int)<=key/\key<((lGet x (iNat (BR ((k,x),on,key))) []).length:Int))/\iNat key<(lGet x (iNat (BR ((k,x),on,key))) []).length):=by
  intro h;rw[Ap,Bo] at h;obtain⟨m,_,h0,h1,h2,h3⟩:=vp k x on key hs h;have:=m.row (BR ((k,x),on,key)).toNat (by omega);rw[A8,Ax,Ax];omega
 exact⟨⟨o1,λ _=>trivial,fin⟩,o2,λ _=>trivial,fin⟩
theorem jL{c:Int->Bool}{f:Int->Int}{n:Nat}(hn:n<=1048576)(h1:∀ i:Nat,i<n->c i=true)(h2:c n=false)(h3:∀ i:Int,f i=iAdd .i64 i 1):Am c f 0=(n:Int):=
 (Iw (p:=λ _=>True) n (λ i=>(i:Int)) rfl (λ i hi=>⟨trivial,h1 i hi,by rw[h3,Bu (by unfold AO;omega)];omega⟩) ⟨trivial,h2⟩).2
theorem kI{k:Int}{x:List Hc}(h:MapOk k x):Ea (k,x)=true:=by
 obtain⟨k1,k2,l1,l2,row,act⟩:=h;rw[YV];rw[jL (n:=x.length) (by omega) ?_ ?_ λ _=>rfl]
 . simp only[AD,AG,Ba,Ap,CQ,Ao];simp;omega
 . intro i hi
   have e:lGet x (iNat (i:Int)) []=x.getD i []:=by rw[A8,Ax,Bn]
   have hr:=row i hi;rw[jL (n:=(x.getD i []).length) (by omega) ?_ ?_ λ _=>rfl]
   . simp only[e,AD,AG,Ap,CX,Ao,hr];simp;omega
   . intro j hj;have hact:=act i j hi hj
     have e2:lGet (x.getD i []) (iNat (j:Int)) (0,0,0,0)=(x.getD i []).getD j (0,0,0,0):=by rw[A8,Ax,Bn]
     simp only[e,e2,AD,AG,Ba,BF,Ap,Bv,CX,CM,Ao];generalize (x.getD i []).getD j (0,0,0,0)=a at hact ⊢;obtain⟨a1,a2,a3⟩:=hact;rw[a1]
     have hj':(j:Int)<((x.getD i []).length:Int):=by omega
     simp only[hj',decide_true,NB,Gy,Bool.false_or]
     have h10:(!decide (a.1=9)&&decide ((x.length:Int)<=a.2.2.2))=false:=by
      by_cases h9:a.1=9
      . rw[Iy h9];rfl
      . have:=a3 h9;rw[DP (by omega:¬ (x.length:Int)<=a.2.2.2),Bool.and_false]
     by_cases hz:i=0
     . have:=a2 hz;rw[h10,DP this];simp
     . rw[h10];simp[hz]
   . simp only[e,AD,Ap,Ao];simp
 . simp only[AD,Ap,Ao];simp
def Zdy(n:Int)(i:Int)(a:CH):Prop:=Bt a=true/\(i=0->a.1≠1)/\(a.1≠9->a.2.2.2<n)
def XZ(k n:Int)(i:Int)(r:Hc):Prop:=(r.length:Int)=k/\∀ a∈r,Zdy n i a
def Sw(k n:Int)(x:DU):Prop:=∀ i:Nat,i<x.length->XZ k n i (x.getD i [])
theorem ZaF{k:Int}{x:List Hc}(k1:1<=k)(k2:k<=32)(l1:1<=x.length)(l2:x.length<=4)(h:Sw k x.length x):MapOk k x:=
 ⟨k1,k2,l1,l2,λ i hi=>(h i hi).1,λ i j hi hj=>by
  obtain⟨a,b,c⟩:=(h i hi).2 _ (DK _ j (0,0,0,0) hj)
  exact⟨a,λ e=>b (by omega),c⟩⟩
theorem zm{k n:Int}{x:List Hc}{r:List CH}(h:Sw k n x)(hr:XZ k n x.length r):Sw k n (x++[r]):=by
 intro i hi;simp only[Cq,AH,AJ] at hi;by_cases hl:i<x.length
 . rw[Ee,Bx hl,<- Ee];exact h i hl
 . have:i=x.length:=by omega
   subst this;rw[Ee,Db (BI _)];simpa using hr
theorem zy(c:CB)(k:Int)(x0:NG)(h:B5 (c.1,x0.2.2))(k0:0<=k)(k2:k<=32)(hn:1<=iAdd .i64 1 (As (c,4)).1/\iAdd .i64 1 (As (c,4)).1<=4) :
 LoopOk (Ie (c,k)) (Jf (c,k) x0) (T8 (c,k) x0) ([],0,x0.2.2) /\
 XZ k (iAdd .i64 1 (As (c,4)).1) x0.1 (Am (Ie (c,k)) (Jf (c,k) x0) ([],0,x0.2.2)).1 /\
 B5 (c.1,(Am (Ie (c,k)) (Jf (c,k) x0) ([],0,x0.2.2)).2.2):=by
 have key:=LR (c:=Ie (c,k)) (f:=Jf (c,k) x0) (p:=T8 (c,k) x0)
  (λ st=>B5 (c.1,st.2.2)/\0<=st.2.1/\st.2.1<=k/\XZ st.2.1 (iAdd .i64 1 (As (c,4)).1) x0.1 st.1) (λ st=>(k-st.2.1).toNat) (λ st hI=>by
  obtain⟨r,j,cu⟩:=st
  obtain⟨i0,i1,i2,i3,i4⟩:=hI
  simp only at i0 i1 i2 i3 i4
  have s1:iAdd .i64 j 1=j+1:=Bu (by unfold AO;omega)
  unfold T8 Jf Ie
  simp only[s1,BE,Ap,CQ,AD,Ar]
  generalize iAdd .i64 1 (As (c,4)).1=n at hn i4 ⊢
  obtain⟨d1,d2,d3,d4⟩:=ZbJ (c.1,cu) n i0 hn.1 hn.2
  generalize Cn ((c.1,cu),n)=D at d2 d3 d4 ⊢
  obtain⟨o1,o2⟩:=WX (c.1,D.2) 3 d2
  simp only at o2
  generalize Cu ((c.1,D.2),3)=O at o2 ⊢
  refine⟨⟨λ hc=>⟨d1,⟨λ _=>o1,λ _=>trivial⟩,?_⟩,λ _=>trivial⟩,λ hc=>⟨⟨?_,by omega,by omega,by simp only[Cq,AH,AJ];omega,?_⟩,by omega⟩⟩
  . unfold Av;simp only[AH,AJ];omega
  . simp only[BF]
    by_cases hx:0<x0.1
    . simp only[hx,decide_true,AN,NB,ite_self];exact o2
    . simp only[hx,decide_false,XR,AL,AQ];exact d2
  . intro a ha
    rw[CF,List.mem_singleton] at ha;rcases ha with ha|rfl
    . exact i4 a ha
    . simp only[BF];split
      . rename_i hb;rw[Ah,Ar] at hb;exact⟨(DA 1 0 0 0).2 (by omega),λ h=>by omega,λ _=>by simp only;omega⟩
      . exact⟨d3.1,λ _=>d3.2,d4⟩) (x0:=([],0,x0.2.2)) ⟨h,by simp,k0,by simp,by simp⟩
 obtain⟨q1,⟨q2,q3,q4,q5⟩,q6⟩:=key
 refine⟨q1,?_,q2⟩
 generalize Am (Ie (c,k)) (Jf (c,k) x0) ([],0,x0.2.2)=st at *
 unfold Ie at q6
 simp only[Ap,Bo] at q6
 have:st.2.1=k:=by omega
 rw[this] at q5
 exact q5
theorem Zas(c:CB)(k:Int)(h:B5 c)(k0:1<=k)(k2:k<=32) :
 OG (c,k)/\B5 (c.1,(It (c,k)).2)/\MapOk k (It (c,k)).1.2/\(It (c,k)).1.1=k:=by
 rw[uC,u6]
 obtain⟨b1,b2,_,b4⟩:=Fx c 4 h
 have b4:=b4 (by omega)
 have hn:1<=iAdd .i64 1 (As (c,4)).1/\iAdd .i64 1 (As (c,4)).1<=4:=by rw[Bu (by unfold AO;omega)];omega
 have key:=LR (c:=MJ (c,k)) (f:=Ou (c,k)) (p:=YL (c,k))
  (λ st=>B5 (c.1,st.2.2)/\0<=st.1/\st.1<=iAdd .i64 1 (As (c,4)).1/\(st.2.1.length:Int)=st.1/\Sw k (iAdd .i64 1 (As (c,4)).1) st.2.1) (λ st=>(iAdd .i64 1 (As (c,4)).1-st.1).toNat) (λ st hI=>by
  obtain⟨i,x,cu⟩:=st
  obtain⟨i0,i1,i2,i3,i4⟩:=hI
  simp only at i0 i1 i2 i3 i4
  have s1:iAdd .i64 i 1=i+1:=Bu (by unfold AO;omega)
  obtain⟨r1,r2,r3⟩:=zy c k (i,x,cu) i0 (by omega) k2 hn
  unfold YL Ou MJ
  simp only[s1,BE,Ap,Ar] at r1 r2 r3 ⊢
  refine⟨⟨λ hc=>⟨r1,?_⟩,λ _=>trivial⟩,λ hc=>⟨⟨r3,by omega,by omega,by simp only[Cq,AH,AJ];omega,zm i4 (by rw[i3];exact r2)⟩,by omega⟩⟩
  unfold Av;simp only[AH,AJ];omega) (x0:=(0,[],(As (c,4)).2)) ⟨b2,by simp,by simp only;omega,by simp,λ i hi=>by simp at hi⟩
 obtain⟨q1,⟨q2,q3,q4,q5,q6⟩,q7⟩:=key
 generalize Am (MJ (c,k)) (Ou (c,k)) (0,[],(As (c,4)).2)=st at *
 unfold MJ at q7
 simp only[Ap,Bo] at q7
 have e:st.1=iAdd .i64 1 (As (c,4)).1:=by omega
 have l1:1<=st.2.1.length:=by omega
 have l2:st.2.1.length<=4:=by omega
 refine⟨⟨b1,q1⟩,q2,ZaF k0 k2 l1 l2 ?_,rfl⟩
 show Sw k (st.2.1.length:Int) st.2.1
 rw[q5,e];exact q6
theorem j3(x:Bb)(k:Int)(h:x.length<=1048576):MO (x,k)/\B5 (Jn (x,k)):=by
 rw[uF,vk];obtain⟨n1,n2,n3⟩:=ZcH x h;exact⟨n1,n2⟩
theorem hZ(x:Bb)(p n:Int)(h:x.length<=1048576)(hn:0<n):Qw (x,p,n)/\0<=DZ (x,p,n)/\DZ (x,p,n)<n:=by
 rw[pP,pW];obtain⟨a1,a2⟩:=j3 x p h;obtain⟨b1,b2,_,b4⟩:=Fx _ n a2;exact⟨⟨a1,b1⟩,b4 hn⟩
theorem Zc8{k:Int}{x:List Hc}(h:MapOk k x):Gp (k,x):=by
 have:=h.k2;have:=h.l2;refine⟨⟨by show x.length<=1048576;omega,λ r hr=>?_⟩,trivial⟩;obtain⟨i,hi,rfl⟩:=List.mem_iff_getElem.1 hr;have:=h.row i hi;rw[Ee,Bf hi,Hs] at this;exact⟨by omega,λ a _=>by simp[Z2]⟩
theorem y7(T:Int->Bool){c:Int->Bool}{f:Int->Int}{n:Nat}(h1:1<=n)(h2:n<=4)(hc:∀ st,c st=(decide (0<st)&&!T st))(hf:∀ st,f st=iSub .i64 st 1) :
 0<=Am c f ((n:Int)-1)/\Am c f ((n:Int)-1)<n/\(0<Am c f ((n:Int)-1)->T (Am c f ((n:Int)-1))=true)/\∀ p:Int,Am c f ((n:Int)-1)<p->p<n->T p=false:=by
 have key:=MZ (c:=c) (f:=f) (λ st:Int=>0<=st/\st<n/\∀ p:Int,st<p->p<n->T p=false) (λ st=>st.toNat) (λ st hI hcc=>by
  obtain⟨i1,i2,i3⟩:=hI;rw[hc,Ah,Ar,BC] at hcc;rw[hf,Er (by unfold AO;omega)];refine⟨⟨by omega,by omega,λ p p1 p2=>?_⟩,by omega⟩;by_cases e:p=st
  . rw[e];exact hcc.2
  . exact i3 p (by omega) p2) (x0:=(n:Int)-1) ⟨by omega,by omega,λ p p1 p2=>by omega⟩
 obtain⟨⟨k1,k2,k3⟩,k4⟩:=key
 refine⟨k1,k2,λ h0=>?_,k3⟩
 rw[hc,Iy h0,NB,CJ] at k4
 exact k4
theorem ik{k:Int}{x:List Hc}(hm:MapOk k x)(on key:Int)(h0:0<=key)(h1:key<k) :
 0<=BR ((k,x),on,key)/\BR ((k,x),on,key)<x.length /\
 (0<BR ((k,x),on,key)->iAnd .i64 (iShr .i64 on (BR ((k,x),on,key))) 1=1/\((x.getD (BR ((k,x),on,key)).toNat []).getD key.toNat (0,0,0,0)).1≠1) /\
 ∀ p:Int,BR ((k,x),on,key)<p->p<x.length->¬ (iAnd .i64 (iShr .i64 on p) 1=1/\((x.getD p.toNat []).getD key.toNat (0,0,0,0)).1≠1):=by
 have l1:=hm.l1
 have l2:=hm.l2
 rw[BR.eq_1,BF,kI hm]
 have hb:bOr (bNot true) (bOr (iLt key 0) (iGe key k))=false:=by
  rw[Ba,Ba,AG,Ap,CM,DP (by omega),DP (by omega)];rfl
 simp only[hb,AL,AQ]
 rw[Zb]
 simp only
 rw[Ao,Er (by unfold AO;omega)]
 obtain⟨q1,q2,q3,q4⟩:=y7 (n:=x.length) (λ st=>decide (iAnd .i64 (iShr .i64 on st) 1=1)&&!decide (((x.getD st.toNat []).getD key.toNat (0,0,0,0)).1=1)) (c:=fun(x0:Int)=>(bAnd (iGt x0 0) (bNot (bAnd (iEq (Eo (on,x0)) 1) (iNe (lGet (lGet x (iNat x0) []) (iNat key) (0,0,0,0)).1 1))))) (f:=fun(x0:Int)=>(iSub .i64 x0 1)) l1 l2
  (λ st=>by simp only[AD,AG,CQ,Bv,CX,VS,A8,Ax]) (λ st=>rfl)
 generalize Am _ _ ((x.length:Int)-1)=st at *
 have e:bSel (iGt st 0) st 0=st:=by rw[BF,CQ];split<;>simp_all<;>omega
 rw[e]
 simp only[Ah,BC,Ar,Bo,Gb,CJ] at q3 q4
 refine⟨q1,q2,q3,λ p p1 p2 h=>?_⟩
 rcases q4 p p1 p2 with h4|h4
 . exact h4 h.1
 . exact h.2 h4
theorem mh{a b:List Int}(ha:a.Pairwise (· < ·))(hb:b.Pairwise (· < ·))(h:∀ x,x∈a↔x∈b):a=b:=by
 induction a generalizing b with
 | nil=>
   cases b with
   |nil=>rfl
   |cons y b=>exact absurd ((h y).2 G9) List.not_mem_nil
 | cons x a ih=>
   cases b with
   |nil=>exact absurd ((h x).1 G9) List.not_mem_nil
   | cons y b=>
     obtain⟨a1,a2⟩:=List.pairwise_cons.1 ha;obtain⟨b1,b2⟩:=List.pairwise_cons.1 hb
     have e:x=y:=by
      rcases Cz.1 ((h x).1 G9) with e|e
      . exact e
      . rcases Cz.1 ((h y).2 G9) with g|g
        . exact g.symm
        . have:=a1 _ g;have:=b1 _ e;omega
     subst e;congr 1
     refine ih a2 b2 λ z=>⟨λ hz=>?_,λ hz=>?_⟩
     . rcases Cz.1 ((h z).1 (List.mem_cons_of_mem _ hz)) with e|e
       . subst e;have:=a1 _ hz;omega
       . exact e
     . rcases Cz.1 ((h z).2 (List.mem_cons_of_mem _ hz)) with e|e
       . subst e;have:=b1 _ hz;omega
       . exact e
theorem mr {α:Type} {c:Int->Bool} {f:Int->Int} {p:Int->Prop} (x:List α) (d:α) (q:α->Bool) (hl:x.length<=1048576)
 (hc:∀ i:Nat,i<=x.length->c (i:Int)=(decide (i<x.length)&&!q (x.getD i d))) (hf:∀ i:Nat,i<x.length->f (i:Int)=iAdd .i64 (i:Int) 1) (hp:∀ i:Nat,i<=x.length->p (i:Int)) :
 LoopOk c f p 0/\iLt (Am c f 0) (lLen x)=x.any q:=by
 obtain⟨h1,k,hk,h2,h3⟩:=Zct (c:=c) (f:=f) (p:=p) (x0:=0) x.length (λ i=>(i:Int)) (λ i=>!q (x.getD i d)) rfl (λ i hi _=>hc i hi) (λ i hi _=>by rw[hf i hi,Bu (by unfold AO;omega)];simp) (λ i hi _=>hp i hi)
 refine⟨h1,?_⟩
 rw[h2,Ap,Ao,JN,Ar,List.any_eq_true]
 constructor
 . intro h
   have h4:¬ ∀ i,i<x.length->(!q (x.getD i d))=true:=λ hh=>by have:=h3.2 hh;omega
   simp only[Classical.not_forall,BC,IW] at h4;obtain⟨i,hi,g⟩:=h4;exact⟨_,DK x i d hi,g⟩
 . rintro⟨a,ha,g⟩
   obtain⟨i,hi,rfl⟩:=IF ha
   have h5:k≠x.length:=λ e=>by
    have:=h3.1 e i hi;rw[F5 x d hi,g] at this;exact absurd this (by decide)
   omega
theorem zB(l:Bb)(v:Int)(hl:l.length<=1048576):UZ (l,v)/\OW (l,v)=decide (v∈l):=by
 rw[uV,u5]
 obtain⟨h1,h2⟩:=mr (c:=Uf (l,v)) (f:=YN) (p:=YW (l,v)) l 0 (λ a=>decide (a=v)) hl
  (λ i hi=>by simp only[Uf,AD,Ap,Ao,AG,Bv,A8,Ax,Bn,G6])
  (λ i hi=>rfl) (λ i hi=>by
   simp only[YW,Ap,Ao,Ax,Bn,Ar]
   exact⟨λ h=>⟨⟨by omega,by omega⟩,by omega⟩,λ _=>trivial⟩)
 refine⟨h1,?_⟩;rw[h2,JN,List.any_eq_true,Ar];constructor
 . rintro⟨a,ha,g⟩;rw[Ar] at g;exact g▸ha
 . intro h;exact⟨v,h,by simp⟩
def ZcA(C l:Bb):Prop:=l.Pairwise (· < ·)/\∀ z,z∈l↔(z∈C/\z≠0)
theorem ZaQ{α:Type}(x:List α)(d:α){i:Nat}(h:i<x.length)(z:α):z∈x.take (i+1)↔z∈x.take i\/z=x.getD i d:=by
 rw[<- Jt x d h,CF,List.mem_singleton]
theorem Zca{α:Type}(x:List α){i:Nat}{z:α}(h:z∈x.take i):∃ j,∃ (hj:j<x.length),j<i/\z=x[j]:=by
 obtain⟨j,hj,rfl⟩:=IF h;rw[Eu] at hj;exact⟨j,by omega,by omega,List.getElem_take ..⟩
theorem jx(C:Bb)(hl:C.length<=1048576):QQ C/\ZcA C (LA C)/\(LA C).length<=C.length:=by
 rw[tx,sT];simp only[e9,Ua,DMk.ok]
 have hs:(D1 C 0).1=Dn C:=by rw[gU]
 have hsl:=Z3 C
 have hso:(Dn C).Pairwise (λ a b=>a<=b):=by
  have:=List.pairwise_mergeSort (le:=λ x y:Int=>decide (x<=y)) (by simp;intros;omega) (by simp;intros;omega) C;exact this.imp (by simp)
 have hmem:∀ z,z∈Dn C↔z∈C:=λ z=>(List.mergeSort_perm C _).mem_iff
 generalize Dn C=S at hs hsl hso hmem
 have key := Pv (c:=QA C) (f:=TV C) (p:=YF C) (x0:=([],0))
  (λ st=>∃ i:Nat,st.2=(i:Int)/\i<=S.length/\st.1.length<=i/\st.1.Pairwise (· < ·)/\∀ z,z∈st.1↔(z∈S.take i/\z≠0)) (λ st=>S.length-st.2.toNat) (by
  rintro⟨l,n⟩ ⟨i,h1,hi,hli,hp,hm⟩
  simp only at h1 hli hp hm
  subst h1
  simp only[QA,TV,YF,Ua,hs,Ap,Ao,A8,Ax,Bn,Ar]
  generalize hv:S.getD i 0=v
  obtain⟨g1,g2⟩:=zB l v (by omega)
  have r1:Av ((l.length+[v].length)*1):=by unfold Av;simp only[AH,AJ];omega
  refine⟨⟨λ h=>⟨⟨by omega,by omega⟩,by omega,⟨λ _=>g1,λ _=>trivial⟩,⟨λ _=>r1,λ _=>trivial⟩⟩,λ _=>trivial⟩,λ h=>?_⟩
  have hi':i<S.length:=by omega
  refine⟨⟨i+1,by rw[Bu (by unfold AO;omega)];simp,by omega,?_,?_,?_⟩,by rw[Bu (by unfold AO;omega)];omega⟩
  . rw[BF,BE];split
    . simp only[Cq,AH,AJ];omega
    . omega
  . rw[BF,BE];split
    . next hb=>
      rw[AD,AG,g2,Ah,CX] at hb;obtain⟨b1,b2⟩:=hb;simp only[BC,Bo] at b2;refine List.pairwise_append.2 ⟨hp,List.pairwise_singleton _ _,λ a ha b hb=>?_⟩;rw[List.mem_singleton] at hb;subst hb;obtain⟨j,hj,hji,e⟩:=Zca S ((hm a).1 ha).1;have hle:=List.pairwise_iff_getElem.1 hso j i hj hi' hji;rw[<- F5 S 0 hi',hv] at hle
      have:a≠b:=λ e=>b2 (e▸ha)
      omega
    . exact hp
  . intro z
    rw[ZaQ S 0 hi',hv,BF,BE];split
    . next hb=>
      rw[AD,AG,g2,Ah,CX] at hb;obtain⟨b1,b2⟩:=hb
      have b1:v≠0:=by simpa using b1
      rw[CF,List.mem_singleton,hm];constructor
      . rintro(⟨h3,h4⟩|e)
        . exact⟨.inl h3,h4⟩
        . exact⟨.inr e,e▸b1⟩
      . rintro⟨h3|e,h4⟩
        . exact .inl ⟨h3,h4⟩
        . exact .inr e
    . next hb=>
      rw[AD,AG,g2,Ah,CX] at hb;rw[hm];constructor
      . rintro⟨h3,h4⟩;exact⟨.inl h3,h4⟩
      . rintro⟨h3|e,h4⟩
        . exact⟨h3,h4⟩
        . subst e
          have hz:z∈l:=by
           refine Classical.byContradiction λ hn=>hb ⟨by simpa using h4,by simpa using hn⟩
          exact(hm z).1 hz) ⟨0,rfl,GC _,BI _,List.Pairwise.nil,by simp⟩
 obtain⟨k1,⟨i,k2,k3,k4,k5,k6⟩,k7⟩:=key;simp only[QA,Ua,hs,k2,Ap,Ao,Bo] at k7
 have:i=S.length:=by omega
 subst this;rw[HE] at k6;refine⟨⟨by unfold Av;omega,⟨trivial,by rw[gV];show C.length<4611686018427387904;omega⟩,k1⟩,⟨k5,λ z=>by rw[k6,hmem]⟩,by omega⟩
theorem Zp{a:Int×Int×Int×Int}(h:Bt a=true):0<=a.2.1/\a.2.1<=56:=by
 rw[QI] at h;simp only[BF,Ba,AD,Bv,CX,U1,CM,Ev] at h
 repeat' split at h
 all_goals simp only[Ah,Cp,BC,CJ,Gb,Ca,Ar,Bo,Gz,IW,A0,Jv] at *
 all_goals omega
def CA(x:B4):List Int:=x.map λ a=>a.2.2.1
theorem jA(x:B4){i:Nat}(h:i<x.length):(CA x).getD i 0=(x.getD i (0,0,0,0,0)).2.2.1:=by
 rw[F5 x _ h,F5 (CA x) 0 (by simpa [CA] using h)];simp[CA]
theorem ll(x:B4)(hl:x.length<=1048576) :
 LoopOk J3 (Lj x) (Yx x) (1,[])/\(Am J3 (Lj x) (1,[])).2.Pairwise (· < ·)/\∀ z,z∈(Am J3 (Lj x) (1,[])).2↔(z∈CA x/\1<=z/\z<=56):=by
 have inner:∀ (c:Int) (l:Bb),l.length<=60->LoopOk (Oa x (c,l)) Qt (TQ x (c,l)) 0/\iLt (Am (Oa x (c,l)) Qt 0) (lLen x)=decide (c∈CA x):=by
  intro c l hll
  obtain⟨h1,h2⟩:=mr (c:=Oa x (c,l)) (f:=Qt) (p:=TQ x (c,l)) x (0,0,0,0,0) (λ a=>decide (a.2.2.1=c)) hl
   (λ i hi=>by simp only[Oa,AD,Ap,Ao,AG,Bv,A8,Ax,Bn,G6])
   (λ i hi=>rfl) (λ i hi=>by
    have r1:Av ((l.length+[c].length)*1):=by unfold Av;simp only[AH,AJ];omega
    simp only[TQ,Ap,Ao,Ax,Bn,Ar]
    exact⟨λ h=>⟨⟨by omega,by omega⟩,by omega,λ _=>r1,λ _=>trivial⟩,λ _=>trivial⟩)
  refine⟨h1,?_⟩;rw[h2,JN,List.any_eq_true,Ar,CA,List.mem_map];simp only[Ar]
 have key:=Pv (c:=J3) (f:=Lj x) (p:=Yx x) (x0:=(1,[]))
  (λ st=>1<=st.1/\st.1<=57/\(st.2.length:Int)<st.1/\st.2.Pairwise (· < ·)/\∀ z,z∈st.2↔(z∈CA x/\1<=z/\z<st.1)) (λ st=>57-st.1.toNat) (by
  rintro⟨c,l⟩ ⟨h1,h2,h3,h4,h5⟩
  simp only at h1 h2 h3 h4 h5
  obtain⟨i1,i2⟩:=inner c l (by omega)
  refine⟨⟨λ _=>i1,λ _=>trivial⟩,λ h=>?_⟩
  simp only[J3,Ev,Ar] at h
  have s1:iAdd .i64 c 1=c+1:=Bu (by unfold AO;omega)
  simp only[Lj,s1,i2,BF,BE,Ar]
  refine⟨⟨by omega,by omega,?_,?_,λ z=>?_⟩,by omega⟩
  . split
    . simp only[Cq,AH,AJ];omega
    . omega
  . split
    . refine List.pairwise_append.2 ⟨h4,List.pairwise_singleton _ _,λ a ha b hb=>?_⟩;rw[List.mem_singleton] at hb;have:=((h5 a).1 ha).2.2;omega
    . exact h4
  . split
    . next hb=>
      rw[CF,List.mem_singleton,h5];constructor
      . rintro(⟨a1,a2,a3⟩|e)
        . exact⟨a1,a2,by omega⟩
        . subst e;exact⟨hb,by omega,by omega⟩
      . rintro⟨a1,a2,a3⟩;by_cases e:z=c
        . exact .inr e
        . exact .inl ⟨a1,a2,by omega⟩
    . next hb=>
      rw[h5];constructor
      . rintro⟨a1,a2,a3⟩;exact⟨a1,a2,by omega⟩
      . rintro⟨a1,a2,a3⟩
        have:z≠c:=λ e=>hb (e▸a1)
        exact⟨a1,a2,by omega⟩) ⟨by simp,by simp,by simp,List.Pairwise.nil,by simp⟩
 obtain⟨k1,⟨k2,k3,k4,k5,k6⟩,k7⟩:=key
 simp only[J3,Ev,Bo] at k7
 refine⟨k1,k5,λ z=>?_⟩
 rw[k6]
 constructor
 . rintro⟨a,b,c⟩;exact⟨a,b,by omega⟩
 . rintro⟨a,b,c⟩;exact⟨a,b,by omega⟩
theorem Zcv(x:B4)(hl:x.length<=1048576) :
 LoopOk (MC x) (Oc x) (TL x) (0,0)/\LoopOk (J4 x) (J1 x) (TS x) ([],0,0) /\
 (Am (J4 x) (J1 x) ([],0,0)).2.2=(Am (MC x) (Oc x) (0,0)).2/\(Am (J4 x) (J1 x) ([],0,0)).1=CA x:=by
 obtain⟨a1,a2,⟨i,h1,h2,h3⟩,a4⟩:=aE (c:=MC x) (f:=Oc x) (p:=TL x) (d:=J4 x) (g:=J1 x) (q:=TS x) (x0:=(0,0)) (y0:=([],0,0))
  (λ s t=>∃ i:Nat,i<=x.length/\s.1=(i:Int)/\t=((CA x).take i,s.1,s.2)) (λ s=>x.length-s.1.toNat) (by
   rintro⟨n,m⟩ t ⟨i,hi,h1,rfl⟩
   simp only at h1
   subst h1
   have hcl:(CA x).length=x.length:=by simp[CA]
   have hlen:((CA x).take i).length=i:=by rw[Eu];omega
   have s1:iAdd .i64 (i:Int) 1=(i:Int)+1:=Bu (by unfold AO;omega)
   simp only[MC,Oc,TL,J4,J1,TS,Ap,Ao,Ax,Bn,Ar,s1,hlen,AH,AJ,BE,A8]
   refine⟨⟨λ h=>⟨⟨⟨by omega,by omega⟩,by omega,λ _=>trivial,λ _=>⟨⟨by omega,by omega⟩,by omega⟩⟩,λ _=>⟨⟨by omega,by omega⟩,by omega⟩,λ _=>trivial⟩,λ _=>trivial⟩,⟨λ h=>⟨⟨by omega,by omega⟩,by omega,by unfold Av;omega⟩,λ _=>trivial⟩,trivial,λ h=>⟨⟨i+1,by omega,by omega,?_⟩,by omega⟩⟩
   have hi':i<x.length:=by omega
   rw[<- Jt (CA x) 0 (by omega),jA x hi']) ⟨0,by omega,rfl,rfl⟩
 refine⟨a1,a2,by rw[h3],?_⟩
 rw[h3]
 simp only[MC,h2,Ap,Ao,Bo] at a4
 rw[P1]
 simp only[CA,Bc];omega
theorem KC(x:B4)(hl:x.length<=1048576):Lm x/\GM x/\BL x=AY x/\(BL x).2.length<=1048576:=by
 rw[rW,rA,fq,rV,Pf];have o1:=Ug x hl;have o2:=TZ x hl;by_cases h:Ct x=true
 . obtain⟨m1,m2,m3,m4⟩:=Zcv x hl;obtain⟨s1,s2,s3⟩:=ll x hl
   have hcl:(CA x).length=x.length:=by simp[CA]
   obtain⟨c1,⟨c2,c3⟩,c4⟩:=jx (CA x) (by omega);have hh:=Rz hl h
   have e:LA (CA x)=(Am J3 (Lj x) (1,[])).2:=mh c2 s2 λ z=>by
    rw[c3,s3];constructor
    . rintro⟨a,b⟩;refine⟨a,?_⟩;obtain⟨k,hk,rfl⟩:=List.mem_map.1 a;have:=Zp (hh k hk).2.2.1;omega
    . rintro⟨a,b,c⟩;exact⟨a,by omega⟩
   rw[m3,m4,<- e];refine⟨⟨o1,λ _=>trivial,λ _=>⟨m1,s1⟩⟩,⟨o2,λ _=>trivial,λ _=>⟨m2,c1⟩⟩,rfl,?_⟩;rw[BF];split
   . simp
   . simp only;omega
 . have hb:bNot (Ct x)=true:=by rw[AG];simpa using h
   rw[hb];simp[Dc,o1,o2]
theorem jU {α S:Type} {c:S×Int->Bool} {f:S×Int->S×Int} {p:S×Int->Prop} (x:List α) (d:α) (g:S->α->S) (s0:S) (hl:x.length<=1048576)
 (hc:∀ (s:S) (i:Nat),i<=x.length->c (s,(i:Int))=decide (i<x.length)) (hf:∀ (s:S) (i:Nat),i<x.length->f (s,(i:Int))=(g s (x.getD i d),iAdd .i64 (i:Int) 1)) (hp:∀ (s:S) (i:Nat),i<=x.length->p (s,(i:Int))) :
 LoopOk c f p (s0,0)/\Am c f (s0,0)=(x.foldl g s0,(x.length:Int)):=by
 have:=Iw (c:=c) (f:=f) (p:=p) x.length (λ i=>((x.take i).foldl g s0,(i:Int))) (x0:=(s0,0)) rfl (λ k hk=>by
  refine⟨hp _ k (by omega),by rw[hc _ k (by omega)];simpa using hk,?_⟩;rw[hf _ k hk,Bu (by unfold AO;omega),<- Jt x d hk,List.foldl_append]
  simp) ⟨hp _ _ (by omega),by rw[hc _ _ (by omega)];simp⟩
 refine⟨this.1,?_⟩
 rw[this.2,HE]
theorem yz {α S:Type} {c:Int×S->Bool} {f:Int×S->Int×S} {p:Int×S->Prop} (x:List α) (d:α) (g:S->α->S) (s0:S) (hl:x.length<=1048576)
 (hc:∀ (s:S) (i:Nat),i<=x.length->c ((i:Int),s)=decide (i<x.length)) (hf:∀ (s:S) (i:Nat),i<x.length->f ((i:Int),s)=(iAdd .i64 (i:Int) 1,g s (x.getD i d))) (hp:∀ (s:S) (i:Nat),i<=x.length->p ((i:Int),s)) :
 LoopOk c f p (0,s0)/\Am c f (0,s0)=((x.length:Int),x.foldl g s0):=by
 have:=Iw (c:=c) (f:=f) (p:=p) x.length (λ i=>((i:Int),(x.take i).foldl g s0)) (x0:=(0,s0)) rfl (λ k hk=>by
  refine⟨hp _ k (by omega),by rw[hc _ k (by omega)];simpa using hk,?_⟩;rw[hf _ k hk,Bu (by unfold AO;omega),<- Jt x d hk,List.foldl_append]
  simp) ⟨hp _ _ (by omega),by rw[hc _ _ (by omega)];simp⟩
 refine⟨this.1,?_⟩
 rw[this.2,HE]
theorem lL(c:Int)(x:Bb)(s:Bool):x.foldl (λ s a=>bOr s (iEq a c)) s=(s||decide (c∈x)):=by
 induction x generalizing s with
 |nil=>simp
 | cons a x ih=>
   rw[List.foldl_cons,ih,Ba,Bv,Bool.or_assoc];congr 1;rw[JN];simp only[Cp,Ar,Cz];constructor
   . rintro(h|h)
     . exact .inl h.symm
     . exact .inr h
   . rintro(h|h)
     . exact .inl h.symm
     . exact .inr h
theorem bN:∀ (l:Bb) (lo hi:Int),l.Pairwise (· < ·)->(∀ z∈l,lo<=z/\z<=hi)->lo<=hi+1->(l.length:Int)<=hi-lo+1
 |[],lo,hi,_,_,h=>by simp;omega
 | a::l,lo,hi,hp,hm,h=>by
   rw[List.pairwise_cons] at hp
   have ha:=hm a (by simp)
   have:=bN l (a+1) hi hp.2 (λ z hz=>⟨by have:=hp.1 z hz;omega,(hm z (by simp[hz])).2⟩) (by omega)
   rw[AH]
   omega
section
set_option maxRecDepth 20000
theorem jV(l:B4)(hl:l.length<=1048576)(hh:Ct l=true):(BL l).2.Pairwise (· < ·)/\∀ z∈(BL l).2,1<=z/\z<=56:=by
 obtain⟨_,_,r3,_⟩:=KC l hl;obtain⟨_,s2,s3⟩:=ll l hl;rw[r3,fq,Pf,hh]
 have hb:bNot true=false:=by rw[AG];rfl
 rw[hb,CP];exact⟨s2,λ z hz=>((s3 z).1 hz).2⟩
def Ym(m:Int)(a:Fc):Int:=iOr .i64 m a.2.2.2.1
theorem yQ(l dn:B4)(hl:l.length<=1048576)(hh:Ct l=true)(hd:dn.length<=1000)(hc:∀ a∈dn,0<=a.2.2.1/\a.2.2.1<=56) :
 Oj (l,dn)/\Og (BL l,dn.map Bi)/\Ka (BL l,dn.map Bi)=Fo (l,dn)/\(Fo (l,dn)).2.Pairwise (· < ·)/\(∀ z,z∈(Fo (l,dn)).2↔(z∈(BL l).2\/z∈CA dn/\z≠0))/\(Fo (l,dn)).1=dn.foldl Ym (BL l).1:=by
 obtain⟨o1,_,r3,_⟩:=KC l hl
 obtain⟨b1,b2⟩:=jV l hl hh
 have b3:=bN _ 1 56 b1 b2 (by omega)
 have hcd:(CA dn).length=dn.length:=by simp[CA]
 obtain⟨m1,m2⟩:=yz (c:=TO (l,dn)) (f:=TP (l,dn)) (p:=Yu (l,dn)) dn (0,0,0,0,0) Ym (AY l).1 (by omega)
  (λ s i hi=>by simp only[TO,Ap,Ao,G6])
  (λ s i hi=>by simp only[TP,Ym,A8,Ax,Bn])
  (λ s i hi=>by
   simp only[Yu,Ap,Ao,Ax,Bn,Ar]
   exact⟨λ h=>⟨⟨by omega,by omega⟩,by omega⟩,λ _=>trivial⟩)
 have in4:∀ (st:Eh),LoopOk (Jd (l,dn)) (Jc (l,dn) st) (TU (l,dn)) (false,0)/\(Am (Jd (l,dn)) (Jc (l,dn) st) (false,0)).1=decide (st.2∈(BL l).2):=by
  intro st;rw[r3] at b3
  obtain⟨k1,k2⟩:=jU (c:=Jd (l,dn)) (f:=Jc (l,dn) st) (p:=TU (l,dn)) (AY l).2 0 (λ s a=>bOr s (iEq a st.2)) false (by omega)
   (λ s i hi=>by simp only[Jd,Ap,Ao,G6])
   (λ s i hi=>by simp only[Jc,A8,Ax,Bn])
   (λ s i hi=>by
    simp only[TU,Ap,Ao,Ax,Bn,Ar]
    exact⟨λ h=>⟨λ _=>trivial,λ _=>⟨⟨by omega,by omega⟩,by omega⟩⟩,λ _=>trivial⟩)
  refine⟨k1,?_⟩;rw[k2,lL,r3,Bool.false_or]
 have in3:∀ (st:Eh) (b:Bool),LoopOk (Li (l,dn)) (Lf (l,dn) st) (TR (l,dn)) (b,0)/\(Am (Li (l,dn)) (Lf (l,dn) st) (b,0)).1=(b||decide (st.2∈CA dn)):=by
  intro st b
  obtain⟨k1,k2⟩:=jU (c:=Li (l,dn)) (f:=Lf (l,dn) st) (p:=TR (l,dn)) dn (0,0,0,0,0) (λ s a=>bOr s (iEq a.2.2.1 st.2)) b (by omega)
   (λ s i hi=>by simp only[Li,Ap,Ao,G6])
   (λ s i hi=>by simp only[Lf,A8,Ax,Bn])
   (λ s i hi=>by
    simp only[TR,Ap,Ao,Ax,Bn,Ar]
    exact⟨λ h=>⟨λ _=>trivial,λ _=>⟨⟨by omega,by omega⟩,by omega⟩⟩,λ _=>trivial⟩)
  refine⟨k1,?_⟩;rw[k2];have:=lL st.2 (CA dn) b;rw[CA,List.foldl_map] at this;exact this
 have key:=Pv (c:=Od) (f:=Qv (l,dn)) (p:=eN (l,dn)) (x0:=([],1))
  (λ st=>1<=st.2/\st.2<=57/\(st.1.length:Int)<st.2/\st.1.Pairwise (· < ·)/\∀ z,z∈st.1↔((z∈(BL l).2\/z∈CA dn)/\1<=z/\z<st.2)) (λ st=>57-st.2.toNat) (by
  rintro⟨ks,c⟩ ⟨h1,h2,h3,h4,h5⟩
  simp only at h1 h2 h3 h4 h5
  obtain⟨i1,i2⟩:=in4 (ks,c)
  obtain⟨j1,j2⟩:=in3 (ks,c) (Am (Jd (l,dn)) (Jc (l,dn) (ks,c)) (false,0)).1
  rw[i2] at j2
  have r1:Av ((ks.length+[c].length)*1):=by unfold Av;simp only[AH,AJ];omega
  refine⟨⟨λ _=>⟨i1,j1,λ _=>r1,λ _=>trivial⟩,λ _=>trivial⟩,λ h=>?_⟩
  simp only[Od,Ev,Ar] at h
  have s1:iAdd .i64 c 1=c+1:=Bu (by unfold AO;omega)
  simp only[Qv,s1,i2,j2,BF,BE,Cp,Ar]
  refine⟨⟨by omega,by omega,?_,?_,λ z=>?_⟩,by omega⟩
  . split
    . simp only[Cq,AH,AJ];omega
    . omega
  . split
    . refine List.pairwise_append.2 ⟨h4,List.pairwise_singleton _ _,λ a ha b hb=>?_⟩;rw[List.mem_singleton] at hb;have:=((h5 a).1 ha).2.2;omega
    . exact h4
  . split
    . next hb=>
      rw[CF,List.mem_singleton,h5];constructor
      . rintro(⟨a1,a2,a3⟩|e)
        . exact⟨a1,a2,by omega⟩
        . subst e;exact⟨hb,by omega,by omega⟩
      . rintro⟨a1,a2,a3⟩;by_cases e:z=c
        . exact .inr e
        . exact .inl ⟨a1,a2,by omega⟩
    . next hb=>
      rw[h5];constructor
      . rintro⟨a1,a2,a3⟩;exact⟨a1,a2,by omega⟩
      . rintro⟨a1,a2,a3⟩
        have:z≠c:=λ e=>hb (e▸a1)
        exact⟨a1,a2,by omega⟩) ⟨by simp,by simp,by simp,List.Pairwise.nil,by simp⟩
 obtain⟨k1,⟨k2,k3,k4,k5,k6⟩,k7⟩:=key
 simp only[Od,Ev,Bo] at k7
 generalize hK:Am Od (Qv (l,dn)) ([],1)=K at k2 k3 k4 k5 k6 k7
 have kmem:∀ z,z∈K.1↔(z∈(BL l).2\/z∈CA dn/\z≠0):=by
  intro z;rw[k6];constructor
  . rintro⟨a|a,b,c⟩
    . exact .inl a
    . exact .inr ⟨a,by omega⟩
  . rintro(a|⟨a,b⟩)
    . have:=b2 z a;exact⟨.inl a,by omega,by omega⟩
    . obtain⟨q,hq,rfl⟩:=List.mem_map.1 a;have:=hc q hq;exact⟨.inr a,by omega,by omega⟩
 have hp5:(dn.map Bi).length=dn.length:=Bc ..
 have cp:C7 (BL l).2=(BL l).2:=by rw[Ua];try rfl
 have okc:QN (BL l).2:=by rw[e9];unfold Av;omega
 have W:=Iw (c:=Mz (BL l,dn.map Bi)) (f:=N4 (BL l,dn.map Bi)) (p:=TI (BL l,dn.map Bi)) dn.length
  (λ i=>((BL l).2++(CA dn).take i,(i:Int),(dn.take i).foldl Ym (BL l).1)) (x0:=((BL l).2,0,(BL l).1)) (by simp) (λ i hi=>by
   have g1:(lGet (dn.map Bi) (iNat (i:Int)) (0,0))=Bi (dn.getD i (0,0,0,0,0)):=by rw[A8,Ax,Bn,jQ]
   refine⟨?_,?_,?_⟩
   . simp only[TI,Ap,Ao,hp5,Ax,Bn,Ar,Cq,Eu,AH,AJ];exact⟨λ _=>⟨⟨by omega,by omega⟩,by omega,by unfold Av;omega⟩,λ _=>trivial⟩
   . simp only[Mz,Ap,Ao,hp5,Ar];omega
   . simp only[N4,g1,BE,Co];rw[Bu (by unfold AO;omega),<- Jt (CA dn) 0 (by omega),jA dn hi,<- Jt dn (0,0,0,0,0) hi,List.foldl_append]
     rfl) (by
   refine⟨?_,?_⟩
   . simp only[TI,Ap,Ao,hp5,Ar];exact⟨λ h=>absurd h (by omega),λ _=>trivial⟩
   . simp only[Mz,Ap,Ao,hp5];simp)
 have tk:(CA dn).take dn.length=CA dn:=by rw[<- hcd];exact HE ..
 obtain⟨w1,w2⟩:=W
 simp only[tk,HE] at w2
 obtain⟨c1,⟨c2,c3⟩,c4⟩:=jx ((BL l).2++CA dn) (by rw[Cq];omega)
 have e:LA ((BL l).2++CA dn)=K.1:=mh c2 k5 λ z=>by
  rw[c3,kmem,CF];constructor
  . rintro⟨a|a,b⟩
    . exact .inl a
    . exact .inr ⟨a,b⟩
  . rintro(a|⟨a,b⟩)
    . have:=b2 z a;exact⟨.inl a,by omega⟩
    . exact⟨.inr a,b⟩
 rw[rp,qE,qV,qz]
 simp only[cp,w2,m2,hK]
 refine⟨⟨o1,m1,k1⟩,⟨okc,w1,c1⟩,?_,k5,kmem,by rw[r3]⟩
 rw[e,r3]
end
section
set_option maxRecDepth 20000
def mA(s:CS):Int×Int×Int×Int×Int:=(0,2,s.2.1,s.2.2,0)
def Ew(dn:B4)(s:CS):B4:=if s.1=1 then dn++[mA s] else if s.1=2 then Dj (dn,B7 (dn,s)) else dn
def Lc(dn:B4)(s:CS):Prop:=0<=s.1/\s.1<=2/\Bt (2,s.2.1,s.2.2,0)=true/\(s.1=2↔0<=B7 (dn,s))
def BU(x:CY)(i:Nat):B4:=(x.take i).foldl Ew []
theorem Pu(x:CY){i:Nat}(h:i<x.length):BU x (i+1)=Ew (BU x i) (x.getD i (0,0,0)):=by
 unfold BU;rw[<- Jt x (0,0,0) h,List.foldl_append];rfl
theorem Zb0 {c:B4×Int->Bool} {f:B4×Int->B4×Int} (x:CY) (h1:¬ (Am c f ([],0)).2<lLen x) (hc:∀ (dn:B4) (i:Nat),c (dn,(i:Int))=true->i<x.length/\Lc dn (x.getD i (0,0,0)))
 (hf:∀ (dn:B4) (i:Nat),i<x.length->f (dn,(i:Int))=(Ew dn (x.getD i (0,0,0)),(i:Int)+1)):(Am c f ([],0)).1=BU x x.length/\∀ i,i<x.length->Lc (BU x i) (x.getD i (0,0,0)):=by
 have key:=MZ (c:=c) (f:=f) (λ st=>∃ i:Nat,st=(BU x i,(i:Int))/\i<=x.length/\∀ j,j<i->Lc (BU x j) (x.getD j (0,0,0))) (λ st=>x.length-st.2.toNat) (λ st hI hcc=>by
  obtain⟨i,rfl,hi,hj⟩:=hI;obtain⟨g1,g2⟩:=hc _ i hcc;rw[hf _ i g1];refine⟨⟨i+1,by rw[Pu x g1];simp,by omega,λ j hj'=>?_⟩,by simp only;omega⟩;rcases BN j i with h|h
  . exact hj j h
  . have:j=i:=by omega
    subst this;exact g2) (x0:=([],0)) ⟨0,rfl,GC _,λ j hj=>by omega⟩
 obtain⟨⟨i,e,hi,hj⟩,_⟩:=key
 rw[e,Ao] at h1
 rw[e]
 simp only at h1
 have:i=x.length:=by omega
 subst this
 exact⟨rfl,hj⟩
theorem xK(x:CY)(h:x.length<=1048576)(hm:Gi x=true):x.length<=8/\BU x x.length=[]/\∀ i,i<x.length->Lc (BU x i) (x.getD i (0,0,0)):=by
 rw[Y3,AD,AD,Ah,Ah] at hm;obtain⟨h1,h2,h3⟩:=hm;rw[AG,BC,Ap _ (lLen x),Bo] at h1;rw[Ev,Ao,Ar] at h2;rw[Bv,Ao,Ar] at h3
 obtain⟨g1,g2⟩:=Zb0 x h1 (λ dn i hc=>by
  simp only[Ao,A8,Ax,Bn,MF,LH,Gu,AD,AG,Ba,Nh,Ap,Bv,CM,Ah,BC,Ca,CJ,Ar,A0] at hc;obtain⟨c1,⟨c2,c3⟩,c4,c5⟩:=hc;refine⟨by omega,c2,c3,c4,?_⟩;have:=congrArg (·=true) c5
  simpa using this) (λ dn i hi=>by
  simp only[A8,Ax,Bn,MF,BF,Bv,Ar,BE];rw[Bu (by unfold AO;omega)]
  rfl)
 refine⟨by omega,?_,g2⟩;rw[<- g1];exact FA (by omega)
end
section
set_option maxRecDepth 20000
theorem xq(dn:B4)(p:Int){a:Int×Int×Int×Int×Int}(h:a∈Dj (dn,p)):a∈dn:=by
 rw[Qy] at h;simp only[BE,HC,HN,CW,CF] at h;rcases h with h|h
 . exact List.mem_of_mem_drop (KU h)
 . exact List.mem_of_mem_drop (KU h)
theorem WS(dn:B4)(s:CS)(h:dn.length<=1048576):B7 (dn,s)=-1\/(0<=B7 (dn,s)/\B7 (dn,s)<dn.length):=by
 have:=WR (dn.map Bi) (s.2.1,s.2.2) (by rw[Bc];exact h);rw[Bc] at this;have e:=Ng dn s.1 s.2.1 s.2.2;rw[show (s.1,s.2.1,s.2.2)=s from rfl] at e;rw[e];exact this
theorem gN{a:Int×Int×Int×Int}(h:Bt a=true):0<=a.2.2.1/\a.2.2.1<=15:=by
 rw[QI] at h;simp only[BF,Ba,AD,Bv,CX,UO,CM,Ev] at h
 repeat' split at h
 all_goals simp only[Ah,Cp,BC,CJ,Gb,Ca,Ar,Bo,Gz,IW,A0,Jv] at *
 all_goals omega
def Yg(a:Fc):Prop:=(0<=a.2.2.1/\a.2.2.1<=56)/\0<=a.2.2.2.1/\a.2.2.2.1<=15
theorem ZbA(x:CY)(hl:x.length<=8)(hok:∀ i,i<x.length->Lc (BU x i) (x.getD i (0,0,0))):∀ i,i<=x.length->(BU x i).length<=i/\∀ a∈BU x i,Yg a:=by
 intro i
 induction i with
 |zero=>intro _;exact⟨by simp[BU],by simp[BU]⟩
 | succ i ih=>
   intro hi;obtain⟨h1,h2⟩:=ih (by omega);obtain⟨k1,k2,k3,k4⟩:=hok i (by omega);rw[Pu x (by omega)];generalize hs:x.getD i (0,0,0)=s at k1 k2 k3 k4 ⊢;unfold Ew;split
   . refine⟨by simp only[Cq,AH,AJ];omega,λ a ha=>?_⟩;rw[CF,List.mem_singleton] at ha;rcases ha with ha|rfl
     . exact h2 a ha
     . exact⟨Zp k3,gN k3⟩
   . split
     . rename_i e2;have:=WS (BU x i) s (by omega);have hp:0<=B7 (BU x i,s):=k4.1 e2;have hw:=iM (BU x i) (B7 (BU x i,s)) hp (by omega) (by omega);exact⟨by omega,λ a ha=>h2 a (xq _ _ ha)⟩
     . exact⟨by omega,h2⟩
theorem Zw(dm:NW)(q:A6)(h:dm.length<=1048576):Bh (dm,q)=if CO (λ i=>decide (dm.getD i (0,0)=q)) dm.length 0<dm.length then ((CO (λ i=>decide (dm.getD i (0,0)=q)) dm.length 0:Nat):Int) else -1:=by
 rw[Zl]
 have e:=Si (c:=λ x0:Int=>(bAnd (iLt x0 (lLen dm)) (bNot (bAnd (iEq (lGet dm (iNat x0) (0,0)).1 q.1) (iEq (lGet dm (iNat x0) (0,0)).2 q.2))))) (f:=λ x0=>iAdd .i64 x0 1) dm.length (λ i=>decide (dm.getD i (0,0)=q)) (by omega)
  (λ i hi=>by
   simp only[AD,Ap,Ao,AG,Bv,A8,Ax,Bn,G6];congr 2;rw[<- Bool.decide_and]
   simp only[Prod.ext_iff]) (λ i hi=>rfl)
 simp only[e];rw[BF,Ap,Ao];simp only[Ar,G6]
theorem xM(dm:NW)(q:A6)(h:dm.length<=1000)(hp:Bh (dm,q)<0):Bh (dm++[q],q)=dm.length:=by
 rw[Zw _ _ (by omega)] at hp
 have hall:∀ i,i<dm.length->decide (dm.getD i (0,0)=q)=false:=by
  refine O4.1 ?_;have:=Jr (λ i=>decide (dm.getD i (0,0)=q)) dm.length 0;split at hp
  . omega
  . omega
 rw[Zw _ _ (by rw[Cq,AH,AJ];omega)]
 have hl:(dm++[q]).length=dm.length+1:=by simp
 rw[hl]
 have hlast:(dm++[q]).getD dm.length (0,0)=q:=by rw[Ee];simp
 have hold:∀ i,i<dm.length->(dm++[q]).getD i (0,0)=dm.getD i (0,0):=λ i hi=>by rw[Ee,Ee,Bx hi]
 generalize hk:CO (λ i=>decide ((dm++[q]).getD i (0,0)=q)) (dm.length+1) 0=k;have a1:=Jr (λ i=>decide ((dm++[q]).getD i (0,0)=q)) (dm.length+1) 0;have a2:=RA (λ i=>decide ((dm++[q]).getD i (0,0)=q)) (dm.length+1) 0 dm.length (by omega);have a3:=O9 (λ i=>decide ((dm++[q]).getD i (0,0)=q)) (dm.length+1) 0;rw[hk] at a1 a2 a3
 have b1:¬ dm.length<k:=λ h=>by have:=a2 h;rw[hlast] at this;simp at this
 have b2:¬ k<dm.length:=λ h=>by
  have:=a3 (by omega);rw[hold k h,hall k h] at this;cases this
 have:k=dm.length:=by omega
 rw[Ac (by omega),this]
theorem iv(dn:B4)(a:Fc)(h:dn.length<=1000):Dj (dn++[a],(dn.length:Int))=dn:=by
 rw[Qy];have e:iAdd .i64 (dn.length:Int) 1=dn.length+1:=Bu (by unfold AO;omega);simp only[e,BE,HC,HN,Ax,CW,Bn,Ha,L5]
 have e2:((dn.length:Int)+1).toNat=dn.length+1:=by omega
 rw[e2,List.take_left',List.drop_eq_nil_of_le (by simp)]
 . simp
 . rfl
theorem kj(dn:B4)(s:CS)(h:dn.length<=1000)(hp:B7 (dn,s)<0):B7 (dn++[mA s],s)=dn.length:=by
 have e:=Ng dn s.1 s.2.1 s.2.2;have e':=Ng (dn++[mA s]) s.1 s.2.1 s.2.2;rw[show (s.1,s.2.1,s.2.2)=s from rfl] at e e';rw[e] at hp;rw[e',Gx,Cr,P4];have:=xM (dn.map Bi) (s.2.1,s.2.2) (by rw[Bc];exact h) hp;rw[Bc] at this;exact this
def oP(l:B4)(r:DY):Prop:=r.2.length<=1048576/\∃ dn:B4,dn.length<=1000/\(∀ a∈dn,Yg a)/\r=Fo (l,dn)
def ot(l:B4)(x:CY)(i:Nat)(out:Fb):Prop:=(∀ r∈out,oP l r)/\(i=0->out=[])/\(0<i->∃ o,out=o++[Fo (l,BU x i)])
theorem rQ(l:B4)(x:CY)(hl:l.length<=1048576)(hx:x.length<=1048576) :
 N2 (l,x)/\N1 (l,x)/\N7 (l,x)=Fm (l,x)/\((Fm (l,x)).length<=1048576/\∀ r∈Fm (l,x),r.2.length<=1048576)/\(Ct l=true->Gi x=true->ot l x x.length (Fm (l,x))):=by
 have o1:=Ug l hl
 have o2:=TZ l hl
 have o3:=fY x hx
 have o4:=gn x hx
 rw[o9,o5,ph,o7]
 simp only[Pf,<- ZO x hx]
 by_cases hg:Ct l=true/\Gi x=true
 case neg=>
  have hb:bOr (bNot (Ct l)) (bNot (Gi x))=true:=by
   rw[Ba,AG,AG];cases h1:Ct l<;>cases h2:Gi x<;>simp_all
  rw[hb];simp only[Dc];refine⟨⟨⟨o1,λ _=>trivial,λ _=>o3⟩,λ _=>trivial,λ h=>by cases h⟩,⟨⟨o2,λ _=>trivial,λ _=>o4⟩,λ _=>trivial,λ h=>by cases h⟩,trivial,⟨by simp,by simp⟩,λ h1 h2=>absurd ⟨h1,h2⟩ hg⟩
 case pos=>
  obtain⟨hh,hm⟩:=hg
  have hb:bOr (bNot (Ct l)) (bNot (Gi x))=false:=by rw[Ba,AG,AG,hh,hm];rfl
  rw[hb];simp only[CP];obtain⟨x8,_,hok⟩:=xK x hx hm;have inv:=ZbA x x8 hok;obtain⟨_,or2,_,_⟩:=KC l hl
  have DE:∀ dn:B4,dn.length<=1000->(∀ a∈dn,Yg a)->Oj (l,dn)/\Og (BL l,dn.map Bi)/\Ka (BL l,dn.map Bi)=Fo (l,dn)/\oP l (Fo (l,dn)):=by
   intro dn h1 h2;obtain⟨a1,a2,a3,a4,a5,_⟩:=yQ l dn hl hh h1 (λ a ha=>(h2 a ha).1)
   have:=bN _ 1 56 a4 (λ z hz=>by
    rcases (a5 z).1 hz with h|⟨h,hz⟩
    . exact(jV l hl hh).2 z h
    . obtain⟨q,hq,rfl⟩:=List.mem_map.1 h;have:=(h2 q hq).1
      omega) (by omega)
   exact⟨a1,a2,a3,by omega,dn,h1,h2,rfl⟩
  obtain⟨a1,a2,⟨i,hi,out,e1,e2,e3,e4⟩,a4⟩:=aE (c:=N0 (l,x)) (f:=Tz (l,x)) (p:=TB (l,x)) (d:=TA (l,x)) (g:=TC (l,x)) (q:=Tx (l,x)) (x0:=([],[],0)) (y0:=([],[],0))
   (λ s t=>∃ i:Nat,i<=x.length/\∃ out:List DY,s=(out,BU x i,(i:Int))/\t=(out,(BU x i).map Bi,(i:Int))/\out.length<=2*i/\ot l x i out) (λ s=>x.length-s.2.2.toNat) (by
    rintro s t ⟨i,hi,out,rfl,rfl,ho,hr⟩
    obtain⟨d1,d2⟩:=inv i hi
    have s1:iAdd .i64 (i:Int) 1=((i+1:Nat):Int):=by rw[Bu (by unfold AO;omega)];simp
    by_cases hlt:i<x.length
    case neg=>
     have hn:iLt (i:Int) (lLen x)=false:=by rw[Ap,Ao];simp;omega
     refine⟨?_,?_,rfl,λ h=>?_⟩
     . simp only[TB,hn];exact⟨λ h=>(by cases h),λ _=>trivial⟩
     . simp only[Tx,hn];exact⟨λ h=>(by cases h),λ _=>trivial⟩
     . simp only[N0,hn] at h;cases h
    case pos=>
    have ht:iLt (i:Int) (lLen x)=true:=by rw[Ap,Ao];simp;omega
    have hk:=hok i hlt
    have hsucc:=Pu x hlt
    obtain⟨d1',d2'⟩:=inv (i+1) hlt
    have hget:lGet x (iNat (i:Int)) (0,0,0)=x.getD i (0,0,0):=by rw[A8,Ax,Bn]
    have hin:iNat (i:Int)<x.length:=by rw[Ax];simpa using hlt
    simp only[N0,Tz,TB,TA,TC,Tx,hget,ht,s1,MF,fu]
    generalize hs:x.getD i (0,0,0)=s at hk hsucc
    generalize hdn:BU x i=dn at hk hsucc d1 d2
    obtain⟨K,c,m⟩:=s
    obtain⟨k1,k2,k3,k4⟩:=hk
    simp only at k1 k2 k3 k4
    have hcode:=Zp k3
    simp only at hcode
    have Ms:∀ a∈dn++[mA (K,c,m)],Yg a:=λ a ha=>by
     rw[CF,List.mem_singleton] at ha;rcases ha with ha|rfl
     . exact d2 a ha
     . exact⟨hcode,gN k3⟩
    have mapp:(dn++[mA (K,c,m)]).map Bi=lApp (dn.map Bi) [(c,m)]:=by rw[BE,Gx];rfl
    have lapp:lApp dn [(0,2,c,m,0)]=dn++[mA (K,c,m)]:=by rw[BE];rfl
    have hml:(dn.map Bi).length=dn.length:=Bc ..
    have len1:(lApp (dn.map Bi) [(c,m)]).length=dn.length+1:=by rw[<- mapp,Bc];simp
    obtain⟨p1,p2,p3,p4⟩:=DE (dn++[mA (K,c,m)]) (by rw[Cq,AH,AJ];omega) Ms
    obtain⟨q1,q2,q3,q4⟩:=DE dn (by omega) d2
    rw[mapp] at p2 p3
    have lo:∀ r:Int×List Int,(lApp out [r]).length=out.length+1:=λ r=>by rw[BE];simp
    have lo2:∀ r r':Int×List Int,(lApp (lApp out [r]) [r']).length=out.length+2:=λ r r'=>by rw[BE,BE];simp
    have hlr:∀ r:Int×List Int,([r]:List DY).length=1:=λ _=>rfl
    have ro:∀ n:Nat,n<=1000->∀ w:Nat,w<=5->Av (n*w):=λ n hn w hw=>M5 (by omega) (by omega)
    rcases (show K=0\/K=1\/K=2 by omega) with rfl|rfl|rfl
    ·
     have e01:iNe 0 1=true:=by rw[CX];rfl
     have e02:iNe 0 2=true:=by rw[CX];rfl
     have e00:iEq 0 0=true:=by rw[Bv];rfl
     have hneg:B7 (dn,0,c,m)<0:=by
      rcases WS dn (0,c,m) (by omega) with h|h
      . omega
      . exact absurd (k4.2 h.1) (by decide)
     have fl:=kj dn (0,c,m) (by omega) hneg;have wl:=iv dn (mA (0,c,m)) (by omega);have okf:ML (dn++[mA (0,c,m)],0,c,m):=bM _ _ (by rw[Cq,AH,AJ];omega);have okw:ME (dn++[mA (0,c,m)],(dn.length:Int)):=V5 _ _ (by omega) (by rw[Cq,AH,AJ];omega) (by rw[Cq,AH,AJ];omega)
     have hst:Ew dn (0,c,m)=dn:=by unfold Ew;simp
     rw[hst] at hsucc;simp only[e01,e02,e00,Dc,lapp,fl,wl,p3,q3]
     refine⟨⟨λ _=>⟨⟨by omega,by omega⟩,hin,⟨λ _=>⟨trivial,ro _ (by simp only[AH,AJ];omega) _ (by omega),p1,ro _ (by rw[hlr];omega) _ (by omega)⟩,λ _=>trivial⟩,⟨λ _=>⟨okf,okw,q1,ro _ (by rw[lo,hlr];omega) _ (by omega)⟩,λ _=>trivial⟩⟩,λ _=>trivial⟩,
      ⟨λ _=>⟨⟨by omega,by omega⟩,hin,⟨λ _=>⟨ro _ (by omega) _ (by omega),ro _ (by rw[hml];simp only[AH,AJ];omega) _ (by omega),p2,ro _ (by rw[hlr];omega) _ (by omega)⟩,λ h=>by cases h⟩,q2,ro _ (by rw[lo,hlr];omega) _ (by omega)⟩,λ _=>trivial⟩,trivial,λ _=>⟨⟨i+1,hlt,_,by rw[hsucc],by rw[hsucc],by rw[lo2];omega,⟨λ r hr'=>?_,λ h=>absurd h (Nat.succ_ne_zero i),λ _=>⟨_,by rw[hsucc,BE]⟩⟩⟩,by omega⟩⟩
     simp only[BE,CF,List.mem_singleton] at hr';rcases hr' with(h|rfl)|rfl
     . exact hr.1 r h
     . exact p4
     . exact q4
    ·
     have e01:iNe 1 1=false:=by rw[CX];rfl
     have e02:iNe 1 2=true:=by rw[CX];rfl
     have e00:iEq 1 0=false:=by rw[Bv];rfl
     have e11:iEq 1 1=true:=by rw[Bv];rfl
     have hst:Ew dn (1,c,m)=dn++[mA (1,c,m)]:=by unfold Ew;simp
     rw[hst] at hsucc;simp only[e01,e02,e00,e11,Dc,CP,lapp,p3]
     refine⟨⟨λ _=>⟨⟨by omega,by omega⟩,hin,⟨λ _=>⟨trivial,ro _ (by simp only[AH,AJ];omega) _ (by omega),p1,ro _ (by rw[hlr];omega) _ (by omega)⟩,λ _=>trivial⟩,⟨λ h=>(by cases h),λ _=>trivial⟩⟩,λ _=>trivial⟩,
      ⟨λ _=>⟨⟨by omega,by omega⟩,hin,⟨λ h=>(by cases h),λ _=>⟨λ _=>ro _ (by rw[hml];simp only[AH,AJ];omega) _ (by omega),λ h=>by cases h⟩⟩,p2,ro _ (by rw[hlr];omega) _ (by omega)⟩,λ _=>trivial⟩,trivial,λ _=>⟨⟨i+1,hlt,_,by rw[hsucc],by rw[hsucc,mapp],by rw[lo];omega,⟨λ r hr'=>?_,λ h=>absurd h (Nat.succ_ne_zero i),λ _=>⟨_,by rw[hsucc,BE]⟩⟩⟩,by omega⟩⟩
     simp only[BE,CF,List.mem_singleton] at hr';rcases hr' with h|rfl
     . exact hr.1 r h
     . exact p4
    ·
     have e01:iNe 2 1=true:=by rw[CX];rfl
     have e02:iNe 2 2=false:=by rw[CX];rfl
     have e00:iEq 2 0=false:=by rw[Bv];rfl
     have e11:iEq 2 1=false:=by rw[Bv];rfl
     have e22:iEq 2 2=true:=by rw[Bv];rfl
     have hp:0<=B7 (dn,2,c,m):=k4.1 rfl
     have hp2:B7 (dn,2,c,m)<dn.length:=by
      rcases WS dn (2,c,m) (by omega) with h|h
      . omega
      . exact h.2
     have hst:Ew dn (2,c,m)=Dj (dn,B7 (dn,2,c,m)):=by unfold Ew;simp
     rw[hst] at hsucc;have hfe:=Ng dn 2 c m;have wm:=iP dn _ hp hp2;have okf:ML (dn,2,c,m):=bM _ _ (by omega);have okw:=V5 dn _ hp hp2 (by omega);have okp:OJ (dn.map Bi,c,m):=mG _ _ (by omega);rw[hsucc] at d1' d2';obtain⟨w1,w2,w3,w4⟩:=DE _ (by omega) d2';rw[hfe] at hp hp2 okw w1 w2 w3 w4 wm hsucc;rw[wm] at w2 w3;generalize Bh (dn.map Bi,c,m)=p at hp hp2 okw w1 w2 w3 w4 wm hsucc hfe ⊢;have sp:iAdd .i64 p 1=p+1:=Bu (by unfold AO;omega);simp only[e01,e02,e00,e11,e22,Dc,CP,hfe,w3]
     refine⟨⟨λ _=>⟨⟨by omega,by omega⟩,hin,⟨λ h=>(by cases h),λ _=>trivial⟩,⟨λ _=>⟨okf,okw,w1,ro _ (by rw[hlr];omega) _ (by omega)⟩,λ _=>trivial⟩⟩,λ _=>trivial⟩,
      ⟨λ _=>⟨⟨by omega,by omega⟩,hin,⟨λ h=>(by cases h),λ _=>⟨λ h=>(by cases h),λ _=>⟨λ _=>⟨okp,?_⟩,λ h=>by cases h⟩⟩⟩,w2,ro _ (by rw[hlr];omega) _ (by omega)⟩,λ _=>trivial⟩,trivial,λ _=>⟨⟨i+1,hlt,_,by rw[hsucc],by rw[hsucc,wm],by rw[lo];omega,⟨λ r hr'=>?_,λ h=>absurd h (Nat.succ_ne_zero i),λ _=>⟨_,by rw[hsucc,BE]⟩⟩⟩,by omega⟩⟩
     . rw[sp];simp only[Ax,HN,HC,Ha,L5,Eu,Nz,hml];exact⟨⟨hp,by omega,by omega,by omega⟩,⟨by omega,by omega,by omega,by omega⟩,by omega,by omega,M5 (by omega) (by omega)⟩
     . simp only[BE,CF,List.mem_singleton] at hr';rcases hr' with h|rfl
       . exact hr.1 r h
       . exact w4) ⟨0,GC _,[],rfl,rfl,by simp,⟨by simp,λ _=>rfl,λ h=>absurd h (by omega)⟩⟩
  refine⟨⟨⟨o1,λ _=>trivial,λ _=>o3⟩,λ h=>(by cases h),λ _=>a1⟩,⟨⟨o2,λ _=>trivial,λ _=>o4⟩,λ h=>(by cases h),λ _=>⟨or2,a2⟩⟩,by rw[e1,e2],?_⟩;rw[e1] at a4 ⊢;simp only[N0,Ap,Ao,Bo] at a4
  have hix:i=x.length:=by omega
  subst hix;exact⟨⟨by simp only;omega,λ r hr=>(e4.1 r hr).1⟩,λ _ _=>e4⟩
theorem q9(l:B4)(x:CY)(hl:l.length<=1048576)(hx:x.length<=1048576) :
 N2 (l,x)/\N1 (l,x)/\N7 (l,x)=Fm (l,x)/\((Fm (l,x)).length<=1048576/\∀ r∈Fm (l,x),r.2.length<=1048576):=let ⟨a,b,c,d,_⟩:=rQ l x hl hx;⟨a,b,c,d⟩
end
section
set_option maxRecDepth 20000
theorem OZ(x:Cj)(k:Int)(hl:x.2.2.2.2.1.length<=1048576) :
 (BS (x,k)=-1/\∀ a∈x.2.2.2.2.1,a.1≠k)\/∃ i:Nat,i<x.2.2.2.2.1.length/\BS (x,k)=(i:Int)/\(x.2.2.2.2.1.getD i (0,0,0,0,0)).1=k:=by
 rw[gC]
 simp only
 generalize x.2.2.2.2.1=l at *
 rw[Si (c:=λ x0=>bAnd (iLt x0 (lLen l)) (bNot (iEq (lGet l (iNat x0) (0,0,0,0,0)).1 k))) (f:=λ x0=>iAdd .i64 x0 1) l.length (λ i=>decide ((l.getD i (0,0,0,0,0)).1=k)) (by omega)
  (λ i hi=>by simp only[AD,AG,Bv,Ap,Ao,A8,Ax,Bn,G6]) (λ i hi=>rfl)]
 have hall:=O4 (t:=λ i=>decide ((l.getD i (0,0,0,0,0)).1=k)) (n:=l.length)
 have hle:=Jr (λ i=>decide ((l.getD i (0,0,0,0,0)).1=k)) l.length 0
 have hlt:=O9 (λ i=>decide ((l.getD i (0,0,0,0,0)).1=k)) l.length 0
 generalize CO (λ i=>decide ((l.getD i (0,0,0,0,0)).1=k)) l.length 0=q at hall hle hlt
 rw[BF,Ap,Ao]
 by_cases h:q<l.length
 . right
   refine⟨q,h,by rw[Ac (by simpa using h)],by simpa using hlt (by omega)⟩
 . left
   refine⟨by rw[Ae (by simpa using h)],λ a ha=>?_⟩;obtain⟨i,hi,rfl⟩:=IF ha;have:=hall.1 (by omega) i hi;rw[Bo,F5 l _ hi] at this;exact this
theorem vr(l:B4)(i:Nat)(h:i<l.length)(hl:l.length<=1048576):Dj (l,(i:Int))=l.eraseIdx i /\
 lApp (lTake l (lN (lSub l 0 (iNat (i:Int))))) (lSub l (iNat (iAdd .i64 (i:Int) 1)) (lN l))=l.eraseIdx i:=by
 have e:iAdd .i64 (i:Int) 1=((i+1:Nat):Int):=by rw[Bu (by unfold AO;omega)];omega
 rw[Qy]
 simp only[e,BE,WN,HN,HC,Ax,Bn,Ha,L5,CW,Eu,Nat.min_eq_left (Nat.le_of_lt h),List.eraseIdx_eq_take_drop_succ]
 have:(l.drop (i+1)).take (l.length-(i+1))=l.drop (i+1):=P1 (by rw[Nz];omega)
 rw[this];exact⟨rfl,rfl⟩
theorem gH(x:Cj)(hs:F0 x):Qr x/\B6 x=x:=by
 obtain⟨keys,layers,macros,fixed,held,once,caps⟩:=x;have hm:M8 macros:=hs.2.1;have hh:Po held:=hs.2.2.1;obtain⟨c1,c2⟩:=gS keys layers hs.1;obtain⟨b1,b2⟩:=ic macros hm;rw[pA,pJ];have hl:=hh.1;refine⟨⟨c1,b1,by unfold Av;simp only;omega⟩,?_⟩;simp only[c2,b2]
def Yd:Cj:=(0,[],[],0,[],0,false)
theorem ZH(x:Cj)(k:Int)(hs:F0 x)(he:CV x=true)(i:Nat)(hi:i<x.2.2.2.2.1.length)(hk:BS (x,k)=(i:Int)) :
 QV (x,k)/\MK (x,k) /\
 Q8 (x,k)=((x.1,x.2.1,x.2.2.1,x.2.2.2.1,x.2.2.2.2.1.eraseIdx i,x.2.2.2.2.2),HU (AY x.2.2.2.2.1) [AY (x.2.2.2.2.1.eraseIdx i)],true) /\
 Lz (x,k)=((x.1,x.2.1,x.2.2.1,x.2.2.2.1,x.2.2.2.2.1.eraseIdx i,x.2.2.2.2.2),HU (AY x.2.2.2.2.1) [AY (x.2.2.2.2.1.eraseIdx i)],true):=by
 have hl:x.2.2.2.2.1.length<=1048576:=hs.2.2.1.1
 obtain⟨e1,e2,e3⟩:=MU x hs
 obtain⟨k1,k2⟩:=RB (x,k) hl
 have hb:bOr (bNot true) (iLt (i:Int) 0)=false:=by
  rw[Ba,AG,Ap,DP (by omega)];rfl
 obtain⟨c1,c2⟩:=Wk x hs
 obtain⟨d1,d2⟩:=gH x hs
 obtain⟨w1,w2⟩:=vr x.2.2.2.2.1 i hi hl
 have hl':(x.2.2.2.2.1.eraseIdx i).length<=1048576:=by rw[List.length_eraseIdx];split<;>omega
 obtain⟨r1,r2,r3,r4⟩:=KC x.2.2.2.2.1 hl
 obtain⟨s1,s2,s3,s4⟩:=KC (x.2.2.2.2.1.eraseIdx i) hl'
 rw[r3] at r4
 rw[s3] at s4
 obtain⟨g1,g2,g3,g4⟩:=iT (AY x.2.2.2.2.1) [AY (x.2.2.2.2.1.eraseIdx i)] r4 (by simp) (λ r hr=>by rw[List.mem_singleton] at hr;rw[hr];exact s4)
 have hw:=V5 x.2.2.2.2.1 (i:Int) (by omega) (by omega) hl
 have e:iAdd .i64 (i:Int) 1=((i+1:Nat):Int):=by rw[Bu (by unfold AO;omega)];omega
 rw[sY,sD,sX,sZ,tc,sC]
 simp only[Ws,<- e3,he,hk,c2,d2,w1,w2,r3,s3,g3,g4,hb,CP]
 refine⟨⟨k1,e1,(λ h=>by cases h),λ _=>⟨c1,hw,r1,s1,g1,trivial,trivial,trivial⟩⟩,⟨⟨e2,λ _=>trivial,λ _=>k2⟩,(λ h=>by cases h),λ _=>⟨d1,k2,⟨by omega,by omega,by rw[Ax];omega,by omega⟩,?_,?_,r2,s2,g2⟩⟩,trivial,trivial⟩
 . rw[e];simp only[Ax,HN];omega
 . simp only[e,Ax,HN,HC,Ha,L5,Eu,Nz,Bn]
   refine⟨by omega,by omega,by unfold Av;omega⟩
theorem EngOk.rel{x:Cj}(h:EngOk x)(hl:x.2.2.2.2.1.length<=1048576)(i:Nat):EngOk (x.1,x.2.1,x.2.2.1,x.2.2.2.1,x.2.2.2.2.1.eraseIdx i,x.2.2.2.2.2):=by
 obtain⟨a1,a2,a3,a4,a5,a6,a7,a8,a9,a10⟩:=h;have hsub:=List.eraseIdx_sublist x.2.2.2.2.1 i;have hl':(x.2.2.2.2.1.eraseIdx i).length<=1048576:=JC hsub.length_le hl;obtain⟨b1,b2⟩:=(M1 hl).1 a4;refine⟨a1,a2,a3,(M1 hl').2 ⟨λ a ha=>b1 a (hsub.subset ha),b2.sublist hsub⟩,λ a ha=>a5 a (hsub.subset ha),a6,a7,a8,a9,a10⟩
end
end
end Go.Ag
