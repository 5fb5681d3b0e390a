/- Part 6 of what FnPressed needs. No conditions. -/
import Derived.Sort.Row
import Derived.Sort.Grow
import Derived.Test.YtbkpfpcnjpggaaaGreatLibE
namespace Go.Ag
set_option linter.unusedSimpArgs false
set_option linter.unusedVariables false
noncomputable section
section
set_option maxRecDepth 8000
def tU:DCode:=(.seq [2,1] (.region [oa 0 2 (.boxB 0 7 (.t 0)),oi 1 4 0]) (.seq [] (.seq [5,2,1] (.region [oi 0 5 0]) (.block 0 (.loop [1,2,5] 1 (.seq [5,2,1] (.seq [10,5,2,1] (.region [om 0 6 5,oa 1 7 (.fieldA 4 (.t 2)),oa 2 8 (.loadB 0 none (.t 7)),oa 3 9 (.len (.t 8)),oa 4 10 (.bin .lss (.t 6) (.t 9))]) (.cond (.t 10) .skip (.exit 0))) (.seq [5,2,1] (.block 1 (.seq [20,5,2,1] (.region [oa 0 13 (.fieldA 4 (.t 2)),oa 1 14 (.loadB 0 none (.t 13)),om 2 15 5,oa 3 16 (.indexA 5 (.t 14) (.t 15)),oa 4 17 (.fieldA 0 (.t 16)),oa 5 18 (.loadH none (.t 17)),om 6 19 1,oa 7 20 (.bin .eql (.t 18) (.t 19))]) (.cond (.t 20) (.seq [4] (.region [om 0 21 5,om 1 4 21]) .ret) .skip))) (.region [om 0 11 5,oa 1 12 (.bin .add (.t 11) Au),om 2 5 12])))))) (.seq [4] (.region [oi 0 4 (-1)]) .ret)))
def GV:Fn:=⟨⟨2,22,1,true,[.tmp 4],tU⟩,[.agg [Aw,(.frz,.sl (.one (.sl BA))),(.frz,.sl (.one (.sl BD))),Aw,(.frz,.sl Bj),Aw,(.frz,.bool)],.one .frz (.int .i64)],.one (.one .own (.int .i64))⟩
theorem gf:GV.A:=AV trivial
def Ft:HQ->Int:=GV.V
def Q6:HQ->Prop:=GV.O
theorem gb:GV.B:=AX trivial (by kernel_rfl) (λ x=>by kernel_rfl)
def ve:DCode:=(.seq [2,1] (.region [oa 0 2 (.boxB 0 7 (.t 0)),oi 1 4 0]) (.seq [] (.seq [10,9,8,1] (.region [oa 0 7 (.fieldA 4 (.t 2)),oa 1 8 (.loadB 0 none (.t 7)),oa 2 9 (.len (.t 8)),oi 3 10 0]) (.block 0 (.loop [1,8,9,10] 1 (.seq [11,10,9,8,1] (.region [oa 0 11 (.bin .lss (.t 10) (.t 9))]) (.seq [10,9,8,1] (.cond (.t 11) .skip (.exit 0)) (.seq [10,9,8,1] (.block 1 (.seq [10,9,8,6,5,1] (.region [om 0 12 10,oa 1 13 (.indexA 5 (.t 8) (.t 10)),ob 2 14 (.loadH (some 5) (.t 13)),oa 3 6 (.allocB 1 [Ab,Ab,Ab,Ab,Ab]),om 4 5 12,os 5 (.storeB 1 5 (.t 6) (.t 14))]) (.seq [18,10,9,8,5,1] (.region [oa 0 15 (.fieldA 0 (.t 6)),oa 1 16 (.loadB 1 none (.t 15)),om 2 17 1,oa 3 18 (.bin .eql (.t 16) (.t 17))]) (.cond (.t 18) (.seq [4] (.region [om 0 19 5,om 1 4 19]) .ret) .skip)))) (.region [oa 0 20 (.bin .add (.t 10) Au),om 1 10 20]))))))) (.seq [4] (.region [oi 0 4 (-1)]) .ret)))
def Dw:Fn:=⟨⟨2,21,2,true,[.tmp 4],ve⟩,[.agg [Aw,(.frz,.sl (.one (.sl BA))),(.frz,.sl (.one (.sl BD))),Aw,(.frz,.sl Bj),Aw,(.frz,.bool)],.one .frz (.int .i64)],.one (.one .own (.int .i64))⟩
theorem Ra:Dw.A:=AV trivial
def BS:HQ->Int:=Dw.V
def Km:HQ->Prop:=Dw.O
theorem Q9:Dw.B:=AX trivial (by kernel_rfl) (λ x=>by kernel_rfl)
end
section
set_option maxRecDepth 100000
theorem tT (x):Ft x=(bSel (iLt (Am (fun(x0:Int)=>(bAnd (iLt x0 (lLen x.1.2.2.2.2.1)) (bNot (iEq (lGet x.1.2.2.2.2.1 (iNat x0) (0,0,0,0,0)).1 x.2)))) (fun(x0:Int)=>(iAdd .i64 x0 1)) 0) (lLen x.1.2.2.2.2.1)) (Am (fun(x0:Int)=>(bAnd (iLt x0 (lLen x.1.2.2.2.2.1)) (bNot (iEq (lGet x.1.2.2.2.2.1 (iNat x0) (0,0,0,0,0)).1 x.2)))) (fun(x0:Int)=>(iAdd .i64 x0 1)) 0) (-1)):=(GV.v x).trans (by kernel_rfl)
theorem uX (x):Q6 x=(LoopOk (fun(x0:Int)=>(bAnd (iLt x0 (lLen x.1.2.2.2.2.1)) (bNot (iEq (lGet x.1.2.2.2.2.1 (iNat x0) (0,0,0,0,0)).1 x.2)))) (fun(x0:Int)=>(iAdd .i64 x0 1)) (fun(x0:Int)=>(((iLt x0 (lLen x.1.2.2.2.2.1))=true->((((0:Int)<=x0)/\(x0<(((List.length x.1.2.2.2.2.1):Int))))/\((iNat x0)<(List.length x.1.2.2.2.2.1))))/\((iLt x0 (lLen x.1.2.2.2.2.1))=false->True))) 0):=(GV.o x).trans (by kernel_rfl)
theorem gC (x):BS x=(bSel (iLt (Am (fun(x0:Int)=>(bAnd (iLt x0 (lLen x.1.2.2.2.2.1)) (bNot (iEq (lGet x.1.2.2.2.2.1 (iNat x0) (0,0,0,0,0)).1 x.2)))) (fun(x0:Int)=>(iAdd .i64 x0 1)) 0) (lLen x.1.2.2.2.2.1)) (Am (fun(x0:Int)=>(bAnd (iLt x0 (lLen x.1.2.2.2.2.1)) (bNot (iEq (lGet x.1.2.2.2.2.1 (iNat x0) (0,0,0,0,0)).1 x.2)))) (fun(x0:Int)=>(iAdd .i64 x0 1)) 0) (-1)):=(Dw.v x).trans (by kernel_rfl)
theorem um (x):Km x=(LoopOk (fun(x0:Int)=>(bAnd (iLt x0 (lLen x.1.2.2.2.2.1)) (bNot (iEq (lGet x.1.2.2.2.2.1 (iNat x0) (0,0,0,0,0)).1 x.2)))) (fun(x0:Int)=>(iAdd .i64 x0 1)) (fun(x0:Int)=>(((iLt x0 (lLen x.1.2.2.2.2.1))=true->((((0:Int)<=x0)/\(x0<(((List.length x.1.2.2.2.2.1):Int))))/\((iNat x0)<(List.length x.1.2.2.2.2.1))))/\((iLt x0 (lLen x.1.2.2.2.2.1))=false->True))) 0):=(Dw.o x).trans (by kernel_rfl)
attribute [irreducible] Ft Q6 BS Km
end
section
set_option maxRecDepth 8000
def pT:DCode:=(.seq [3,2] (.region [oa 0 2 (.boxB 0 2 (.t 0)),oa 1 3 (.boxB 1 2 (.t 1)),oa 2 4 (.mv An)]) (.seq [3,2] (.seq [19,3,2] (.region [oa 0 6 (.fieldA 0 (.t 2)),oa 1 7 (.loadB 0 none (.t 6)),oa 2 8 (.fieldA 0 (.t 3)),oa 3 9 (.loadB 1 none (.t 8)),oa 4 10 (.bin .neq (.t 7) (.t 9)),om 5 11 10,og 6 12 (.fieldA 1 (.t 2)) 11 false,og 7 13 (.loadB 0 none (.t 12)) 11 false,og 8 14 (.len (.t 13)) 11 false,og 9 15 (.fieldA 1 (.t 3)) 11 false,og 10 16 (.loadB 1 none (.t 15)) 11 false,og 11 17 (.len (.t 16)) 11 false,og 12 18 (.bin .neq (.t 14) (.t 17)) 11 false,oa 13 19 (.pick (.t 11) AR (.t 18))]) (.cond (.t 19) (.seq [4] (.region [oa 0 4 (.mv An)]) .ret) .skip)) (.seq [] (.seq [5,3,2] (.region [oi 0 5 0]) (.block 0 (.loop [2,3,5] 1 (.seq [5,3,2] (.seq [24,5,3,2] (.region [om 0 20 5,oa 1 21 (.fieldA 1 (.t 2)),oa 2 22 (.loadB 0 none (.t 21)),oa 3 23 (.len (.t 22)),oa 4 24 (.bin .lss (.t 20) (.t 23))]) (.cond (.t 24) .skip (.exit 0))) (.seq [5,3,2] (.block 1 (.seq [37,5,3,2] (.region [oa 0 27 (.fieldA 1 (.t 2)),xA 1 28 (.loadB 0 none (.t 27)) (rg 1),om 2 29 5,xA 3 30 (.indexA 1 (.t 28) (.t 29)) (rg 3),xA 4 31 (.loadH none (.t 30)) (rg 4),oa 5 32 (.fieldA 1 (.t 3)),xA 6 33 (.loadB 1 none (.t 32)) [5],om 7 34 5,xA 8 35 (.indexA 1 (.t 33) (.t 34)) [5,6,7],xA 9 36 (.loadH none (.t 35)) [5,6,7,8],xA 10 37 (.bin .neq (.t 31) (.t 36)) (rg 10)]) (.cond (.t 37) (.seq [4] (.region [oa 0 4 (.mv An)]) .ret) .skip))) (.region [om 0 25 5,oa 1 26 (.bin .add (.t 25) Au),om 2 5 26])))))) (.seq [4] (.region [oa 0 4 (.mv AR)]) .ret))))
def J7:Fn:=⟨⟨2,38,2,true,[.tmp 4],pT⟩,[.agg [Aw,(.frz,.sl (.one (.int .i64)))],.agg [Aw,(.frz,.sl (.one (.int .i64)))]],.one (.one .own (.bool))⟩
theorem pX:J7.A:=AV trivial
def Of:SW->Bool:=J7.V
def TN:SW->Prop:=J7.O
theorem pV:J7.B:=AX trivial (by kernel_rfl) (λ x=>by kernel_rfl)
def qW:DCode:=(.seq [1,0] (.region [oa 0 4 (.mv An)]) (.seq [1,0] (.seq [10,1,0] (.region [on 0 6 0,oa 1 7 (.len (.t 6)),on 2 8 1,oa 3 9 (.len (.t 8)),oa 4 10 (.bin .neq (.t 7) (.t 9))]) (.cond (.t 10) (.seq [4] (.region [oa 0 4 (.mv An)]) .ret) .skip)) (.seq [] (.seq [13,12,1,0] (.region [on 0 11 0,oa 1 12 (.len (.t 11)),oi 2 13 0]) (.block 0 (.loop [0,1,12,13] 1 (.seq [14,13,12,1,0] (.region [oa 0 14 (.bin .lss (.t 13) (.t 12))]) (.seq [13,12,1,0] (.cond (.t 14) .skip (.exit 0)) (.seq [13,12,1,0] (.block 1 (.seq [13,12,5,1,0] (.region [om 0 15 13,om 1 5 15]) (.seq [24,13,12,1,0] (.region [on 0 16 0,om 1 17 5,xA 2 18 (.indexA 1 (.t 16) (.t 17)) (rg 2),xA 3 19 (.loadH none (.t 18)) (rg 3),on 4 20 1,om 5 21 5,xA 6 22 (.indexA 1 (.t 20) (.t 21)) [4,5],xA 7 23 (.loadH none (.t 22)) [4,5,6],xA 8 24 (.bin .neq (.t 19) (.t 23)) (rg 8)]) (.cond (.t 24) (.seq [4] (.region [oa 0 4 (.mv An)]) .ret) .skip)))) (.region [oa 0 25 (.bin .add (.t 13) Au),om 1 13 25]))))))) (.seq [4] (.region [oa 0 4 (.mv AR)]) .ret))))
def Ih:Fn:=⟨⟨2,26,0,true,[.tmp 4],qW⟩,[.one .frz (.sl (.one (.int .i64))),.one .frz (.sl (.one (.int .i64)))],.one (.one .own (.bool))⟩
theorem qS:Ih.A:=AV trivial
def Y7:oL->Bool:=Ih.V
def YX:oL->Prop:=Ih.O
theorem rB:Ih.B:=AX trivial (by kernel_rfl) (λ x=>by kernel_rfl)
def pL:DCode:=(.seq [3,2] (.region [oa 0 2 (.boxB 0 2 (.t 0)),oa 1 3 (.boxB 1 2 (.t 1)),oa 2 4 (.mv An)]) (.seq [4] (.region [oa 0 5 (.fieldA 0 (.t 2)),oa 1 6 (.loadB 0 none (.t 5)),oa 2 7 (.fieldA 0 (.t 3)),oa 3 8 (.loadB 1 none (.t 7)),oa 4 9 (.bin .eql (.t 6) (.t 8)),om 5 10 9,og 6 11 (.fieldA 1 (.t 2)) 10 true,og 7 12 (.loadB 0 none (.t 11)) 10 true,og 8 13 (.fieldA 1 (.t 3)) 10 true,og 9 14 (.loadB 1 none (.t 13)) 10 true,⟨10,some 15,.call false Ih.S Ih.P Ih.D [(.t 12),(.t 14)],(some (10,true)),[]⟩,oa 11 16 (.pick (.t 10) (.t 15) An),om 12 4 16]) .ret))
def EU:Fn:=⟨⟨2,17,2,true,[.tmp 4],pL⟩,[.agg [Aw,(.frz,.sl (.one (.int .i64)))],.agg [Aw,(.frz,.sl (.one (.int .i64)))]],.one (.one .own (.bool))⟩
theorem Yz:EU.A:=AV ⟨qS,trivial⟩
def FQ:SW->Bool:=EU.V
def Lg:SW->Prop:=EU.O
theorem Yv:EU.B:=AX ⟨rB,trivial⟩ (by kernel_rfl) (λ x=>by kernel_rfl)
end
section
set_option maxRecDepth 100000
theorem p7 (x):Of x=(bAnd (bNot (bOr (iNe x.1.1 x.2.1) (iNe (lLen x.1.2) (lLen x.2.2)))) (bNot (iLt (Am (fun(x0:Int)=>(bAnd (iLt x0 (lLen x.1.2)) (bNot (iNe (lGet x.1.2 (iNat x0) 0) (lGet x.2.2 (iNat x0) 0))))) (fun(x0:Int)=>(iAdd .i64 x0 1)) 0) (lLen x.1.2)))):=(J7.v x).trans (by kernel_rfl)
theorem p6 (x):TN x=(((bOr (iNe x.1.1 x.2.1) (iNe (lLen x.1.2) (lLen x.2.2)))=true->True)/\((bOr (iNe x.1.1 x.2.1) (iNe (lLen x.1.2) (lLen x.2.2)))=false->(LoopOk (fun(x0:Int)=>(bAnd (iLt x0 (lLen x.1.2)) (bNot (iNe (lGet x.1.2 (iNat x0) 0) (lGet x.2.2 (iNat x0) 0))))) (fun(x0:Int)=>(iAdd .i64 x0 1)) (fun(x0:Int)=>(((iLt x0 (lLen x.1.2))=true->((((0:Int)<=x0)/\(x0<(((List.length x.1.2):Int))))/\(((iNat x0)<(List.length x.1.2))/\((((0:Int)<=x0)/\(x0<(((List.length x.2.2):Int))))/\((iNat x0)<(List.length x.2.2))))))/\((iLt x0 (lLen x.1.2))=false->True))) 0))):=(J7.o x).trans (by kernel_rfl)
theorem fb (x):Y7 x=(bAnd (bNot (iNe (lLen x.1) (lLen x.2))) (bNot (iLt (Am (fun(x0:Int)=>(bAnd (iLt x0 (lLen x.1)) (bNot (iNe (lGet x.1 (iNat x0) 0) (lGet x.2 (iNat x0) 0))))) (fun(x0:Int)=>(iAdd .i64 x0 1)) 0) (lLen x.1)))):=(Ih.v x).trans (by kernel_rfl)
theorem rX (x):YX x=(((iNe (lLen x.1) (lLen x.2))=true->True)/\((iNe (lLen x.1) (lLen x.2))=false->(LoopOk (fun(x0:Int)=>(bAnd (iLt x0 (lLen x.1)) (bNot (iNe (lGet x.1 (iNat x0) 0) (lGet x.2 (iNat x0) 0))))) (fun(x0:Int)=>(iAdd .i64 x0 1)) (fun(x0:Int)=>(((iLt x0 (lLen x.1))=true->((((0:Int)<=x0)/\(x0<(((List.length x.1):Int))))/\(((iNat x0)<(List.length x.1))/\((((0:Int)<=x0)/\(x0<(((List.length x.2):Int))))/\((iNat x0)<(List.length x.2))))))/\((iLt x0 (lLen x.1))=false->True))) 0))):=(Ih.o x).trans (by kernel_rfl)
theorem eO (x):FQ x=(bAnd (iEq x.1.1 x.2.1) (Y7 (x.1.2,x.2.2))):=(EU.v x).trans (by kernel_rfl)
theorem p5 (x):Lg x=(((iEq x.1.1 x.2.1)=true->(YX (x.1.2,x.2.2)))/\((iEq x.1.1 x.2.1)=false->True)):=(EU.o x).trans (by kernel_rfl)
attribute [irreducible] Of TN Y7 YX FQ Lg
end
section
set_option maxRecDepth 8000
def tS:DCode:=(.seq [3,0] (.region [oa 0 3 (.boxB 0 3 (.t 1)),oi 1 4 0]) (.seq [] (.seq [5,3,0] (.region [oi 0 5 0]) (.block 0 (.loop [0,3,5] 1 (.seq [5,3,0] (.seq [9,5,3,0] (.region [om 0 6 5,on 1 7 0,oa 2 8 (.len (.t 7)),oa 3 9 (.bin .lss (.t 6) (.t 8))]) (.cond (.t 9) .skip (.exit 0))) (.seq [5,3,0] (.block 1 (.seq [31,5,3,0] (.region [on 0 12 0,om 1 13 5,xA 2 14 (.indexA 5 (.t 12) (.t 13)) (rg 2),xA 3 15 (.fieldA 1 (.t 14)) (rg 3),xA 4 16 (.fieldA 1 (.t 15)) (rg 4),xA 5 17 (.loadH none (.t 16)) (rg 5),oa 6 18 (.fieldA 1 (.t 3)),xA 7 19 (.loadB 0 none (.t 18)) [6],xA 8 20 (.bin .eql (.t 17) (.t 19)) (rg 8),xA 9 21 (.mv (.t 20)) (rg 9),⟨10,some 22,.a true (.mv (.t 0)) none,(some (21,true)),[0,1,2,3,4,5,6,7,8,9]⟩,⟨11,some 23,.a false (.mv (.t 5)) none,(some (21,true)),[0,1,2,3,4,5,6,7,8,9]⟩,⟨12,some 24,.a false (.indexA 5 (.t 22) (.t 23)) none,(some (21,true)),[0,1,2,3,4,5,6,7,8,9,10,11]⟩,⟨13,some 25,.a false (.fieldA 1 (.t 24)) none,(some (21,true)),[0,1,2,3,4,5,6,7,8,9,10,11,12]⟩,⟨14,some 26,.a false (.fieldA 2 (.t 25)) none,(some (21,true)),[0,1,2,3,4,5,6,7,8,9,10,11,12,13]⟩,⟨15,some 27,.a false (.loadH none (.t 26)) none,(some (21,true)),[0,1,2,3,4,5,6,7,8,9,10,11,12,13,14]⟩,⟨16,some 28,.a false (.fieldA 2 (.t 3)) none,(some (21,true)),[0,1,2,3,4,5,6,7,8,9]⟩,⟨17,some 29,.a false (.loadB 0 none (.t 28)) none,(some (21,true)),[0,1,2,3,4,5,6,7,8,9,16]⟩,⟨18,some 30,.a false (.bin .eql (.t 27) (.t 29)) none,(some (21,true)),[0,1,2,3,4,5,6,7,8,9,10,11,12,13,14,15,16,17]⟩,xA 19 31 (.pick (.t 21) (.t 30) An) (rg 19)]) (.cond (.t 31) (.seq [4] (.region [om 0 32 5,om 1 4 32]) .ret) .skip))) (.region [om 0 10 5,oa 1 11 (.bin .add (.t 10) Au),om 2 5 11])))))) (.seq [4] (.region [oi 0 4 (-1)]) .ret)))
def Iq:Fn:=⟨⟨2,33,1,true,[.tmp 4],tS⟩,[.one .frz (.sl Bj),.agg [Aw,Aw,Aw]],.one (.one .own (.int .i64))⟩
theorem gA:Iq.A:=AV trivial
def B7:oI->Int:=Iq.V
def ML:oI->Prop:=Iq.O
theorem gm:Iq.B:=AX trivial (by kernel_rfl) (λ x=>by kernel_rfl)
def qU:DCode:=(.seq [2,1] (.region [oa 0 1 (.boxB 0 3 (.t 0)),oa 1 2 (.allocB 1 [Ab,Ab,Ab,Ab])]) (.seq [2] (.region [oa 0 3 (.fieldA 1 (.t 1)),ob 1 4 (.loadB 0 none (.t 3)),oa 2 5 (.fieldA 2 (.t 1)),ob 3 6 (.loadB 0 none (.t 5)),oa 4 7 (.build [Ab,Ab,Ab,Ab] [(0,1,(.c (.int .i64 2))),(1,1,(.t 4)),(2,1,(.t 6))]),os 5 (.storeB 1 4 (.t 2) (.t 7))]) .ret))
def FU:Fn:=⟨⟨1,8,2,true,[.cell 2 (some 4)],qU⟩,[.agg [Aw,Aw,Aw]],.one (.agg [Aq,Aq,Aq,Aq])⟩
theorem YZ:FU.A:=AV trivial
def A3:CS->Int×Int×Int×Int:=FU.V
def QE:CS->Prop:=FU.O
theorem YU:FU.B:=AX trivial (by kernel_rfl) (λ x=>by kernel_rfl)
def qe:DCode:=(.seq [1,0] (.region [oa 0 4 (.mv (.c .nils))]) (.seq [4] (.region [on 1 6 0,om 2 7 1,xA 3 8 (.slice 5 (.t 6) none (some (.t 7))) [1,2],on 5 10 0,om 6 11 1,xA 7 12 (.bin .add (.t 11) Au) [6],xA 8 13 (.slice 5 (.t 10) (some (.t 12)) none) [5,6,7],⟨0,some 5,.a false (.litSlice 5 0 [] []) (some Bj),none,[]⟩,xA 4 9 (.app 5 (.t 5) (.t 8)) (rg 4),xA 9 14 (.app 5 (.t 9) (.t 13)) (rg 9),xA 10 4 (.mv (.t 14)) (rg 10)]) .ret))
def GN:Fn:=⟨⟨2,15,0,false,[.tmp 4],qe⟩,[.one .frz (.sl Bj),.one .frz (.int .i64)],.one (.one .own (.sl Bj))⟩
theorem YH:GN.A:=AV trivial
def Dj:He->List Fc:=GN.V
def ME:He->Prop:=GN.O
theorem YJ:GN.B:=AX trivial (by kernel_rfl) (λ x=>by kernel_rfl)
def sB:DCode:=(.seq [0] (.region [oa 0 2 (.mv An)]) (.seq [3,0] (.region [⟨0,some 7,.a false (.litSlice 5 0 [] []) (some Bj),none,[]⟩,om 1 3 7]) (.seq [3,0] (.seq [4,3,0] (.region [oi 0 4 0]) (.block 0 (.loop [0,3,4] 1 (.seq [4,3,0] (.seq [11,4,3,0] (.region [om 0 8 4,on 1 9 0,oa 2 10 (.len (.t 9)),oa 3 11 (.bin .lss (.t 8) (.t 10))]) (.cond (.t 11) .skip (.exit 0))) (.seq [4,3,0] (.block 1 (.seq [5,4,3,0] (.region [on 0 14 0,om 1 15 4,oa 2 16 (.indexA 3 (.t 14) (.t 15)),ob 3 17 (.loadH (some 3) (.t 16)),oa 4 5 (.allocB 0 [Ab,Ab,Ab]),os 5 (.storeB 0 3 (.t 5) (.t 17))]) (.seq [6,5,4,3,0] (.region [on 0 18 3,oa 1 19 (.loadB 0 (some 3) (.t 5)),oF 2 20 Iq [(.t 18),(.t 19)],om 3 6 20]) (.seq [6,5,4,3,0] (.seq [38,6,5,4,3,0] (.region [oa 0 21 (.fieldA 0 (.t 5)),oa 1 22 (.loadB 0 none (.t 21)),oF 2 23 BM [(.t 22),AE,(.c (.int .i64 2))],oa 3 24 (.un .not (.t 23)),om 4 25 24,og 5 26 (.loadB 0 (some 3) (.t 5)) 25 false,⟨6,some 27,.call false FU.S FU.P FU.D [(.t 26)],(some (25,false)),[]⟩,⟨7,some 28,.call false Ek.S Ek.P Ek.D [(.t 27)],(some (25,false)),[]⟩,og 8 29 (.un .not (.t 28)) 25 false,oa 9 30 (.pick (.t 25) AR (.t 29)),om 10 31 30,og 11 32 (.fieldA 0 (.t 5)) 31 false,og 12 33 (.loadB 0 none (.t 32)) 31 false,og 13 34 (.bin .eql (.t 33) (.c (.int .i64 2))) 31 false,og 14 35 (.mv (.t 6)) 31 false,og 15 36 (.bin .geq (.t 35) AE) 31 false,og 16 37 (.eqB true (.t 34) (.t 36)) 31 false,oa 17 38 (.pick (.t 31) AR (.t 37))]) (.cond (.t 38) (.seq [2] (.region [oa 0 2 (.mv An)]) .ret) .skip)) (.seq [40,6,5,4,3,0] (.region [oa 0 39 (.fieldA 0 (.t 5)),oa 1 40 (.loadB 0 none (.t 39))]) (.block 2 (.seq [41,40,6,5,4,3,0] (.region [oa 0 42 (.bin .eql (.t 40) Au),om 1 41 42]) (.cond (.t 41) (.region [om 0 43 3,oa 1 44 (.loadB 0 (some 3) (.t 5)),oF 2 45 FU [(.t 44)],oa 3 46 (.build [Ab,Ab,Ab,Ab,Ab] [(1,4,(.t 45))]),⟨4,some 47,.a false (.litSlice 5 1 [Ab,Ab,Ab,Ab,Ab] [(0,5,(.t 46))]) (some Bj),none,[]⟩,oa 5 48 (.app 5 (.t 43) (.t 47)),om 6 3 48]) (.seq [49,6,4,3,0] (.region [oa 0 50 (.bin .eql (.t 40) (.c (.int .i64 2))),om 1 49 50]) (.cond (.t 49) (.region [on 0 51 3,om 1 52 6,oF 2 53 GN [(.t 51),(.t 52)],om 3 3 53]) .skip)))))))))) (.region [om 0 12 4,oa 1 13 (.bin .add (.t 12) Au),om 2 4 13])))))) (.seq [2] (.region [on 0 54 0,oa 1 55 (.len (.t 54)),oa 2 56 (.bin .leq (.t 55) (.c (.int .i64 8))),om 3 57 56,⟨4,some 58,.a true (.mv (.t 3)) none,(some (57,true)),[]⟩,og 5 59 (.len (.t 58)) 57 true,og 6 60 (.bin .eql (.t 59) AE) 57 true,oa 7 61 (.pick (.t 57) (.t 60) An),om 8 2 61]) .ret))))
def GQ:Fn:=⟨⟨1,62,1,true,[.tmp 2],sB⟩,[.one .frz (.sl BD)],.one (.one .own (.bool))⟩
theorem fF:GQ.A:=AV ⟨gA,Gk,YZ,T1,YZ,YH,trivial⟩
def Gi:CY->Bool:=GQ.V
def Ow:CY->Prop:=GQ.O
theorem fU:GQ.B:=AX ⟨gm,Gj,YU,Ul,YU,YJ,trivial⟩ (by kernel_rfl) (λ x=>by kernel_rfl)
def uc:DCode:=(.seq [3,0] (.region [oa 0 3 (.boxB 0 2 (.t 1)),oi 1 4 0]) (.seq [] (.seq [9,8,7,3] (.region [on 0 7 0,oa 1 8 (.len (.t 7)),oi 2 9 0]) (.block 0 (.loop [3,7,8,9] 1 (.seq [10,9,8,7,3] (.region [oa 0 10 (.bin .lss (.t 9) (.t 8))]) (.seq [9,8,7,3] (.cond (.t 10) .skip (.exit 0)) (.seq [9,8,7,3] (.block 1 (.seq [9,8,7,6,5,3] (.region [om 0 11 9,oa 1 12 (.indexA 2 (.t 7) (.t 9)),ob 2 13 (.loadH (some 2) (.t 12)),oa 3 6 (.allocB 1 [Ab,Ab]),om 4 5 11,os 5 (.storeB 1 2 (.t 6) (.t 13))]) (.seq [16,9,8,7,5,3] (.region [oa 0 14 (.loadB 1 (some 2) (.t 6)),oa 1 15 (.loadB 0 (some 2) (.t 3)),oa 2 16 (.eqA 2 false (.t 14) (.t 15))]) (.cond (.t 16) (.seq [4] (.region [om 0 17 5,om 1 4 17]) .ret) .skip)))) (.region [oa 0 18 (.bin .add (.t 9) Au),om 1 9 18]))))))) (.seq [4] (.region [oi 0 4 (-1)]) .ret)))
def Is:Fn:=⟨⟨2,19,2,true,[.tmp 4],uc⟩,[.one .frz (.sl (.cons (.int .i64) (.one (.int .i64)))),.agg [Aw,Aw]],.one (.one .own (.int .i64))⟩
theorem gh:Is.A:=AV trivial
def Bh:oE->Int:=Is.V
def OJ:oE->Prop:=Is.O
theorem fX:Is.B:=AX trivial (by kernel_rfl) (λ x=>by kernel_rfl)
def sM:DCode:=(.seq [0] (.region [oa 0 2 (.mv An)]) (.seq [0] (.seq [10,0] (.region [on 0 8 0,oa 1 9 (.len (.t 8)),oa 2 10 (.bin .gtr (.t 9) (.c (.int .i64 8)))]) (.cond (.t 10) (.seq [2] (.region [oa 0 2 (.mv An)]) .ret) .skip)) (.seq [3,0] (.region [⟨0,some 3,.aw [(0,2)] false (.mv (.c .nils)) none,none,[]⟩]) (.seq [3] (.seq [13,12,11,3] (.region [on 0 11 0,oa 1 12 (.len (.t 11)),oi 2 13 0]) (.block 0 (.loop [3,11,12,13] 1 (.seq [14,13,12,11,3] (.region [oa 0 14 (.bin .lss (.t 13) (.t 12))]) (.seq [13,12,11,3] (.cond (.t 14) .skip (.exit 0)) (.seq [13,12,11,3] (.block 1 (.seq [13,12,11,5,3] (.region [oa 0 15 (.indexA 3 (.t 11) (.t 13)),ob 1 16 (.loadH (some 3) (.t 15)),oa 2 5 (.allocB 0 [Ab,Ab,Ab]),os 3 (.storeB 0 3 (.t 5) (.t 16))]) (.seq [13,12,11,6,5,3] (.region [oa 0 17 (.fieldA 1 (.t 5)),ob 1 18 (.loadB 0 none (.t 17)),oa 2 19 (.fieldA 2 (.t 5)),ob 3 20 (.loadB 0 none (.t 19)),oa 4 21 (.build [Ab,Ab] [(0,1,(.t 18)),(1,1,(.t 20))]),oa 5 6 (.allocB 1 [Ab,Ab]),os 6 (.storeB 1 2 (.t 6) (.t 21))]) (.seq [13,12,11,7,6,5,3] (.region [on 0 22 3,oa 1 23 (.loadB 1 (some 2) (.t 6)),oF 2 24 Is [(.t 22),(.t 23)],om 3 7 24]) (.seq [13,12,11,7,6,5,3] (.seq [31,13,12,11,7,6,5,3] (.region [oa 0 25 (.fieldA 1 (.t 5)),ob 1 26 (.loadB 0 none (.t 25)),oa 2 27 (.fieldA 2 (.t 5)),ob 3 28 (.loadB 0 none (.t 27)),oa 4 29 (.build [Ab,Ab,Ab,Ab] [(0,1,(.c (.int .i64 2))),(1,1,(.t 26)),(2,1,(.t 28))]),oF 5 30 EY [(.t 29)],oa 6 31 (.un .not (.t 30))]) (.cond (.t 31) (.seq [2] (.region [oa 0 2 (.mv An)]) .ret) .skip)) (.seq [33,13,12,11,7,6,5,3] (.region [oa 0 32 (.fieldA 0 (.t 5)),oa 1 33 (.loadB 0 none (.t 32))]) (.block 2 (.seq [34,33,13,12,11,7,6,5,3] (.seq [34,33,13,12,11,7,6,5,3] (.region [oa 0 35 (.bin .eql (.t 33) AE),om 1 34 35]) (.cond (.t 34) .skip (.region [oa 0 36 (.bin .eql (.t 33) Au),om 1 34 36]))) (.cond (.t 34) (.seq [13,12,11,6,5,3] (.seq [38,13,12,11,6,5,3] (.region [om 0 37 7,oa 1 38 (.bin .geq (.t 37) AE)]) (.cond (.t 38) (.seq [2] (.region [oa 0 2 (.mv An)]) .ret) .skip)) (.seq [41,13,12,11,6,3] (.region [oa 0 39 (.fieldA 0 (.t 5)),oa 1 40 (.loadB 0 none (.t 39)),oa 2 41 (.bin .eql (.t 40) Au)]) (.cond (.t 41) (.region [om 0 42 3,ob 1 43 (.loadB 1 (some 2) (.t 6)),⟨2,some 44,.a false (.litSlice 2 1 [Ab,Ab] [(0,2,(.t 43))]) (some (.cons (.int .i64) (.one (.int .i64)))),none,[]⟩,⟨3,some 45,.aw [(0,2)] false (.app 2 (.t 42) (.t 44)) none,none,[]⟩,⟨4,some 3,.aw [(0,2)] false (.mv (.t 45)) none,none,[]⟩]) .skip))) (.seq [46,13,12,11,7,3] (.region [oa 0 47 (.bin .eql (.t 33) (.c (.int .i64 2))),om 1 46 47]) (.cond (.t 46) (.seq [13,12,11,7,3] (.seq [49,13,12,11,7,3] (.region [om 0 48 7,oa 1 49 (.bin .lss (.t 48) AE)]) (.cond (.t 49) (.seq [2] (.region [oa 0 2 (.mv An)]) .ret) .skip)) (.region [on 0 50 3,om 1 51 7,xA 2 52 (.slice 2 (.t 50) none (some (.t 51))) (rg 2),on 3 53 3,om 4 54 7,xA 5 55 (.bin .add (.t 54) Au) [4],xA 6 56 (.slice 2 (.t 53) (some (.t 55)) none) [3,4,5],⟨7,some 57,.aw [(0,2)] false (.app 2 (.t 52) (.t 56)) none,none,[0,1,2,3,4,5,6]⟩,⟨8,some 3,.aw [(0,2)] false (.mv (.t 57)) none,none,[0,1,2,3,4,5,6,7]⟩])) (.seq [2] (.region [oa 0 2 (.mv An)]) .ret)))))))))))) (.region [oa 0 58 (.bin .add (.t 13) Au),om 1 13 58]))))))) (.seq [2] (.region [on 0 59 3,oa 1 60 (.len (.t 59)),oa 2 61 (.bin .eql (.t 60) AE),om 3 2 61]) .ret)))))
def GR:Fn:=⟨⟨1,62,2,true,[.tmp 2],sM⟩,[.one .frz (.sl BD)],.one (.one .own (.bool))⟩
theorem fI:GR.A:=AV ⟨gh,T9,trivial⟩
def Io:CY->Bool:=GR.V
def Ox:CY->Prop:=GR.O
theorem fJ:GR.B:=AX ⟨fX,Um,trivial⟩ (by kernel_rfl) (λ x=>by kernel_rfl)
end
section
set_option maxRecDepth 100000
theorem tJ (x):B7 x=(bSel (iLt (Am (fun(x0:Int)=>(bAnd (iLt x0 (lLen x.1)) (bNot (bAnd (iEq (lGet x.1 (iNat x0) (0,0,0,0,0)).2.2.1 x.2.2.1) (iEq (lGet x.1 (iNat x0) (0,0,0,0,0)).2.2.2.1 x.2.2.2))))) (fun(x0:Int)=>(iAdd .i64 x0 1)) 0) (lLen x.1)) (Am (fun(x0:Int)=>(bAnd (iLt x0 (lLen x.1)) (bNot (bAnd (iEq (lGet x.1 (iNat x0) (0,0,0,0,0)).2.2.1 x.2.2.1) (iEq (lGet x.1 (iNat x0) (0,0,0,0,0)).2.2.2.1 x.2.2.2))))) (fun(x0:Int)=>(iAdd .i64 x0 1)) 0) (-1)):=(Iq.v x).trans (by kernel_rfl)
theorem uP (x):ML x=(LoopOk (fun(x0:Int)=>(bAnd (iLt x0 (lLen x.1)) (bNot (bAnd (iEq (lGet x.1 (iNat x0) (0,0,0,0,0)).2.2.1 x.2.2.1) (iEq (lGet x.1 (iNat x0) (0,0,0,0,0)).2.2.2.1 x.2.2.2))))) (fun(x0:Int)=>(iAdd .i64 x0 1)) (fun(x0:Int)=>(((iLt x0 (lLen x.1))=true->((((0:Int)<=x0)/\(x0<(((List.length x.1):Int))))/\(((iNat x0)<(List.length x.1))/\(((iEq (lGet x.1 (iNat x0) (0,0,0,0,0)).2.2.1 x.2.2.1)=true->((((0:Int)<=x0)/\(x0<(((List.length x.1):Int))))/\((iNat x0)<(List.length x.1))))/\((iEq (lGet x.1 (iNat x0) (0,0,0,0,0)).2.2.1 x.2.2.1)=false->True)))))/\((iLt x0 (lLen x.1))=false->True))) 0):=(Iq.o x).trans (by kernel_rfl)
theorem MF (x):A3 x=(2,x.2.1,x.2.2,0):=(FU.v x).trans (by kernel_rfl)
theorem fu (x):QE x=True:=(FU.o x).trans (by kernel_rfl)
theorem Qy (x):Dj x=(lApp (lApp [] (lSub x.1 0 (iNat x.2))) (lSub x.1 (iNat (iAdd .i64 x.2 1)) (lN x.1))):=(GN.v x).trans (by kernel_rfl)
theorem qB (x):ME x=((((0:Int)<=x.2)/\((0<=(iNat x.2))/\(((iNat x.2)<=(List.length x.1))/\(0<(List.length x.1)))))/\((((0:Int)<=(iAdd .i64 x.2 1))/\(((iNat (iAdd .i64 x.2 1))<=(lN x.1))/\(((lN x.1)<=(List.length x.1))/\(0<(List.length x.1)))))/\((Av (((List.length ([]:List Fc))+(List.length (lSub x.1 0 (iNat x.2))))*5))/\(Av (((List.length (lApp [] (lSub x.1 0 (iNat x.2))))+(List.length (lSub x.1 (iNat (iAdd .i64 x.2 1)) (lN x.1))))*5))))):=(GN.o x).trans (by kernel_rfl)
theorem Y3 (x):Gi x=(bAnd (bNot (iLt (Am (fun(x0:He)=>(bAnd (iLt x0.2 (lLen x)) (bNot (bOr (bNot (BH ((lGet x (iNat x0.2) (0,0,0)).1,0,2))) (bOr (bNot (Eb ((A3 ((lGet x (iNat x0.2) (0,0,0)).1,(lGet x (iNat x0.2) (0,0,0)).2.1,(lGet x (iNat x0.2) (0,0,0)).2.2)).1,(A3 ((lGet x (iNat x0.2) (0,0,0)).1,(lGet x (iNat x0.2) (0,0,0)).2.1,(lGet x (iNat x0.2) (0,0,0)).2.2)).2.1,(A3 ((lGet x (iNat x0.2) (0,0,0)).1,(lGet x (iNat x0.2) (0,0,0)).2.1,(lGet x (iNat x0.2) (0,0,0)).2.2)).2.2.1,(A3 ((lGet x (iNat x0.2) (0,0,0)).1,(lGet x (iNat x0.2) (0,0,0)).2.1,(lGet x (iNat x0.2) (0,0,0)).2.2)).2.2.2))) (bNot (bIff (iEq (lGet x (iNat x0.2) (0,0,0)).1 2) (iGe (B7 (x0.1,(lGet x (iNat x0.2) (0,0,0)).1,(lGet x (iNat x0.2) (0,0,0)).2.1,(lGet x (iNat x0.2) (0,0,0)).2.2)) 0)))))))) (fun(x0:He)=>((bSel (iEq (lGet x (iNat x0.2) (0,0,0)).1 1) (lApp x0.1 [(0,(A3 ((lGet x (iNat x0.2) (0,0,0)).1,(lGet x (iNat x0.2) (0,0,0)).2.1,(lGet x (iNat x0.2) (0,0,0)).2.2)).1,(A3 ((lGet x (iNat x0.2) (0,0,0)).1,(lGet x (iNat x0.2) (0,0,0)).2.1,(lGet x (iNat x0.2) (0,0,0)).2.2)).2.1,(A3 ((lGet x (iNat x0.2) (0,0,0)).1,(lGet x (iNat x0.2) (0,0,0)).2.1,(lGet x (iNat x0.2) (0,0,0)).2.2)).2.2.1,(A3 ((lGet x (iNat x0.2) (0,0,0)).1,(lGet x (iNat x0.2) (0,0,0)).2.1,(lGet x (iNat x0.2) (0,0,0)).2.2)).2.2.2)]) (bSel (iEq (lGet x (iNat x0.2) (0,0,0)).1 2) (Dj (x0.1,(B7 (x0.1,(lGet x (iNat x0.2) (0,0,0)).1,(lGet x (iNat x0.2) (0,0,0)).2.1,(lGet x (iNat x0.2) (0,0,0)).2.2)))) x0.1)),(iAdd .i64 x0.2 1))) ([],0)).2 (lLen x))) (bAnd (iLe (lLen x) 8) (iEq (lLen (Am (fun(x0:He)=>(bAnd (iLt x0.2 (lLen x)) (bNot (bOr (bNot (BH ((lGet x (iNat x0.2) (0,0,0)).1,0,2))) (bOr (bNot (Eb ((A3 ((lGet x (iNat x0.2) (0,0,0)).1,(lGet x (iNat x0.2) (0,0,0)).2.1,(lGet x (iNat x0.2) (0,0,0)).2.2)).1,(A3 ((lGet x (iNat x0.2) (0,0,0)).1,(lGet x (iNat x0.2) (0,0,0)).2.1,(lGet x (iNat x0.2) (0,0,0)).2.2)).2.1,(A3 ((lGet x (iNat x0.2) (0,0,0)).1,(lGet x (iNat x0.2) (0,0,0)).2.1,(lGet x (iNat x0.2) (0,0,0)).2.2)).2.2.1,(A3 ((lGet x (iNat x0.2) (0,0,0)).1,(lGet x (iNat x0.2) (0,0,0)).2.1,(lGet x (iNat x0.2) (0,0,0)).2.2)).2.2.2))) (bNot (bIff (iEq (lGet x (iNat x0.2) (0,0,0)).1 2) (iGe (B7 (x0.1,(lGet x (iNat x0.2) (0,0,0)).1,(lGet x (iNat x0.2) (0,0,0)).2.1,(lGet x (iNat x0.2) (0,0,0)).2.2)) 0)))))))) (fun(x0:He)=>((bSel (iEq (lGet x (iNat x0.2) (0,0,0)).1 1) (lApp x0.1 [(0,(A3 ((lGet x (iNat x0.2) (0,0,0)).1,(lGet x (iNat x0.2) (0,0,0)).2.1,(lGet x (iNat x0.2) (0,0,0)).2.2)).1,(A3 ((lGet x (iNat x0.2) (0,0,0)).1,(lGet x (iNat x0.2) (0,0,0)).2.1,(lGet x (iNat x0.2) (0,0,0)).2.2)).2.1,(A3 ((lGet x (iNat x0.2) (0,0,0)).1,(lGet x (iNat x0.2) (0,0,0)).2.1,(lGet x (iNat x0.2) (0,0,0)).2.2)).2.2.1,(A3 ((lGet x (iNat x0.2) (0,0,0)).1,(lGet x (iNat x0.2) (0,0,0)).2.1,(lGet x (iNat x0.2) (0,0,0)).2.2)).2.2.2)]) (bSel (iEq (lGet x (iNat x0.2) (0,0,0)).1 2) (Dj (x0.1,(B7 (x0.1,(lGet x (iNat x0.2) (0,0,0)).1,(lGet x (iNat x0.2) (0,0,0)).2.1,(lGet x (iNat x0.2) (0,0,0)).2.2)))) x0.1)),(iAdd .i64 x0.2 1))) ([],0)).1) 0))):=(GQ.v x).trans (by kernel_rfl)
theorem tq (x):Ow x=(LoopOk (fun(x0:He)=>(bAnd (iLt x0.2 (lLen x)) (bNot (bOr (bNot (BH ((lGet x (iNat x0.2) (0,0,0)).1,0,2))) (bOr (bNot (Eb ((A3 ((lGet x (iNat x0.2) (0,0,0)).1,(lGet x (iNat x0.2) (0,0,0)).2.1,(lGet x (iNat x0.2) (0,0,0)).2.2)).1,(A3 ((lGet x (iNat x0.2) (0,0,0)).1,(lGet x (iNat x0.2) (0,0,0)).2.1,(lGet x (iNat x0.2) (0,0,0)).2.2)).2.1,(A3 ((lGet x (iNat x0.2) (0,0,0)).1,(lGet x (iNat x0.2) (0,0,0)).2.1,(lGet x (iNat x0.2) (0,0,0)).2.2)).2.2.1,(A3 ((lGet x (iNat x0.2) (0,0,0)).1,(lGet x (iNat x0.2) (0,0,0)).2.1,(lGet x (iNat x0.2) (0,0,0)).2.2)).2.2.2))) (bNot (bIff (iEq (lGet x (iNat x0.2) (0,0,0)).1 2) (iGe (B7 (x0.1,(lGet x (iNat x0.2) (0,0,0)).1,(lGet x (iNat x0.2) (0,0,0)).2.1,(lGet x (iNat x0.2) (0,0,0)).2.2)) 0)))))))) (fun(x0:He)=>((bSel (iEq (lGet x (iNat x0.2) (0,0,0)).1 1) (lApp x0.1 [(0,(A3 ((lGet x (iNat x0.2) (0,0,0)).1,(lGet x (iNat x0.2) (0,0,0)).2.1,(lGet x (iNat x0.2) (0,0,0)).2.2)).1,(A3 ((lGet x (iNat x0.2) (0,0,0)).1,(lGet x (iNat x0.2) (0,0,0)).2.1,(lGet x (iNat x0.2) (0,0,0)).2.2)).2.1,(A3 ((lGet x (iNat x0.2) (0,0,0)).1,(lGet x (iNat x0.2) (0,0,0)).2.1,(lGet x (iNat x0.2) (0,0,0)).2.2)).2.2.1,(A3 ((lGet x (iNat x0.2) (0,0,0)).1,(lGet x (iNat x0.2) (0,0,0)).2.1,(lGet x (iNat x0.2) (0,0,0)).2.2)).2.2.2)]) (bSel (iEq (lGet x (iNat x0.2) (0,0,0)).1 2) (Dj (x0.1,(B7 (x0.1,(lGet x (iNat x0.2) (0,0,0)).1,(lGet x (iNat x0.2) (0,0,0)).2.1,(lGet x (iNat x0.2) (0,0,0)).2.2)))) x0.1)),(iAdd .i64 x0.2 1))) (fun(x0:He)=>(((iLt x0.2 (lLen x))=true->((((0:Int)<=x0.2)/\(x0.2<(((List.length x):Int))))/\(((iNat x0.2)<(List.length x))/\((ML (x0.1,(lGet x (iNat x0.2) (0,0,0)).1,(lGet x (iNat x0.2) (0,0,0)).2.1,(lGet x (iNat x0.2) (0,0,0)).2.2))/\(((Ec ((lGet x (iNat x0.2) (0,0,0)).1,0,2))/\(((bNot (BH ((lGet x (iNat x0.2) (0,0,0)).1,0,2)))=true->True)/\((bNot (BH ((lGet x (iNat x0.2) (0,0,0)).1,0,2)))=false->((QE ((lGet x (iNat x0.2) (0,0,0)).1,(lGet x (iNat x0.2) (0,0,0)).2.1,(lGet x (iNat x0.2) (0,0,0)).2.2))/\(MG ((A3 ((lGet x (iNat x0.2) (0,0,0)).1,(lGet x (iNat x0.2) (0,0,0)).2.1,(lGet x (iNat x0.2) (0,0,0)).2.2)).1,(A3 ((lGet x (iNat x0.2) (0,0,0)).1,(lGet x (iNat x0.2) (0,0,0)).2.1,(lGet x (iNat x0.2) (0,0,0)).2.2)).2.1,(A3 ((lGet x (iNat x0.2) (0,0,0)).1,(lGet x (iNat x0.2) (0,0,0)).2.1,(lGet x (iNat x0.2) (0,0,0)).2.2)).2.2.1,(A3 ((lGet x (iNat x0.2) (0,0,0)).1,(lGet x (iNat x0.2) (0,0,0)).2.1,(lGet x (iNat x0.2) (0,0,0)).2.2)).2.2.2))))))/\(((bOr (bNot (BH ((lGet x (iNat x0.2) (0,0,0)).1,0,2))) (bOr (bNot (Eb ((A3 ((lGet x (iNat x0.2) (0,0,0)).1,(lGet x (iNat x0.2) (0,0,0)).2.1,(lGet x (iNat x0.2) (0,0,0)).2.2)).1,(A3 ((lGet x (iNat x0.2) (0,0,0)).1,(lGet x (iNat x0.2) (0,0,0)).2.1,(lGet x (iNat x0.2) (0,0,0)).2.2)).2.1,(A3 ((lGet x (iNat x0.2) (0,0,0)).1,(lGet x (iNat x0.2) (0,0,0)).2.1,(lGet x (iNat x0.2) (0,0,0)).2.2)).2.2.1,(A3 ((lGet x (iNat x0.2) (0,0,0)).1,(lGet x (iNat x0.2) (0,0,0)).2.1,(lGet x (iNat x0.2) (0,0,0)).2.2)).2.2.2))) (bNot (bIff (iEq (lGet x (iNat x0.2) (0,0,0)).1 2) (iGe (B7 (x0.1,(lGet x (iNat x0.2) (0,0,0)).1,(lGet x (iNat x0.2) (0,0,0)).2.1,(lGet x (iNat x0.2) (0,0,0)).2.2)) 0)))))=true->True)/\((bOr (bNot (BH ((lGet x (iNat x0.2) (0,0,0)).1,0,2))) (bOr (bNot (Eb ((A3 ((lGet x (iNat x0.2) (0,0,0)).1,(lGet x (iNat x0.2) (0,0,0)).2.1,(lGet x (iNat x0.2) (0,0,0)).2.2)).1,(A3 ((lGet x (iNat x0.2) (0,0,0)).1,(lGet x (iNat x0.2) (0,0,0)).2.1,(lGet x (iNat x0.2) (0,0,0)).2.2)).2.1,(A3 ((lGet x (iNat x0.2) (0,0,0)).1,(lGet x (iNat x0.2) (0,0,0)).2.1,(lGet x (iNat x0.2) (0,0,0)).2.2)).2.2.1,(A3 ((lGet x (iNat x0.2) (0,0,0)).1,(lGet x (iNat x0.2) (0,0,0)).2.1,(lGet x (iNat x0.2) (0,0,0)).2.2)).2.2.2))) (bNot (bIff (iEq (lGet x (iNat x0.2) (0,0,0)).1 2) (iGe (B7 (x0.1,(lGet x (iNat x0.2) (0,0,0)).1,(lGet x (iNat x0.2) (0,0,0)).2.1,(lGet x (iNat x0.2) (0,0,0)).2.2)) 0)))))=false->(((iEq (lGet x (iNat x0.2) (0,0,0)).1 1)=true->((QE ((lGet x (iNat x0.2) (0,0,0)).1,(lGet x (iNat x0.2) (0,0,0)).2.1,(lGet x (iNat x0.2) (0,0,0)).2.2))/\(Av (((List.length x0.1)+(List.length [(0,(A3 ((lGet x (iNat x0.2) (0,0,0)).1,(lGet x (iNat x0.2) (0,0,0)).2.1,(lGet x (iNat x0.2) (0,0,0)).2.2)).1,(A3 ((lGet x (iNat x0.2) (0,0,0)).1,(lGet x (iNat x0.2) (0,0,0)).2.1,(lGet x (iNat x0.2) (0,0,0)).2.2)).2.1,(A3 ((lGet x (iNat x0.2) (0,0,0)).1,(lGet x (iNat x0.2) (0,0,0)).2.1,(lGet x (iNat x0.2) (0,0,0)).2.2)).2.2.1,(A3 ((lGet x (iNat x0.2) (0,0,0)).1,(lGet x (iNat x0.2) (0,0,0)).2.1,(lGet x (iNat x0.2) (0,0,0)).2.2)).2.2.2)]))*5))))/\((iEq (lGet x (iNat x0.2) (0,0,0)).1 1)=false->(((iEq (lGet x (iNat x0.2) (0,0,0)).1 2)=true->(ME (x0.1,(B7 (x0.1,(lGet x (iNat x0.2) (0,0,0)).1,(lGet x (iNat x0.2) (0,0,0)).2.1,(lGet x (iNat x0.2) (0,0,0)).2.2)))))/\((iEq (lGet x (iNat x0.2) (0,0,0)).1 2)=false->True)))))))))))/\((iLt x0.2 (lLen x))=false->True))) ([],0)):=(GQ.o x).trans (by kernel_rfl)
theorem Zl (x):Bh x=(bSel (iLt (Am (fun(x0:Int)=>(bAnd (iLt x0 (lLen x.1)) (bNot (bAnd (iEq (lGet x.1 (iNat x0) (0,0)).1 x.2.1) (iEq (lGet x.1 (iNat x0) (0,0)).2 x.2.2))))) (fun(x0:Int)=>(iAdd .i64 x0 1)) 0) (lLen x.1)) (Am (fun(x0:Int)=>(bAnd (iLt x0 (lLen x.1)) (bNot (bAnd (iEq (lGet x.1 (iNat x0) (0,0)).1 x.2.1) (iEq (lGet x.1 (iNat x0) (0,0)).2 x.2.2))))) (fun(x0:Int)=>(iAdd .i64 x0 1)) 0) (-1)):=(Is.v x).trans (by kernel_rfl)
theorem uJ (x):OJ x=(LoopOk (fun(x0:Int)=>(bAnd (iLt x0 (lLen x.1)) (bNot (bAnd (iEq (lGet x.1 (iNat x0) (0,0)).1 x.2.1) (iEq (lGet x.1 (iNat x0) (0,0)).2 x.2.2))))) (fun(x0:Int)=>(iAdd .i64 x0 1)) (fun(x0:Int)=>(((iLt x0 (lLen x.1))=true->((((0:Int)<=x0)/\(x0<(((List.length x.1):Int))))/\((iNat x0)<(List.length x.1))))/\((iLt x0 (lLen x.1))=false->True))) 0):=(Is.o x).trans (by kernel_rfl)
theorem tw (x):Io x=(bAnd (bNot (iGt (lLen x) 8)) (bAnd (bNot (iLt (Am (fun(x0:IQ)=>(bAnd (iLt x0.2 (lLen x)) (bAnd (bNot (bNot (Bt (2,(lGet x (iNat x0.2) (0,0,0)).2.1,(lGet x (iNat x0.2) (0,0,0)).2.2,0)))) (bSel (bOr (iEq (lGet x (iNat x0.2) (0,0,0)).1 0) (iEq (lGet x (iNat x0.2) (0,0,0)).1 1)) (bNot (iGe (Bh (x0.1,(lGet x (iNat x0.2) (0,0,0)).2.1,(lGet x (iNat x0.2) (0,0,0)).2.2)) 0)) (bAnd (iEq (lGet x (iNat x0.2) (0,0,0)).1 2) (bNot (iLt (Bh (x0.1,(lGet x (iNat x0.2) (0,0,0)).2.1,(lGet x (iNat x0.2) (0,0,0)).2.2)) 0))))))) (fun(x0:IQ)=>((bSel (bOr (iEq (lGet x (iNat x0.2) (0,0,0)).1 0) (iEq (lGet x (iNat x0.2) (0,0,0)).1 1)) (bSel (iEq (lGet x (iNat x0.2) (0,0,0)).1 1) (lApp x0.1 [((lGet x (iNat x0.2) (0,0,0)).2.1,(lGet x (iNat x0.2) (0,0,0)).2.2)]) x0.1) (lApp (lTake x0.1 (lN (lSub x0.1 0 (iNat (Bh (x0.1,(lGet x (iNat x0.2) (0,0,0)).2.1,(lGet x (iNat x0.2) (0,0,0)).2.2)))))) (lSub x0.1 (iNat (iAdd .i64 (Bh (x0.1,(lGet x (iNat x0.2) (0,0,0)).2.1,(lGet x (iNat x0.2) (0,0,0)).2.2)) 1)) (lN x0.1)))),(iAdd .i64 x0.2 1))) ([],0)).2 (lLen x))) (iEq (lLen (Am (fun(x0:IQ)=>(bAnd (iLt x0.2 (lLen x)) (bAnd (bNot (bNot (Bt (2,(lGet x (iNat x0.2) (0,0,0)).2.1,(lGet x (iNat x0.2) (0,0,0)).2.2,0)))) (bSel (bOr (iEq (lGet x (iNat x0.2) (0,0,0)).1 0) (iEq (lGet x (iNat x0.2) (0,0,0)).1 1)) (bNot (iGe (Bh (x0.1,(lGet x (iNat x0.2) (0,0,0)).2.1,(lGet x (iNat x0.2) (0,0,0)).2.2)) 0)) (bAnd (iEq (lGet x (iNat x0.2) (0,0,0)).1 2) (bNot (iLt (Bh (x0.1,(lGet x (iNat x0.2) (0,0,0)).2.1,(lGet x (iNat x0.2) (0,0,0)).2.2)) 0))))))) (fun(x0:IQ)=>((bSel (bOr (iEq (lGet x (iNat x0.2) (0,0,0)).1 0) (iEq (lGet x (iNat x0.2) (0,0,0)).1 1)) (bSel (iEq (lGet x (iNat x0.2) (0,0,0)).1 1) (lApp x0.1 [((lGet x (iNat x0.2) (0,0,0)).2.1,(lGet x (iNat x0.2) (0,0,0)).2.2)]) x0.1) (lApp (lTake x0.1 (lN (lSub x0.1 0 (iNat (Bh (x0.1,(lGet x (iNat x0.2) (0,0,0)).2.1,(lGet x (iNat x0.2) (0,0,0)).2.2)))))) (lSub x0.1 (iNat (iAdd .i64 (Bh (x0.1,(lGet x (iNat x0.2) (0,0,0)).2.1,(lGet x (iNat x0.2) (0,0,0)).2.2)) 1)) (lN x0.1)))),(iAdd .i64 x0.2 1))) ([],0)).1) 0))):=(GR.v x).trans (by kernel_rfl)
theorem su (x):Ox x=(((iGt (lLen x) 8)=true->True)/\((iGt (lLen x) 8)=false->(LoopOk (fun(x0:IQ)=>(bAnd (iLt x0.2 (lLen x)) (bAnd (bNot (bNot (Bt (2,(lGet x (iNat x0.2) (0,0,0)).2.1,(lGet x (iNat x0.2) (0,0,0)).2.2,0)))) (bSel (bOr (iEq (lGet x (iNat x0.2) (0,0,0)).1 0) (iEq (lGet x (iNat x0.2) (0,0,0)).1 1)) (bNot (iGe (Bh (x0.1,(lGet x (iNat x0.2) (0,0,0)).2.1,(lGet x (iNat x0.2) (0,0,0)).2.2)) 0)) (bAnd (iEq (lGet x (iNat x0.2) (0,0,0)).1 2) (bNot (iLt (Bh (x0.1,(lGet x (iNat x0.2) (0,0,0)).2.1,(lGet x (iNat x0.2) (0,0,0)).2.2)) 0))))))) (fun(x0:IQ)=>((bSel (bOr (iEq (lGet x (iNat x0.2) (0,0,0)).1 0) (iEq (lGet x (iNat x0.2) (0,0,0)).1 1)) (bSel (iEq (lGet x (iNat x0.2) (0,0,0)).1 1) (lApp x0.1 [((lGet x (iNat x0.2) (0,0,0)).2.1,(lGet x (iNat x0.2) (0,0,0)).2.2)]) x0.1) (lApp (lTake x0.1 (lN (lSub x0.1 0 (iNat (Bh (x0.1,(lGet x (iNat x0.2) (0,0,0)).2.1,(lGet x (iNat x0.2) (0,0,0)).2.2)))))) (lSub x0.1 (iNat (iAdd .i64 (Bh (x0.1,(lGet x (iNat x0.2) (0,0,0)).2.1,(lGet x (iNat x0.2) (0,0,0)).2.2)) 1)) (lN x0.1)))),(iAdd .i64 x0.2 1))) (fun(x0:IQ)=>(((iLt x0.2 (lLen x))=true->((((0:Int)<=x0.2)/\(x0.2<(((List.length x):Int))))/\(((iNat x0.2)<(List.length x))/\((OJ (x0.1,(lGet x (iNat x0.2) (0,0,0)).2.1,(lGet x (iNat x0.2) (0,0,0)).2.2))/\((MI (2,(lGet x (iNat x0.2) (0,0,0)).2.1,(lGet x (iNat x0.2) (0,0,0)).2.2,0))/\(((bNot (Bt (2,(lGet x (iNat x0.2) (0,0,0)).2.1,(lGet x (iNat x0.2) (0,0,0)).2.2,0)))=true->True)/\((bNot (Bt (2,(lGet x (iNat x0.2) (0,0,0)).2.1,(lGet x (iNat x0.2) (0,0,0)).2.2,0)))=false->(((bOr (iEq (lGet x (iNat x0.2) (0,0,0)).1 0) (iEq (lGet x (iNat x0.2) (0,0,0)).1 1))=true->(((iGe (Bh (x0.1,(lGet x (iNat x0.2) (0,0,0)).2.1,(lGet x (iNat x0.2) (0,0,0)).2.2)) 0)=true->True)/\((iGe (Bh (x0.1,(lGet x (iNat x0.2) (0,0,0)).2.1,(lGet x (iNat x0.2) (0,0,0)).2.2)) 0)=false->(((iEq (lGet x (iNat x0.2) (0,0,0)).1 1)=true->(Av (((List.length x0.1)+(List.length [((lGet x (iNat x0.2) (0,0,0)).2.1,(lGet x (iNat x0.2) (0,0,0)).2.2)]))*2)))/\((iEq (lGet x (iNat x0.2) (0,0,0)).1 1)=false->True)))))/\((bOr (iEq (lGet x (iNat x0.2) (0,0,0)).1 0) (iEq (lGet x (iNat x0.2) (0,0,0)).1 1))=false->(((iEq (lGet x (iNat x0.2) (0,0,0)).1 2)=true->(((iLt (Bh (x0.1,(lGet x (iNat x0.2) (0,0,0)).2.1,(lGet x (iNat x0.2) (0,0,0)).2.2)) 0)=true->True)/\((iLt (Bh (x0.1,(lGet x (iNat x0.2) (0,0,0)).2.1,(lGet x (iNat x0.2) (0,0,0)).2.2)) 0)=false->((((0:Int)<=(Bh (x0.1,(lGet x (iNat x0.2) (0,0,0)).2.1,(lGet x (iNat x0.2) (0,0,0)).2.2)))/\((0<=(iNat (Bh (x0.1,(lGet x (iNat x0.2) (0,0,0)).2.1,(lGet x (iNat x0.2) (0,0,0)).2.2))))/\(((iNat (Bh (x0.1,(lGet x (iNat x0.2) (0,0,0)).2.1,(lGet x (iNat x0.2) (0,0,0)).2.2)))<=(List.length x0.1))/\(0<(List.length x0.1)))))/\((((0:Int)<=(iAdd .i64 (Bh (x0.1,(lGet x (iNat x0.2) (0,0,0)).2.1,(lGet x (iNat x0.2) (0,0,0)).2.2)) 1))/\(((iNat (iAdd .i64 (Bh (x0.1,(lGet x (iNat x0.2) (0,0,0)).2.1,(lGet x (iNat x0.2) (0,0,0)).2.2)) 1))<=(lN x0.1))/\(((lN x0.1)<=(List.length x0.1))/\(0<(List.length x0.1)))))/\((0<(List.length x0.1))/\(((List.length (lSub x0.1 0 (iNat (Bh (x0.1,(lGet x (iNat x0.2) (0,0,0)).2.1,(lGet x (iNat x0.2) (0,0,0)).2.2)))))<=(List.length x0.1))/\(Av (((List.length (lSub x0.1 0 (iNat (Bh (x0.1,(lGet x (iNat x0.2) (0,0,0)).2.1,(lGet x (iNat x0.2) (0,0,0)).2.2)))))+(List.length (lSub x0.1 (iNat (iAdd .i64 (Bh (x0.1,(lGet x (iNat x0.2) (0,0,0)).2.1,(lGet x (iNat x0.2) (0,0,0)).2.2)) 1)) (lN x0.1))))*2)))))))))/\((iEq (lGet x (iNat x0.2) (0,0,0)).1 2)=false->True)))))))))))/\((iLt x0.2 (lLen x))=false->True))) ([],0)))):=(GR.o x).trans (by kernel_rfl)
attribute [irreducible] B7 ML A3 QE Dj ME Gi Ow Bh OJ Io Ox
end
section
set_option maxRecDepth 8000
def r7:DCode:=(.seq [0] (.region [oa 0 2 (.mv (.c .nils))]) (.seq [2] (.region [on 0 3 0,oa 1 4 (.app 1 (.c .nils) (.t 3)),om 2 2 4]) .ret))
def Ii:Fn:=⟨⟨1,5,0,false,[.tmp 2],r7⟩,[.one .frz (.sl (.one (.int .i64)))],.one (.one .own (.sl (.one (.int .i64))))⟩
theorem fk:Ii.A:=AV trivial
def C7:Bb->List (Int):=Ii.V
def QN:Bb->Prop:=Ii.O
theorem fg:Ii.B:=AX trivial (by kernel_rfl) (λ x=>by kernel_rfl)
end
section
set_option maxRecDepth 100000
theorem Ua (x):C7 x=x:=(Ii.v x).trans (by kernel_rfl)
theorem e9 (x):QN x=(Av ((List.length x)*1)):=(Ii.o x).trans (by kernel_rfl)
attribute [irreducible] C7 QN
end
open Go.Sort
def Dn(l:Bb):List Int:=l.mergeSort λ x y=>decide (x<=y)
theorem Z3(l:Bb):(Dn l).length=l.length:=List.length_mergeSort l
def DB(l:Bb):List V:=l.map λ n=>.int .i64 n
def MX:Be:=λ args h Q=>match args with
 |[.nils]=>Q .undef h
 |[.slice l 0 n]=>∃ (b:Blk) (zs:Bb),h[l]?=some b/\b.k= .own/\zs.length=n/\0<n/\n<4611686018427387904/\b.cs=DB zs++b.cs.drop n/\Q .undef (h.set l { b with cs:=DB (Dn zs)++b.cs.drop n })
 |_=>False
def ZaP(P:Program)(g:FuncId):Prop:=
 (∀ (blk off cap:Nat) (zs:Bb) (w:World),Holds (Value.int .i64) w blk off zs.toArray->blk<w.heap.size->zs.length<4611686018427387904 ->
  Calls P g #[.slice (some ⟨blk,off,none⟩) zs.length cap] w λ e w'=>e= .returned (.tuple #[])/\∃ n os,w'=grow (putRow (Value.int .i64) (Sort.ahead w n) blk off (zs.mergeSort λ x y=>decide (x<=y)).toArray) os) /\
 ∀ (p:Option Addr) (cap:Nat) (w:World),Calls P g #[.slice p 0 cap] w λ e w'=>e= .returned (.tuple #[])/\w'=w
theorem zS {ι:AA} {k:Ad} {w w':World} {l:Nat} {blk:Blk} {cs':List V} {arr':Array Value} {e:TypeId} (H:HRel ι k w) (hb:k[l]?=some blk) (k1:blk.k= .own) (hl:cs'.length=blk.cs.length) (hsize:w.heap.size<=w'.heap.size)
 (hoth:∀ j,j<w.heap.size->j≠(ι l).b->w'.heap[j]?=w.heap[j]?) (hrow:w'.heap[(ι l).b]?=some (.cells arr' e (0,0))) (hsz:arr'.size=(ι l).c) (hcells:∀ (i:Nat) u,cs'[i]?=some u->u.cell=true/\∃ z,arr'[i]?=some z/\∀ β,Rel ι k β u z)
 (ho:w'.os=w.os) (hout:w'.output=w.output) (ht:w'.tape=w.tape):HRel ι (k.set l { blk with cs:=cs' }) w'/\Step ι k w ι (k.set l { blk with cs:=cs' }) w':=by
 have K:=Wm ι k l blk { blk with cs:=cs' } hb rfl
 have hset:∀ (j:Nat) (b:Blk),(k.set l { blk with cs:=cs' })[j]?=some b->(j=l/\b={ blk with cs:=cs' })\/(j≠l/\k[j]?=some b):=by
  intro j b hj;rcases Hu hj with⟨h1,h2,_⟩|h
  . exact .inl ⟨h1,h2⟩
  . exact .inr h
 obtain⟨z0,g2,_⟩:=H.own l blk hb k1
 have hfar:∀ (j:Nat) (b:Blk),j≠l->k[j]?=some b->b.k≠.dead->w'.heap[(ι j).b]?=w.heap[(ι j).b]?:=λ j b hjl hj hbk=>hoth _ (H.there j b hj hbk) λ g=>H.apart l j blk b (Hv hjl) hb hj k1 hbk g.symm
 refine⟨⟨λ j b hj hbk i u hu=>?_,λ j b hj hbk=>?_,λ j j' b b' hne hj hj' hbk hbk'=>?_,λ j b hj hbk=>?_⟩,{ keeps:=K,kinds:=λ j b b' hj hj'=>?_,fresh:=λ j b' hle' hj hbk=>?_,frame:=λ b hb' hf=>hoth b hb' λ g=>hf l blk hb k1 g.symm,size:=hsize,os:=ho,output:=hout,tape:=ht }⟩
 . rcases hset j b hj with⟨rfl,rfl⟩|⟨hjl,hj⟩
   . obtain⟨g1,z,g2,g3⟩:=hcells i u hu;refine⟨g1,z,?_,λ β=>(g3 β).cellMono K g1⟩;rw[z0,Cf];simp only[World.cell?,hrow];exact g2
   . obtain⟨g1,z,g2,g3⟩:=H.cells j b hj hbk i u hu;exact⟨g1,z,by rw[WY (w:=w) (hfar j b hjl hj hbk)];exact g2,λ β=>(g3 β).cellMono K g1⟩
 . rcases hset j b hj with⟨rfl,rfl⟩|⟨hjl,hj⟩
   . exact⟨z0,by simp only;omega,_,e,hrow,hsz⟩
   . obtain⟨g1,g2,arr',e',g3,g4⟩:=H.own j b hj hbk;exact⟨g1,g2,arr',e',by rw[hfar j b hjl hj (by rw[hbk];decide)];exact g3,g4⟩
 . rcases hset j b hj with⟨rfl,rfl⟩|⟨hjl,hg⟩<;>rcases hset j' b' hj' with⟨rfl,rfl⟩|⟨hjl',hg'⟩
   . exact absurd rfl hne
   . exact H.apart _ _ _ _ hne hb hg' k1 hbk'
   . exact H.apart _ _ _ _ hne hg hb hbk (by rw[k1];decide)
   . exact H.apart j j' b b' hne hg hg' hbk hbk'
 . refine KW ?_ hsize
   rcases hset j b hj with⟨rfl,rfl⟩|⟨hjl,hj⟩
   . exact H.there _ _ hb hbk
   . exact H.there j b hj hbk
 . rcases hset j b' hj' with⟨rfl,rfl⟩|⟨hjl,hj'⟩
   . rw[hb] at hj;cases hj;exact .inl rfl
   . rw[hj] at hj';cases hj';exact .inl rfl
 . rcases hset j b' hj with⟨rfl,rfl⟩|⟨hjl,hj⟩
   . have:=Ce hb;omega
   . have:=Ce hj;omega
theorem ye{P:Program}{g:FuncId}(hs:ZaP P g):Az P g MX:=by
 intro Φ ι σ w args xs Q hΦ H hargs hsem _;have hlen:=hargs.1;unfold MX at hsem;split at hsem
 . match xs,hlen with
   | [x],_=>
     have hr:=hargs.2 0 _ _ rfl rfl (λ _=>0);obtain⟨a,rfl⟩:=Py hr;refine(hs.2 a 0 w).mono ?_;rintro e w' ⟨rfl,rfl⟩;exact⟨_,.undef,σ,ι,rfl,hsem,hΦ,λ β=>.undef _,H,.refl _ _ _⟩
 . rename_i l n
   match xs,hlen with
   | [x],_=>
     have hr:=hargs.2 0 _ _ rfl rfl (λ _=>0);obtain⟨b,zs,hb,hk,hz,hn0,hn,hcs,hQ⟩:=hsem;have hl:Φ l=none:=(b7 hr).1 l 0 n rfl
     have hb':(kill Φ σ)[l]?=some b:=by rw[PG hl];exact hb
     obtain⟨b1,g1,hc⟩:=G1 hr;rw[hb'] at g1;cases g1;rcases hc with⟨c,rfl,c1,c2⟩|⟨rfl,_⟩
     . obtain⟨z0,arr,el,harr,hsz,hrc⟩:=H.ownCells hb' hk;rw[z0,HF]
       have hle:b.cs.length<=arr.size:=by simpa using hrc.1
       have hcl:n<=b.cs.length:=by rw[hcs,Cq];simp[DB];omega
       have hcell:∀ j (hj:j<n),arr[j]?=some (.int .i64 (zs[j]'(by omega))):=by
        intro j hj
        have hcj:b.cs[j]?=some (.int .i64 (zs[j]'(by omega))):=by
         rw[hcs,Bx (by simp[DB];omega)];simp[DB,Bf (show j<zs.length by omega)]
        obtain⟨_,z,q1,q2⟩:=hrc.2 j _ hcj;have:=E5 (q2 (λ _=>0));subst this;simpa using q1
       have hH:Holds (Value.int .i64) w (ι l).b 0 zs.toArray:=by
        intro j hj
        have hj:j<n:=by simpa [hz] using hj
        refine⟨?_,?_⟩
        . simp only[World.cell?,harr,Cf,hcell j hj];rw[getElem!_pos _ j (by simp;omega)];simp
        . simp only[World.frozen?,harr];simp
       have hcall:=hs.1 (ι l).b 0 c zs w hH (H.there l b hb' (by rw[hk];decide)) (by omega);rw[hz] at hcall;refine hcall.mono ?_;rintro e w' ⟨rfl,m,os,rfl⟩;have hblt:=H.there l b hb' (by rw[hk];decide);have hsl:=Z3 zs;have heap:(grow (putRow (Value.int .i64) (Sort.ahead w m) (ι l).b 0 (Dn zs).toArray) os).heap=w.heap.modify (ι l).b (onCells (putCells (Value.int .i64) 0 (Dn zs).toArray))++os:=rfl
       have W:=zS (w':=grow (putRow (Value.int .i64) (Sort.ahead w m) (ι l).b 0 (Dn zs).toArray) os) (cs':=DB (Dn zs)++b.cs.drop n) (arr':=putCells (Value.int .i64) 0 (Dn zs).toArray arr) (e:=el) H hb' hk
        (by simp[DB,hsl];omega) (by rw[heap];simp) (λ j hj hne=>by
         rw[heap,Array.getElem?_append_left (by simpa using hj),Array.getElem?_modify,Ae (Hv hne)]) (by
         rw[heap,Array.getElem?_append_left (by simpa using hblt),Array.getElem?_modify,Ac rfl,harr];rfl) (by simp[putCells,hsz]) (λ i u hu=>by
         have hpi:(putCells (Value.int .i64) 0 (Dn zs).toArray arr)[i]?=(arr[i]?).map λ x=>if i<n then .int .i64 ((Dn zs).toArray)[i]! else x:=by
          simp[putCells,Array.getElem?_mapIdx,hsl,hz]
         rw[hpi];by_cases hi:i<n
         . rw[Bx (by simp[DB,hsl];omega)] at hu;simp only[DB,HD,Bf (show i<(Dn zs).length by omega),Cv,Ak] at hu;subst hu;refine⟨rfl,_,by rw[hcell i hi];rfl,λ β=>?_⟩;simp only[Ac hi];rw[getElem!_pos _ i (by simp;omega)];simpa using Rel.int .i64 _
         . rw[Db (by simp[DB,hsl];omega)] at hu
           have hu':b.cs[i]?=some u:=by
            rw[L6] at hu;rw[<- hu];congr 1;simp[DB,hsl];omega
           obtain⟨q0,z,q1,q2⟩:=hrc.2 i u hu';refine⟨q0,z,?_,q2⟩
           have:arr[i]?=some z:=by simpa using q1
           rw[this,Cv,Ae hi]) rfl rfl rfl
       refine⟨_,.undef,_,ι,rfl,hQ,hΦ.set hl _,λ β=>.undef _,?_,?_⟩
       . rw[WM hl];exact W.1
       . rw[WM hl];exact W.2
     . omega
 . exact hsem.elim
@[irreducible] def D1(x:Bb)(m:Int):Bb×Int:=(shut fun(x:Bb) (m:Int)=>(Dn x,m)).1 x m
@[irreducible] def Vo(x:Bb):Prop:=(shut fun(x:Bb)=>x.length<4611686018427387904).1 x
theorem gU:D1=λ x m=>(Dn x,m):=by unfold D1;exact(shut _).2
theorem gV:Vo=λ x=>x.length<4611686018427387904:=by unfold Vo;exact(shut _).2
def ZC:DMk:=⟨.one (.sl (.one (.int .i64))),false,Vo,D1,true⟩
def FE(l:Bb):List (List PV):=l.map λ n=>[.fl (.int .i64 n)]
theorem yY(l:Bb):(FE l).flatten=l.map λ n=>.fl (.int .i64 n):=by
 induction l with
 |nil=>rfl
 |cons n r ih=>simpa [FE] using ih
theorem j4{l:List Int}{k:Nat}(h:k<l.length):Aa (FE l).flatten k= .fl (.int .i64 (l[k])):=by
 rw[yY,E6,HD,Bf h];rfl
theorem v8:XB MX (DMk.P ZC):=by
 unfold ZC;rw[gV,gU];rintro h ω hd P b AB us u m K Q hinj hu hl hr ⟨(x:Bb),rfl,hok,hK⟩ hQ;have hu:us=[u]:=hu;subst hu;have hr0:RC h ω (.inn hd (P++[b+0])) (.sl .own (FE x)) u:=hr 0 (by exact Nat.one_pos)
 have hQ:=λ h' hO (hrc:RC h' ω (.inn hd (P++[b+0])) (.sl .own (FE (Dn x))) u)=>hQ _ m h' hK rfl hO λ c hc=>by
  have hc:c<1:=hc
  have:c=0:=by omega
  subst this;exact hrc
 show MX [u] h Q;have hok:x.length<4611686018427387904:=hok;have hsl:=Z3 x;generalize hes:FE x=es at hr0
 cases hr0 with
 | nil=>
   have:x=[]:=by
    cases x with
    |nil=>rfl
    |cons=>cases hes
   subst this
   have e0:FE (Dn [])=[]:=by rw[FA hsl];rfl
   rw[e0] at hQ;exact hQ h (Only.refl _ _) (.nil _ _)
 | sl _ _ _ l o n blk hb hk hc hne hn hw hle hcell=>
   subst hes;obtain⟨hω,rfl,hown⟩:=hc
   have hx:x≠[]:=λ e=>by subst e;exact hne rfl (.inl rfl) rfl
   obtain⟨y,ys,rfl⟩:=List.exists_cons_of_ne_nil hx;generalize hzs:y::ys=zs at *
   have hpos:0<zs.length:=by rw[<- hzs];simp
   have hlen:(FE zs).length=zs.length:=by simp[FE]
   have hbw:blk.w=1:=by
    have:=hw [.fl (.int .i64 y)] (by rw[<- hzs];simp[FE]);simpa using this.symm
   rw[hlen] at hn hle hcell;rw[hbw,Sr,Cf] at hle;rw[hbw,Sr] at hcell
   have hget:∀ k (hk:k<zs.length),blk.cs[k]?=some (.int .i64 (zs[k])):=by
    intro k hk;have r:=hcell k hk;rw[Cf,j4 hk] at r
    have e:get blk.cs k= .int .i64 (zs[k]):=by
     generalize get blk.cs k=z at r
     cases r with
     |v=>rfl
    rw[Dl,Bf (show k<blk.cs.length by omega)] at e;rw[Bf (show k<blk.cs.length by omega)];simpa using e
   have hcs:blk.cs=DB zs++blk.cs.drop n:=by
    apply IG;intro k;by_cases hk:k<zs.length
    . rw[Bx (by simp[DB];omega),hget k hk];simp[DB,Bf hk]
    . rw[Db (by simp[DB];omega),L6];congr 1;simp[DB];omega
   have hlt:=Ce hb
   have hnl:(DB (Dn zs)++blk.cs.drop n).length=blk.cs.length:=by simp[DB,hsl];omega
   refine⟨blk,zs,hb,hown,hn.symm,by omega,by omega,hcs,?_⟩;refine hQ _ ⟨by simp,λ j hj=>?_,λ j c hj=>?_⟩ (.sl _ _ _ _ _ _ { blk with cs:=DB (Dn zs)++blk.cs.drop n } (by simp[hlt]) hk ⟨hω,rfl,hown⟩ (λ _ _ e=>?_) ?_ ?_ ?_ ?_)
   . rw[G7,Ae];intro e;subst e;exact hj ⟨0,FE zs,[],Nat.one_pos,rfl,by simpa using hω⟩
   . rw[G7];by_cases e:l=j
     . subst e;rw[hb] at hj;cases hj;exact⟨{ blk with cs:=DB (Dn zs)++blk.cs.drop n },by simp[hlt],rfl,rfl,hnl⟩
     . exact⟨c,by rw[Ae e];exact hj,rfl,rfl,rfl⟩
   . have:=congrArg List.length e;simp[FE,hsl] at this;rw[this] at hpos;simp at hpos
   . rw[hn];simp[FE,hsl]
   . intro e he;simp only[FE,List.mem_map] at he;obtain⟨_,_,rfl⟩:=he;simp[hbw]
   . simp only[FE,Bc,hsl,hbw,hnl];omega
   . intro k hk;simp only[FE,Bc,hsl,hbw,Sr] at hk
     have hk':k<(Dn zs).length:=by omega
     rw[Cf,j4 hk']
     have:get (DB (Dn zs)++blk.cs.drop n) k= .int .i64 ((Dn zs)[k]):=by
      rw[Dl,Bx (by simp[DB];omega)];simp[DB,Bf hk']
     simp only[this];exact .v _ _ rfl
section
set_option maxRecDepth 8000
def re:DCode:=(.seq [2,0] (.region [oa 0 2 (.allocB 0 [Ab,.nils])]) (.seq [3,2,0] (.region [⟨0,some 7,.a false (.litSlice 1 0 [] []) (some (.one (.int .i64))),none,[]⟩,oa 1 8 (.build [Ab,.nils] [(1,1,(.t 7))]),oa 2 3 (.allocB 1 [Ab,.nils]),os 3 (.storeB 1 2 (.t 3) (.t 8))]) (.seq [3,2,0] (.seq [11,3,2,0] (.region [on 0 9 0,oF 1 10 El [(.t 9)],oa 2 11 (.un .not (.t 10))]) (.cond (.t 11) (.seq [2] (.region [ob 0 12 (.loadB 1 (some 2) (.t 3)),os 1 (.storeB 0 2 (.t 2) (.t 12))]) .ret) .skip)) (.seq [3,2,0] (.seq [4,3,2,0] (.region [oi 0 4 0]) (.block 0 (.loop [0,2,3,4] 1 (.seq [4,3,2,0] (.seq [16,4,3,2,0] (.region [om 0 13 4,on 1 14 0,oa 2 15 (.len (.t 14)),oa 3 16 (.bin .lss (.t 13) (.t 15))]) (.cond (.t 16) .skip (.exit 0))) (.seq [4,3,2,0] (.block 1 (.seq [34,4,3,2,0] (.region [on 0 19 0,om 1 20 4,oa 2 21 (.indexA 5 (.t 19) (.t 20)),oa 3 22 (.fieldA 1 (.t 21)),oa 4 23 (.fieldA 0 (.t 22)),oa 5 24 (.loadH none (.t 23)),oa 6 25 (.bin .eql (.t 24) (.c (.int .i64 2))),om 7 26 25,⟨8,some 27,.a true (.mv (.t 0)) none,(some (26,false)),[]⟩,og 9 28 (.mv (.t 4)) 26 false,og 10 29 (.indexA 5 (.t 27) (.t 28)) 26 false,og 11 30 (.fieldA 1 (.t 29)) 26 false,og 12 31 (.fieldA 0 (.t 30)) 26 false,og 13 32 (.loadH none (.t 31)) 26 false,og 14 33 (.bin .eql (.t 32) (.c (.int .i64 8))) 26 false,oa 15 34 (.pick (.t 26) AR (.t 33))]) (.cond (.t 34) (.region [oa 0 35 (.fieldA 0 (.t 3)),xA 1 36 (.loadB 1 none (.t 35)) (rg 1),on 2 37 0,om 3 38 4,xA 4 39 (.indexA 5 (.t 37) (.t 38)) [2,3],xA 5 40 (.fieldA 1 (.t 39)) [2,3,4],xA 6 41 (.fieldA 2 (.t 40)) [2,3,4,5],xA 7 42 (.loadH none (.t 41)) [2,3,4,5,6],xA 8 43 (.bin .or (.t 36) (.t 42)) (rg 8),xA 9 44 (.fieldA 0 (.t 3)) (rg 9),xS 10 (.storeB 1 1 (.t 44) (.t 43)) (rg 10)]) .skip))) (.region [om 0 17 4,oa 1 18 (.bin .add (.t 17) Au),om 2 4 18])))))) (.seq [3,2] (.seq [5,3,2,0] (.region [oi 0 5 1]) (.block 2 (.loop [0,2,3,5] 1 (.seq [5,3,2,0] (.seq [46,5,3,2,0] (.region [om 0 45 5,oa 1 46 (.bin .leq (.t 45) (.c (.int .i64 56)))]) (.cond (.t 46) .skip (.exit 2))) (.seq [5,3,2,0] (.block 3 (.seq [6,5,3,2,0] (.region [oi 0 6 0]) (.block 4 (.loop [0,2,3,5,6] 1 (.seq [6,5,3,2,0] (.seq [52,6,5,3,2,0] (.region [om 0 49 6,on 1 50 0,oa 2 51 (.len (.t 50)),oa 3 52 (.bin .lss (.t 49) (.t 51))]) (.cond (.t 52) .skip (.exit 4))) (.seq [6,5,3,2,0] (.block 5 (.seq [62,6,5,3,2,0] (.region [on 0 55 0,om 1 56 6,oa 2 57 (.indexA 5 (.t 55) (.t 56)),oa 3 58 (.fieldA 1 (.t 57)),oa 4 59 (.fieldA 1 (.t 58)),oa 5 60 (.loadH none (.t 59)),om 6 61 5,oa 7 62 (.bin .eql (.t 60) (.t 61))]) (.cond (.t 62) (.seq [5,3,2,0] (.region [oa 0 63 (.fieldA 1 (.t 3)),ob 1 64 (.loadB 1 none (.t 63)),om 2 65 5,⟨3,some 66,.a false (.litSlice 1 1 [Ab] [(0,1,(.t 65))]) (some (.one (.int .i64))),none,[]⟩,oa 4 67 (.app 1 (.t 64) (.t 66)),oa 5 68 (.fieldA 1 (.t 3)),os 6 (.storeB 1 1 (.t 68) (.t 67))]) (.exit 4)) .skip))) (.region [om 0 53 6,oa 1 54 (.bin .add (.t 53) Au),om 2 6 54]))))))) (.region [om 0 47 5,oa 1 48 (.bin .add (.t 47) Au),om 2 5 48])))))) (.seq [2] (.region [ob 0 69 (.loadB 1 (some 2) (.t 3)),os 1 (.storeB 0 2 (.t 2) (.t 69))]) .ret))))))
def EX:Fn:=⟨⟨1,70,2,false,[.cell 2 (some 2)],re⟩,[.one .frz (.sl Bj)],.one (.agg [Aq,(.own,.sl (.one (.int .i64)))])⟩
theorem QJ:EX.A:=AV ⟨UX,trivial⟩
def AY:Bz->Int×List (Int):=EX.V
def Lm:Bz->Prop:=EX.O
theorem QB:EX.B:=AX ⟨U2,trivial⟩ (by kernel_rfl) (λ x=>by kernel_rfl)
def ui:DCode:=(.seq [1,0] (.region [oa 0 4 (.mv An)]) (.seq [] (.seq [9,8,7,1] (.region [on 0 7 0,oa 1 8 (.len (.t 7)),oi 2 9 0]) (.block 0 (.loop [1,7,8,9] 1 (.seq [10,9,8,7,1] (.region [oa 0 10 (.bin .lss (.t 9) (.t 8))]) (.seq [9,8,7,1] (.cond (.t 10) .skip (.exit 0)) (.seq [9,8,7,1] (.block 1 (.seq [9,8,7,6,1] (.region [oa 0 11 (.indexA 1 (.t 7) (.t 9)),oa 1 12 (.loadH none (.t 11)),om 2 6 12]) (.seq [15,9,8,7,1] (.region [om 0 13 6,om 1 14 1,oa 2 15 (.bin .eql (.t 13) (.t 14))]) (.cond (.t 15) (.seq [4] (.region [oa 0 4 (.mv AR)]) .ret) .skip)))) (.region [oa 0 16 (.bin .add (.t 9) Au),om 1 9 16]))))))) (.seq [4] (.region [oa 0 4 (.mv An)]) .ret)))
def Ip:Fn:=⟨⟨2,17,0,true,[.tmp 4],ui⟩,[.one .frz (.sl (.one (.int .i64))),.one .frz (.int .i64)],.one (.one .own (.bool))⟩
theorem uL:Ip.A:=AV trivial
def OW:Eh->Bool:=Ip.V
def UZ:Eh->Prop:=Ip.O
theorem uA:Ip.B:=AX trivial (by kernel_rfl) (λ x=>by kernel_rfl)
def sP:DCode:=(.seq [0] (.region [oa 0 2 (.mv (.c .nils))]) (.seq [3] (.region [on 0 7 0,oF 1 8 Ii [(.t 7)],om 2 3 8]) (.seq [3] (.region [on 0 9 3,⟨1,some 10,.mark MX ZC (.t 9) AE,none,[]⟩]) (.seq [4,3] (.region [oa 0 4 (.mv (.c .nils))]) (.seq [4] (.seq [13,12,11,4] (.region [on 0 11 3,oa 1 12 (.len (.t 11)),oi 2 13 0]) (.block 0 (.loop [4,11,12,13] 1 (.seq [14,13,12,11,4] (.region [oa 0 14 (.bin .lss (.t 13) (.t 12))]) (.seq [13,12,11,4] (.cond (.t 14) .skip (.exit 0)) (.seq [13,12,11,4] (.block 1 (.seq [13,12,11,6,4] (.region [oa 0 15 (.indexA 1 (.t 11) (.t 13)),ob 1 16 (.loadH none (.t 15)),om 2 6 16]) (.seq [24,13,12,11,6,4] (.region [om 0 17 6,oa 1 18 (.bin .neq (.t 17) AE),om 2 19 18,⟨3,some 20,.a true (.mv (.t 4)) none,(some (19,true)),[]⟩,og 4 21 (.mv (.t 6)) 19 true,⟨5,some 22,.call false Ip.S Ip.P Ip.D [(.t 20),(.t 21)],(some (19,true)),[]⟩,og 6 23 (.un .not (.t 22)) 19 true,oa 7 24 (.pick (.t 19) (.t 23) An)]) (.cond (.t 24) (.region [om 0 25 4,om 1 26 6,⟨2,some 27,.a false (.litSlice 1 1 [Ab] [(0,1,(.t 26))]) (some (.one (.int .i64))),none,[]⟩,oa 3 28 (.app 1 (.t 25) (.t 27)),om 4 4 28]) .skip)))) (.region [oa 0 29 (.bin .add (.t 13) Au),om 1 13 29]))))))) (.seq [2] (.region [om 0 30 4,om 1 2 30]) .ret))))))
def Ik:Fn:=⟨⟨1,31,0,false,[.tmp 2],sP⟩,[.one .frz (.sl (.one (.int .i64)))],.one (.one .own (.sl (.one (.int .i64))))⟩
theorem fR:Ik.A:=AV ⟨fk,v8,uL,trivial⟩
def LA:Bb->List (Int):=Ik.V
def QQ:Bb->Prop:=Ik.O
theorem fT:Ik.B:=AX ⟨fg,uA,trivial⟩ (by kernel_rfl) (λ x=>by kernel_rfl)
def sm:DCode:=(.seq [2,0] (.region [oa 0 2 (.allocB 0 [Ab,.nils])]) (.seq [2,0] (.seq [9,2,0] (.region [on 0 7 0,oF 1 8 E2 [(.t 7)],oa 2 9 (.un .not (.t 8))]) (.cond (.t 9) (.seq [2] (.region [oa 0 10 (.build [Ab,.nils] []),os 1 (.storeB 0 2 (.t 2) (.t 10))]) .ret) .skip)) (.seq [3,2,0] (.region [oa 0 3 (.allocB 1 [Ab,.nils])]) (.seq [4,3,2,0] (.region [oa 0 4 (.mv (.c .nils))]) (.seq [4,3,2] (.seq [13,12,11,4,3,2] (.region [on 0 11 0,oa 1 12 (.len (.t 11)),oi 2 13 0]) (.block 0 (.loop [2,3,4,11,12,13] 1 (.seq [14,13,12,11,4,3,2] (.region [oa 0 14 (.bin .lss (.t 13) (.t 12))]) (.seq [13,12,11,4,3,2] (.cond (.t 14) .skip (.exit 0)) (.seq [13,12,11,4,3,2] (.block 1 (.seq [13,12,11,6,4,3,2] (.region [oa 0 15 (.indexA 5 (.t 11) (.t 13)),ob 1 16 (.loadH (some 5) (.t 15)),oa 2 6 (.allocB 2 [Ab,Ab,Ab,Ab,Ab]),os 3 (.storeB 2 5 (.t 6) (.t 16))]) (.seq [13,12,11,6,4,3,2] (.seq [26,13,12,11,6,4,3,2] (.region [oa 0 17 (.fieldA 1 (.t 6)),oa 1 18 (.fieldA 0 (.t 17)),oa 2 19 (.loadB 2 none (.t 18)),oa 3 20 (.bin .eql (.t 19) (.c (.int .i64 2))),om 4 21 20,og 5 22 (.fieldA 1 (.t 6)) 21 false,og 6 23 (.fieldA 0 (.t 22)) 21 false,og 7 24 (.loadB 2 none (.t 23)) 21 false,og 8 25 (.bin .eql (.t 24) (.c (.int .i64 8))) 21 false,oa 9 26 (.pick (.t 21) AR (.t 25))]) (.cond (.t 26) (.region [oa 0 27 (.fieldA 0 (.t 3)),oa 1 28 (.loadB 1 none (.t 27)),oa 2 29 (.fieldA 1 (.t 6)),oa 3 30 (.fieldA 2 (.t 29)),oa 4 31 (.loadB 2 none (.t 30)),oa 5 32 (.bin .or (.t 28) (.t 31)),oa 6 33 (.fieldA 0 (.t 3)),os 7 (.storeB 1 1 (.t 33) (.t 32))]) .skip)) (.region [om 0 34 4,oa 1 35 (.fieldA 1 (.t 6)),oa 2 36 (.fieldA 1 (.t 35)),ob 3 37 (.loadB 2 none (.t 36)),⟨4,some 38,.a false (.litSlice 1 1 [Ab] [(0,1,(.t 37))]) (some (.one (.int .i64))),none,[]⟩,oa 5 39 (.app 1 (.t 34) (.t 38)),om 6 4 39])))) (.region [oa 0 40 (.bin .add (.t 13) Au),om 1 13 40]))))))) (.seq [3,2] (.region [on 0 41 4,oF 1 42 Ik [(.t 41)],oa 2 43 (.fieldA 1 (.t 3)),os 3 (.storeB 1 1 (.t 43) (.t 42))]) (.seq [2] (.region [ob 0 44 (.loadB 1 (some 2) (.t 3)),os 1 (.storeB 0 2 (.t 2) (.t 44))]) .ret)))))))
def CN:Fn:=⟨⟨1,45,3,false,[.cell 2 (some 2)],sm⟩,[.one .frz (.sl Bj)],.one (.agg [Aq,(.own,.sl (.one (.int .i64)))])⟩
theorem Lq:CN.A:=AV ⟨UQ,fR,trivial⟩
def BL:Bz->Int×List (Int):=CN.V
def GM:Bz->Prop:=CN.O
theorem Ln:CN.B:=AX ⟨UY,fT,trivial⟩ (by kernel_rfl) (λ x=>by kernel_rfl)
end
section
set_option maxRecDepth 100000
def MC(x:Bz)(x0:A6):Bool:=(iLt x0.1 (lLen x))
def Oc(x:Bz)(x0:A6):A6:=((iAdd .i64 x0.1 1),(bSel (bOr (iEq (lGet x (iNat x0.1) (0,0,0,0,0)).2.1 2) (iEq (lGet x (iNat x0.1) (0,0,0,0,0)).2.1 8)) (iOr .i64 x0.2 (lGet x (iNat x0.1) (0,0,0,0,0)).2.2.2.1) x0.2))
def J3(x0:DY):Bool:=(iLe x0.1 56)
def Oa(x:Bz)(x0:DY)(x1:Int):Bool:=(bAnd (iLt x1 (lLen x)) (bNot (iEq (lGet x (iNat x1) (0,0,0,0,0)).2.2.1 x0.1)))
def Qt(x1:Int):Int:=(iAdd .i64 x1 1)
def Lj(x:Bz)(x0:DY):DY:=((iAdd .i64 x0.1 1),(bSel (iLt (Am (Oa x x0) Qt 0) (lLen x)) (lApp x0.2 [x0.1]) x0.2))
def TL(x:Bz)(x0:A6):Prop:=(((iLt x0.1 (lLen x))=true->(((((0:Int)<=x0.1)/\(x0.1<(((List.length x):Int))))/\(((iNat x0.1)<(List.length x))/\(((iEq (lGet x (iNat x0.1) (0,0,0,0,0)).2.1 2)=true->True)/\((iEq (lGet x (iNat x0.1) (0,0,0,0,0)).2.1 2)=false->((((0:Int)<=x0.1)/\(x0.1<(((List.length x):Int))))/\((iNat x0.1)<(List.length x)))))))/\(((bOr (iEq (lGet x (iNat x0.1) (0,0,0,0,0)).2.1 2) (iEq (lGet x (iNat x0.1) (0,0,0,0,0)).2.1 8))=true->((((0:Int)<=x0.1)/\(x0.1<(((List.length x):Int))))/\((iNat x0.1)<(List.length x))))/\((bOr (iEq (lGet x (iNat x0.1) (0,0,0,0,0)).2.1 2) (iEq (lGet x (iNat x0.1) (0,0,0,0,0)).2.1 8))=false->True))))/\((iLt x0.1 (lLen x))=false->True))
def TQ(x:Bz)(x0:DY)(x1:Int):Prop:=(((iLt x1 (lLen x))=true->((((0:Int)<=x1)/\(x1<(((List.length x):Int))))/\(((iNat x1)<(List.length x))/\(((iEq (lGet x (iNat x1) (0,0,0,0,0)).2.2.1 x0.1)=true->(Av (((List.length x0.2)+(List.length [x0.1]))*1)))/\((iEq (lGet x (iNat x1) (0,0,0,0,0)).2.2.1 x0.1)=false->True)))))/\((iLt x1 (lLen x))=false->True))
def Yx(x:Bz)(x0:DY):Prop:=(((iLe x0.1 56)=true->(LoopOk (Oa x x0) Qt (TQ x x0) 0))/\((iLe x0.1 56)=false->True))
theorem fq (x):AY x=(bSel (bNot (EF x)) (0,[]) ((Am (MC x) (Oc x) (0,0)).2,(Am J3 (Lj x) (1,[])).2)):=(EX.v x).trans (by kernel_rfl)
theorem rW (x):Lm x=((MN x)/\(((bNot (EF x))=true->True)/\((bNot (EF x))=false->((LoopOk (MC x) (Oc x) (TL x) (0,0))/\(LoopOk J3 (Lj x) (Yx x) (1,[])))))):=(EX.o x).trans (by kernel_rfl)
def Uf(x:Eh)(x0:Int):Bool:=(bAnd (iLt x0 (lLen x.1)) (bNot (iEq (lGet x.1 (iNat x0) 0) x.2)))
def YN(x0:Int):Int:=(iAdd .i64 x0 1)
def YW(x:Eh)(x0:Int):Prop:=(((iLt x0 (lLen x.1))=true->((((0:Int)<=x0)/\(x0<(((List.length x.1):Int))))/\((iNat x0)<(List.length x.1))))/\((iLt x0 (lLen x.1))=false->True))
theorem u5 (x):OW x=(iLt (Am (Uf x) YN 0) (lLen x.1)):=(Ip.v x).trans (by kernel_rfl)
theorem uV (x):UZ x=(LoopOk (Uf x) YN (YW x) 0):=(Ip.o x).trans (by kernel_rfl)
def QA(x:Bb)(x0:Eh):Bool:=(iLt x0.2 (lLen (D1 (C7 x) 0).1))
def TV(x:Bb)(x0:Eh):Eh:=((bSel (bAnd (iNe (lGet (D1 (C7 x) 0).1 (iNat x0.2) 0) 0) (bNot (OW (x0.1,(lGet (D1 (C7 x) 0).1 (iNat x0.2) 0))))) (lApp x0.1 [(lGet (D1 (C7 x) 0).1 (iNat x0.2) 0)]) x0.1),(iAdd .i64 x0.2 1))
def YF(x:Bb)(x0:Eh):Prop:=(((iLt x0.2 (lLen (D1 (C7 x) 0).1))=true->((((0:Int)<=x0.2)/\(x0.2<(((List.length (D1 (C7 x) 0).1):Int))))/\(((iNat x0.2)<(List.length (D1 (C7 x) 0).1))/\((((iNe (lGet (D1 (C7 x) 0).1 (iNat x0.2) 0) 0)=true->(UZ (x0.1,(lGet (D1 (C7 x) 0).1 (iNat x0.2) 0))))/\((iNe (lGet (D1 (C7 x) 0).1 (iNat x0.2) 0) 0)=false->True))/\(((bAnd (iNe (lGet (D1 (C7 x) 0).1 (iNat x0.2) 0) 0) (bNot (OW (x0.1,(lGet (D1 (C7 x) 0).1 (iNat x0.2) 0)))))=true->(Av (((List.length x0.1)+(List.length [(lGet (D1 (C7 x) 0).1 (iNat x0.2) 0)]))*1)))/\((bAnd (iNe (lGet (D1 (C7 x) 0).1 (iNat x0.2) 0) 0) (bNot (OW (x0.1,(lGet (D1 (C7 x) 0).1 (iNat x0.2) 0)))))=false->True))))))/\((iLt x0.2 (lLen (D1 (C7 x) 0).1))=false->True))
theorem sT (x):LA x=(Am (QA x) (TV x) ([],0)).1:=(Ik.v x).trans (by kernel_rfl)
theorem tx (x):QQ x=((QN x)/\((((List.length (C7 x))=(List.length (C7 x)))/\(DMk.ok (DMk.mk (RT.one (CT.sl (RT.one (CT.int IntKind.i64)))) false Vo D1 true) (C7 x)))/\(LoopOk (QA x) (TV x) (YF x) ([],0)))):=(Ik.o x).trans (by kernel_rfl)
def J4(x:Bz)(x0:CB):Bool:=(iLt x0.2.1 (lLen x))
def J1(x:Bz)(x0:CB):CB:=((lApp x0.1 [(lGet x (iNat x0.2.1) (0,0,0,0,0)).2.2.1]),(iAdd .i64 x0.2.1 1),(bSel (bOr (iEq (lGet x (iNat x0.2.1) (0,0,0,0,0)).2.1 2) (iEq (lGet x (iNat x0.2.1) (0,0,0,0,0)).2.1 8)) (iOr .i64 x0.2.2 (lGet x (iNat x0.2.1) (0,0,0,0,0)).2.2.2.1) x0.2.2))
def TS(x:Bz)(x0:CB):Prop:=(((iLt x0.2.1 (lLen x))=true->((((0:Int)<=x0.2.1)/\(x0.2.1<(((List.length x):Int))))/\(((iNat x0.2.1)<(List.length x))/\(Av (((List.length x0.1)+(List.length [(lGet x (iNat x0.2.1) (0,0,0,0,0)).2.2.1]))*1)))))/\((iLt x0.2.1 (lLen x))=false->True))
theorem rV (x):BL x=(bSel (bNot (Ct x)) (0,[]) ((Am (J4 x) (J1 x) ([],0,0)).2.2,(LA (Am (J4 x) (J1 x) ([],0,0)).1))):=(CN.v x).trans (by kernel_rfl)
theorem rA (x):GM x=((MM x)/\(((bNot (Ct x))=true->True)/\((bNot (Ct x))=false->((LoopOk (J4 x) (J1 x) (TS x) ([],0,0))/\(QQ (Am (J4 x) (J1 x) ([],0,0)).1))))):=(CN.o x).trans (by kernel_rfl)
attribute [irreducible] AY Lm OW UZ LA QQ BL GM
end
section
set_option maxRecDepth 8000
def vj:DCode:=(.seq [2,1] (.region [oa 0 1 (.boxB 0 2 (.t 0)),oa 1 2 (.allocB 1 [Ab,.nils])]) (.seq [3,2,1] (.region [oa 0 5 (.fieldA 0 (.t 1)),ob 1 6 (.loadB 0 none (.t 5)),oa 2 7 (.build [Ab,.nils] [(0,1,(.t 6))]),oa 3 3 (.allocB 2 [Ab,.nils]),os 4 (.storeB 2 2 (.t 3) (.t 7))]) (.seq [3,2] (.seq [4,3,2,1] (.region [oi 0 4 0]) (.block 0 (.loop [1,2,3,4] 1 (.seq [4,3,2,1] (.seq [12,4,3,2,1] (.region [om 0 8 4,oa 1 9 (.fieldA 1 (.t 1)),oa 2 10 (.loadB 0 none (.t 9)),oa 3 11 (.len (.t 10)),oa 4 12 (.bin .lss (.t 8) (.t 11))]) (.cond (.t 12) .skip (.exit 0))) (.seq [4,3,2,1] (.block 1 (.region [oa 0 15 (.fieldA 1 (.t 3)),xB 1 16 (.loadB 2 none (.t 15)) (rg 1),oa 3 18 (.fieldA 1 (.t 1)),xA 4 19 (.loadB 0 none (.t 18)) [3],om 5 20 4,xA 6 21 (.indexA 1 (.t 19) (.t 20)) [3,4,5],xA 7 22 (.loadH none (.t 21)) [3,4,5,6],⟨2,some 17,.a false (.litSlice 4 0 [] []) (some BA),none,[]⟩,xA 8 23 (.app 4 (.t 17) (.t 22)) [2,3,4,5,6,7],⟨9,some 24,.a false (.litSlice 1 1 [.nils] [(0,1,(.t 23))]) (some (.one (.sl BA))),none,[2,3,4,5,6,7,8]⟩,xA 10 25 (.app 1 (.t 16) (.t 24)) (rg 10),xA 11 26 (.fieldA 1 (.t 3)) (rg 11),xS 12 (.storeB 2 1 (.t 26) (.t 25)) (rg 12)])) (.region [om 0 13 4,oa 1 14 (.bin .add (.t 13) Au),om 2 4 14])))))) (.seq [2] (.region [ob 0 27 (.loadB 2 (some 2) (.t 3)),os 1 (.storeB 1 2 (.t 2) (.t 27))]) .ret))))
def Kt:Fn:=⟨⟨1,28,3,false,[.cell 2 (some 2)],vj⟩,[.agg [Aw,(.frz,.sl (.one (.sl BA)))]],.one (.agg [Aq,(.own,.sl (.one (.sl BA)))])⟩
theorem tH:Kt.A:=AV trivial
def Ri:CZ->Int×DU:=Kt.V
def UT:CZ->Prop:=Kt.O
theorem uq:Kt.B:=AX trivial (by kernel_rfl) (λ x=>by kernel_rfl)
def pD:DCode:=(.seq [2,1] (.region [oa 0 1 (.boxB 0 2 (.t 0)),oa 1 2 (.allocB 1 [Ab,.nils])]) (.seq [3,2,1] (.region [oa 0 6 (.fieldA 0 (.t 1)),ob 1 7 (.loadB 0 none (.t 6)),oa 2 8 (.build [Ab,.nils] [(0,1,(.t 7))]),oa 3 3 (.allocB 2 [Ab,.nils]),os 4 (.storeB 2 2 (.t 3) (.t 8))]) (.seq [3,2] (.seq [12,11,10,3,2] (.region [oa 0 9 (.fieldA 1 (.t 1)),oa 1 10 (.loadB 0 none (.t 9)),oa 2 11 (.len (.t 10)),oi 3 12 0]) (.block 0 (.loop [2,3,10,11,12] 1 (.seq [13,12,11,10,3,2] (.region [oa 0 13 (.bin .lss (.t 12) (.t 11))]) (.seq [12,11,10,3,2] (.cond (.t 13) .skip (.exit 0)) (.seq [12,11,10,3,2] (.block 1 (.seq [12,11,10,5,3,2] (.region [oa 0 14 (.indexA 1 (.t 10) (.t 12)),oa 1 15 (.loadH none (.t 14)),on 2 5 15]) (.region [oa 0 16 (.fieldA 1 (.t 3)),xB 1 17 (.loadB 2 none (.t 16)) (rg 1),on 2 18 5,xA 3 19 (.app 4 (.c .nils) (.t 18)) [2],⟨4,some 20,.a false (.litSlice 1 1 [.nils] [(0,1,(.t 19))]) (some (.one (.sl BA))),none,[2,3]⟩,xA 5 21 (.app 1 (.t 17) (.t 20)) (rg 5),xA 6 22 (.fieldA 1 (.t 3)) (rg 6),xS 7 (.storeB 2 1 (.t 22) (.t 21)) (rg 7)]))) (.region [oa 0 23 (.bin .add (.t 12) Au),om 1 12 23]))))))) (.seq [2] (.region [ob 0 24 (.loadB 2 (some 2) (.t 3)),os 1 (.storeB 1 2 (.t 2) (.t 24))]) .ret))))
def J5:Fn:=⟨⟨1,25,3,false,[.cell 2 (some 2)],pD⟩,[.agg [Aw,(.frz,.sl (.one (.sl BA)))]],.one (.agg [Aq,(.own,.sl (.one (.sl BA)))])⟩
theorem pF:J5.A:=AV trivial
def H6:CZ->Int×DU:=J5.V
def Qx:CZ->Prop:=J5.O
theorem pY:J5.B:=AX trivial (by kernel_rfl) (λ x=>by kernel_rfl)
end
section
set_option maxRecDepth 100000
def T7(x:CZ)(x0:CZ):Bool:=(iLt x0.1 (lLen x.2))
def Uj(x:CZ)(x0:CZ):CZ:=((iAdd .i64 x0.1 1),(lApp x0.2 [(lApp [] (lGet x.2 (iNat x0.1) []))]))
def Y0(x:CZ)(x0:CZ):Prop:=(((iLt x0.1 (lLen x.2))=true->((((0:Int)<=x0.1)/\(x0.1<(((List.length x.2):Int))))/\(((iNat x0.1)<(List.length x.2))/\((Av (((List.length ([]:List CH))+(List.length (lGet x.2 (iNat x0.1) [])))*4))/\(Av (((List.length x0.2)+(List.length [(lApp [] (lGet x.2 (iNat x0.1) []))]))*1))))))/\((iLt x0.1 (lLen x.2))=false->True))
theorem vl (x):Ri x=(x.1,(Am (T7 x) (Uj x) (0,[])).2):=(Kt.v x).trans (by kernel_rfl)
theorem tN (x):UT x=(LoopOk (T7 x) (Uj x) (Y0 x) (0,[])):=(Kt.o x).trans (by kernel_rfl)
def TG(x:CZ)(x0:CZ):Bool:=(iLt x0.1 (lLen x.2))
def TE(x:CZ)(x0:CZ):CZ:=((iAdd .i64 x0.1 1),(lApp x0.2 [(lGet x.2 (iNat x0.1) [])]))
def Yq(x:CZ)(x0:CZ):Prop:=(((iLt x0.1 (lLen x.2))=true->((((0:Int)<=x0.1)/\(x0.1<(((List.length x.2):Int))))/\(((iNat x0.1)<(List.length x.2))/\((Av ((List.length (lGet x.2 (iNat x0.1) []))*4))/\(Av (((List.length x0.2)+(List.length [(lGet x.2 (iNat x0.1) [])]))*1))))))/\((iLt x0.1 (lLen x.2))=false->True))
theorem pK (x):H6 x=(x.1,(Am (TG x) (TE x) (0,[])).2):=(J5.v x).trans (by kernel_rfl)
theorem pH (x):Qx x=(LoopOk (TG x) (TE x) (Yq x) (0,[])):=(J5.o x).trans (by kernel_rfl)
attribute [irreducible] Ri UT H6 Qx
end
section
set_option maxRecDepth 8000
def rH:DCode:=(.seq [1] (.region [oa 0 1 (.boxB 0 7 (.t 0)),oa 1 2 (.mv An)]) (.seq [1] (.seq [20,1] (.region [oa 0 5 (.fieldA 0 (.t 1)),oa 1 6 (.loadB 0 (some 2) (.t 5)),oF 2 7 Ij [(.t 6)],oa 3 8 (.un .not (.t 7)),om 4 9 8,og 5 10 (.fieldA 2 (.t 1)) 9 false,og 6 11 (.loadB 0 none (.t 10)) 9 false,og 7 12 (.len (.t 11)) 9 false,og 8 13 (.bin .gtr (.t 12) (.c (.int .i64 4))) 9 false,oa 9 14 (.pick (.t 9) AR (.t 13)),om 10 15 14,og 11 16 (.fieldA 4 (.t 1)) 15 false,og 12 17 (.loadB 0 none (.t 16)) 15 false,⟨13,some 18,.call false El.S El.P El.D [(.t 17)],(some (15,false)),[]⟩,og 14 19 (.un .not (.t 18)) 15 false,oa 15 20 (.pick (.t 15) AR (.t 19))]) (.cond (.t 20) (.seq [2] (.region [oa 0 2 (.mv An)]) .ret) .skip)) (.seq [1] (.seq [3,1] (.region [oi 0 3 0]) (.block 0 (.loop [1,3] 1 (.seq [3,1] (.seq [25,3,1] (.region [om 0 21 3,oa 1 22 (.fieldA 2 (.t 1)),oa 2 23 (.loadB 0 none (.t 22)),oa 3 24 (.len (.t 23)),oa 4 25 (.bin .lss (.t 21) (.t 24))]) (.cond (.t 25) .skip (.exit 0))) (.seq [3,1] (.block 1 (.seq [34,3,1] (.region [oa 0 28 (.fieldA 2 (.t 1)),oa 1 29 (.loadB 0 none (.t 28)),om 2 30 3,oa 3 31 (.indexA 1 (.t 29) (.t 30)),oa 4 32 (.loadH none (.t 31)),oF 5 33 GQ [(.t 32)],oa 6 34 (.un .not (.t 33))]) (.cond (.t 34) (.seq [2] (.region [oa 0 2 (.mv An)]) .ret) .skip))) (.region [om 0 26 3,oa 1 27 (.bin .add (.t 26) Au),om 2 3 27])))))) (.seq [1] (.seq [4,1] (.region [oi 0 4 0]) (.block 2 (.loop [1,4] 1 (.seq [4,1] (.seq [39,4,1] (.region [om 0 35 4,oa 1 36 (.fieldA 4 (.t 1)),oa 2 37 (.loadB 0 none (.t 36)),oa 3 38 (.len (.t 37)),oa 4 39 (.bin .lss (.t 35) (.t 38))]) (.cond (.t 39) .skip (.exit 2))) (.seq [4,1] (.block 3 (.seq [75,4,1] (.region [oa 0 42 (.fieldA 4 (.t 1)),xA 1 43 (.loadB 0 none (.t 42)) (rg 1),om 2 44 4,xA 3 45 (.indexA 5 (.t 43) (.t 44)) (rg 3),xA 4 46 (.fieldA 0 (.t 45)) (rg 4),xA 5 47 (.loadH none (.t 46)) (rg 5),oa 6 48 (.fieldA 0 (.t 1)),xA 7 49 (.fieldA 0 (.t 48)) [6],xA 8 50 (.loadB 0 none (.t 49)) [6,7],xA 9 51 (.bin .geq (.t 47) (.t 50)) (rg 9),xA 10 52 (.mv (.t 51)) (rg 10),⟨11,some 53,.a false (.fieldA 4 (.t 1)) none,(some (52,false)),[0,1,2,3,4,5,6,7,8,9,10]⟩,⟨12,some 54,.a false (.loadB 0 none (.t 53)) none,(some (52,false)),[0,1,2,3,4,5,6,7,8,9,10,11]⟩,⟨13,some 55,.a false (.mv (.t 4)) none,(some (52,false)),[0,1,2,3,4,5,6,7,8,9,10]⟩,⟨14,some 56,.a false (.indexA 5 (.t 54) (.t 55)) none,(some (52,false)),[0,1,2,3,4,5,6,7,8,9,10,11,12,13]⟩,⟨15,some 57,.a false (.fieldA 1 (.t 56)) none,(some (52,false)),[0,1,2,3,4,5,6,7,8,9,10,11,12,13,14]⟩,⟨16,some 58,.a false (.fieldA 0 (.t 57)) none,(some (52,false)),[0,1,2,3,4,5,6,7,8,9,10,11,12,13,14,15]⟩,⟨17,some 59,.a false (.loadH none (.t 58)) none,(some (52,false)),[0,1,2,3,4,5,6,7,8,9,10,11,12,13,14,15,16]⟩,⟨18,some 60,.a false (.bin .neq (.t 59) (.c (.int .i64 9))) none,(some (52,false)),[0,1,2,3,4,5,6,7,8,9,10,11,12,13,14,15,16,17]⟩,⟨19,some 61,.a false (.mv (.t 60)) none,(some (52,false)),[0,1,2,3,4,5,6,7,8,9,10,11,12,13,14,15,16,17,18]⟩,⟨20,some 62,.a false (.fieldA 4 (.t 1)) none,(some (61,true)),[0,1,2,3,4,5,6,7,8,9,10,11,12,13,14,15,16,17,18,19]⟩,⟨21,some 63,.a false (.loadB 0 none (.t 62)) none,(some (61,true)),[0,1,2,3,4,5,6,7,8,9,10,11,12,13,14,15,16,17,18,19,20]⟩,⟨22,some 64,.a false (.mv (.t 4)) none,(some (61,true)),[0,1,2,3,4,5,6,7,8,9,10,11,12,13,14,15,16,17,18,19]⟩,⟨23,some 65,.a false (.indexA 5 (.t 63) (.t 64)) none,(some (61,true)),[0,1,2,3,4,5,6,7,8,9,10,11,12,13,14,15,16,17,18,19,20,21,22]⟩,⟨24,some 66,.a false (.fieldA 1 (.t 65)) none,(some (61,true)),[0,1,2,3,4,5,6,7,8,9,10,11,12,13,14,15,16,17,18,19,20,21,22,23]⟩,⟨25,some 67,.a false (.fieldA 3 (.t 66)) none,(some (61,true)),[0,1,2,3,4,5,6,7,8,9,10,11,12,13,14,15,16,17,18,19,20,21,22,23,24]⟩,⟨26,some 68,.a false (.loadH none (.t 67)) none,(some (61,true)),[0,1,2,3,4,5,6,7,8,9,10,11,12,13,14,15,16,17,18,19,20,21,22,23,24,25]⟩,⟨27,some 69,.a false (.fieldA 0 (.t 1)) none,(some (61,true)),[0,1,2,3,4,5,6,7,8,9,10,11,12,13,14,15,16,17,18,19]⟩,⟨28,some 70,.a false (.fieldA 1 (.t 69)) none,(some (61,true)),[0,1,2,3,4,5,6,7,8,9,10,11,12,13,14,15,16,17,18,19,27]⟩,⟨29,some 71,.a false (.loadB 0 none (.t 70)) none,(some (61,true)),[0,1,2,3,4,5,6,7,8,9,10,11,12,13,14,15,16,17,18,19,27,28]⟩,⟨30,some 72,.a false (.len (.t 71)) none,(some (61,true)),[0,1,2,3,4,5,6,7,8,9,10,11,12,13,14,15,16,17,18,19,27,28,29]⟩,⟨31,some 73,.a false (.bin .geq (.t 68) (.t 72)) none,(some (61,true)),[0,1,2,3,4,5,6,7,8,9,10,11,12,13,14,15,16,17,18,19,20,21,22,23,24,25,26,27,28,29,30]⟩,⟨32,some 74,.a false (.pick (.t 61) (.t 73) An) none,(some (52,false)),[0,1,2,3,4,5,6,7,8,9,10,11,12,13,14,15,16,17,18,19,20,21,22,23,24,25,26,27,28,29,30,31]⟩,xA 33 75 (.pick (.t 52) AR (.t 74)) (rg 33)]) (.cond (.t 75) (.seq [2] (.region [oa 0 2 (.mv An)]) .ret) .skip))) (.region [om 0 40 4,oa 1 41 (.bin .add (.t 40) Au),om 2 4 41])))))) (.seq [2] (.region [oa 0 76 (.fieldA 3 (.t 1)),xA 1 77 (.loadB 0 none (.t 76)) (rg 1),oa 2 78 (.fieldA 0 (.t 1)),xA 3 79 (.fieldA 1 (.t 78)) [2],xA 4 80 (.loadB 0 none (.t 79)) [2,3],xA 5 81 (.len (.t 80)) [2,3,4],xA 6 82 (.bin .shl Au (.t 81)) [2,3,4,5],xA 7 83 (.bin .sub (.t 82) Au) [2,3,4,5,6],xF 8 84 BM [(.t 77),AE,(.t 83)] (rg 8),xA 9 85 (.mv (.t 84)) (rg 9),⟨10,some 86,.a false (.fieldA 3 (.t 1)) none,(some (85,true)),[0,1,2,3,4,5,6,7,8,9]⟩,⟨11,some 87,.a false (.loadB 0 none (.t 86)) none,(some (85,true)),[0,1,2,3,4,5,6,7,8,9,10]⟩,⟨12,some 88,.a false (.bin .rem (.t 87) (.c (.int .i64 2))) none,(some (85,true)),[0,1,2,3,4,5,6,7,8,9,10,11]⟩,⟨13,some 89,.a false (.bin .eql (.t 88) AE) none,(some (85,true)),[0,1,2,3,4,5,6,7,8,9,10,11,12]⟩,xA 14 90 (.pick (.t 85) (.t 89) An) (rg 14),xA 15 91 (.mv (.t 90)) (rg 15),⟨16,some 92,.a false (.fieldA 5 (.t 1)) none,(some (91,true)),[0,1,2,3,4,5,6,7,8,9,10,11,12,13,14,15]⟩,⟨17,some 93,.a false (.loadB 0 none (.t 92)) none,(some (91,true)),[0,1,2,3,4,5,6,7,8,9,10,11,12,13,14,15,16]⟩,⟨18,some 94,.call false BM.S BM.P BM.D [(.t 93),AE,(.c (.int .i64 15))],(some (91,true)),[0,1,2,3,4,5,6,7,8,9,10,11,12,13,14,15,16,17]⟩,xA 19 95 (.pick (.t 91) (.t 94) An) (rg 19),xA 20 2 (.mv (.t 95)) (rg 20)]) .ret)))))
def GP:Fn:=⟨⟨1,96,1,true,[.tmp 2],rH⟩,[.agg [Aw,(.frz,.sl (.one (.sl BA))),(.frz,.sl (.one (.sl BD))),Aw,(.frz,.sl Bj),Aw,(.frz,.bool)]],.one (.one .own (.bool))⟩
theorem YP:GP.A:=AV ⟨fo,UX,fF,Gk,Gk,trivial⟩
def Gh:Ci->Bool:=GP.V
def Oo:Ci->Prop:=GP.O
theorem YT:GP.B:=AX ⟨fy,U2,fU,Gj,Gj,trivial⟩ (by kernel_rfl) (λ x=>by kernel_rfl)
def sj:DCode:=(.seq [1] (.region [oa 0 1 (.boxB 0 7 (.t 0)),oa 1 2 (.mv An)]) (.seq [1] (.seq [33,1] (.region [oa 0 8 (.fieldA 0 (.t 1)),oa 1 9 (.loadB 0 (some 2) (.t 8)),oF 2 10 Ke [(.t 9)],oa 3 11 (.un .not (.t 10)),om 4 12 11,og 5 13 (.fieldA 2 (.t 1)) 12 false,og 6 14 (.loadB 0 none (.t 13)) 12 false,og 7 15 (.len (.t 14)) 12 false,og 8 16 (.bin .gtr (.t 15) (.c (.int .i64 4))) 12 false,oa 9 17 (.pick (.t 12) AR (.t 16)),om 10 18 17,og 11 19 (.fieldA 4 (.t 1)) 18 false,og 12 20 (.loadB 0 none (.t 19)) 18 false,⟨13,some 21,.call false E2.S E2.P E2.D [(.t 20)],(some (18,false)),[]⟩,og 14 22 (.un .not (.t 21)) 18 false,oa 15 23 (.pick (.t 18) AR (.t 22)),om 16 24 23,og 17 25 (.fieldA 5 (.t 1)) 24 false,og 18 26 (.loadB 0 none (.t 25)) 24 false,og 19 27 (.bin .lss (.t 26) AE) 24 false,oa 20 28 (.pick (.t 24) AR (.t 27)),om 21 29 28,og 22 30 (.fieldA 5 (.t 1)) 29 false,og 23 31 (.loadB 0 none (.t 30)) 29 false,og 24 32 (.bin .gtr (.t 31) (.c (.int .i64 15))) 29 false,oa 25 33 (.pick (.t 29) AR (.t 32))]) (.cond (.t 33) (.seq [2] (.region [oa 0 2 (.mv An)]) .ret) .skip)) (.seq [1] (.seq [37,36,35,1] (.region [oa 0 34 (.fieldA 2 (.t 1)),oa 1 35 (.loadB 0 none (.t 34)),oa 2 36 (.len (.t 35)),oi 3 37 0]) (.block 0 (.loop [1,35,36,37] 1 (.seq [38,37,36,35,1] (.region [oa 0 38 (.bin .lss (.t 37) (.t 36))]) (.seq [37,36,35,1] (.cond (.t 38) .skip (.exit 0)) (.seq [37,36,35,1] (.block 1 (.seq [37,36,35,4,1] (.region [oa 0 39 (.indexA 1 (.t 35) (.t 37)),oa 1 40 (.loadH none (.t 39)),on 2 4 40]) (.seq [43,37,36,35,1] (.region [on 0 41 4,oF 1 42 GR [(.t 41)],oa 2 43 (.un .not (.t 42))]) (.cond (.t 43) (.seq [2] (.region [oa 0 2 (.mv An)]) .ret) .skip)))) (.region [oa 0 44 (.bin .add (.t 37) Au),om 1 37 44]))))))) (.seq [5,1] (.region [oa 0 45 (.fieldA 0 (.t 1)),oa 1 46 (.fieldA 1 (.t 45)),oa 2 47 (.loadB 0 none (.t 46)),oa 3 48 (.len (.t 47)),om 4 5 48]) (.seq [5,1] (.seq [52,51,50,5,1] (.region [oa 0 49 (.fieldA 4 (.t 1)),oa 1 50 (.loadB 0 none (.t 49)),oa 2 51 (.len (.t 50)),oi 3 52 0]) (.block 2 (.loop [1,5,50,51,52] 1 (.seq [53,52,51,50,5,1] (.region [oa 0 53 (.bin .lss (.t 52) (.t 51))]) (.seq [52,51,50,5,1] (.cond (.t 53) .skip (.exit 2)) (.seq [52,51,50,5,1] (.block 3 (.seq [52,51,50,7,5,1] (.region [oa 0 54 (.indexA 5 (.t 50) (.t 52)),ob 1 55 (.loadH (some 5) (.t 54)),oa 2 7 (.allocB 1 [Ab,Ab,Ab,Ab,Ab]),os 3 (.storeB 1 5 (.t 7) (.t 55))]) (.seq [74,52,51,50,5,1] (.region [oa 0 56 (.fieldA 0 (.t 7)),oa 1 57 (.loadB 1 none (.t 56)),oa 2 58 (.fieldA 0 (.t 1)),oa 3 59 (.fieldA 0 (.t 58)),oa 4 60 (.loadB 0 none (.t 59)),oa 5 61 (.bin .geq (.t 57) (.t 60)),om 6 62 61,og 7 63 (.fieldA 1 (.t 7)) 62 false,og 8 64 (.fieldA 0 (.t 63)) 62 false,og 9 65 (.loadB 1 none (.t 64)) 62 false,og 10 66 (.bin .neq (.t 65) (.c (.int .i64 9))) 62 false,og 11 67 (.mv (.t 66)) 62 false,og 12 68 (.fieldA 1 (.t 7)) 67 true,og 13 69 (.fieldA 3 (.t 68)) 67 true,og 14 70 (.loadB 1 none (.t 69)) 67 true,og 15 71 (.mv (.t 5)) 67 true,og 16 72 (.bin .geq (.t 70) (.t 71)) 67 true,og 17 73 (.pick (.t 67) (.t 72) An) 62 false,oa 18 74 (.pick (.t 62) AR (.t 73))]) (.cond (.t 74) (.seq [2] (.region [oa 0 2 (.mv An)]) .ret) .skip)))) (.region [oa 0 75 (.bin .add (.t 52) Au),om 1 52 75]))))))) (.seq [2] (.region [oa 0 76 (.fieldA 3 (.t 1)),xA 1 77 (.loadB 0 none (.t 76)) (rg 1),xA 2 78 (.bin .geq (.t 77) AE) (rg 2),xA 3 79 (.mv (.t 78)) (rg 3),⟨4,some 80,.a false (.fieldA 3 (.t 1)) none,(some (79,true)),[0,1,2,3]⟩,⟨5,some 81,.a false (.loadB 0 none (.t 80)) none,(some (79,true)),[0,1,2,3,4]⟩,⟨6,some 82,.a false (.bin .rem (.t 81) (.c (.int .i64 2))) none,(some (79,true)),[0,1,2,3,4,5]⟩,⟨7,some 83,.a false (.bin .eql (.t 82) AE) none,(some (79,true)),[0,1,2,3,4,5,6]⟩,xA 8 84 (.pick (.t 79) (.t 83) An) (rg 8),xA 9 85 (.mv (.t 84)) (rg 9),⟨10,some 86,.a false (.fieldA 3 (.t 1)) none,(some (85,true)),[0,1,2,3,4,5,6,7,8,9]⟩,⟨11,some 87,.a false (.loadB 0 none (.t 86)) none,(some (85,true)),[0,1,2,3,4,5,6,7,8,9,10]⟩,⟨12,some 88,.a false (.mv (.t 5)) none,(some (85,true)),[0,1,2,3,4,5,6,7,8,9]⟩,⟨13,some 89,.a false (.bin .shl Au (.t 88)) none,(some (85,true)),[0,1,2,3,4,5,6,7,8,9,12]⟩,⟨14,some 90,.a false (.bin .lss (.t 87) (.t 89)) none,(some (85,true)),[0,1,2,3,4,5,6,7,8,9,10,11,12,13]⟩,xA 15 91 (.pick (.t 85) (.t 90) An) (rg 15),xA 16 2 (.mv (.t 91)) (rg 16)]) .ret))))))
def EZ:Fn:=⟨⟨1,92,2,true,[.tmp 2],sj⟩,[.agg [Aw,(.frz,.sl (.one (.sl BA))),(.frz,.sl (.one (.sl BD))),Aw,(.frz,.sl Bj),Aw,(.frz,.bool)]],.one (.one .own (.bool))⟩
theorem T6:EZ.A:=AV ⟨r5,UQ,fI,trivial⟩
def CV:Ci->Bool:=EZ.V
def Lr:Ci->Prop:=EZ.O
theorem Uo:EZ.B:=AX ⟨rJ,UY,fJ,trivial⟩ (by kernel_rfl) (λ x=>by kernel_rfl)
def uU:DCode:=(.seq [2,1] (.region [oa 0 1 (.boxB 0 7 (.t 0)),oa 1 2 (.allocB 1 [Ab,.nils,.nils,Ab,.nils,Ab,Cy])]) (.seq [3,2,1] (.region [ob 0 5 (.loadB 0 (some 7) (.t 1)),oa 1 3 (.allocB 2 [Ab,.nils,.nils,Ab,.nils,Ab,Cy]),os 2 (.storeB 2 7 (.t 3) (.t 5))]) (.seq [3,2,1] (.region [oa 0 6 (.fieldA 0 (.t 1)),oa 1 7 (.loadB 0 (some 2) (.t 6)),oF 2 8 Kt [(.t 7)],oa 3 9 (.fieldA 0 (.t 3)),os 4 (.storeB 2 2 (.t 9) (.t 8))]) (.seq [3,2,1] (.region [⟨0,some 10,.a false (.litSlice 1 0 [] []) (some (.one (.sl BD))),none,[]⟩,oa 1 11 (.fieldA 2 (.t 3)),os 2 (.storeB 2 1 (.t 11) (.t 10))]) (.seq [3,2,1] (.seq [4,3,2,1] (.region [oi 0 4 0]) (.block 0 (.loop [1,2,3,4] 1 (.seq [4,3,2,1] (.seq [16,4,3,2,1] (.region [om 0 12 4,oa 1 13 (.fieldA 2 (.t 1)),oa 2 14 (.loadB 0 none (.t 13)),oa 3 15 (.len (.t 14)),oa 4 16 (.bin .lss (.t 12) (.t 15))]) (.cond (.t 16) .skip (.exit 0))) (.seq [4,3,2,1] (.block 1 (.region [oa 0 19 (.fieldA 2 (.t 3)),xB 1 20 (.loadB 2 none (.t 19)) (rg 1),oa 3 22 (.fieldA 2 (.t 1)),xA 4 23 (.loadB 0 none (.t 22)) [3],om 5 24 4,xA 6 25 (.indexA 1 (.t 23) (.t 24)) [3,4,5],xA 7 26 (.loadH none (.t 25)) [3,4,5,6],⟨2,some 21,.a false (.litSlice 3 0 [] []) (some BD),none,[]⟩,xA 8 27 (.app 3 (.t 21) (.t 26)) [2,3,4,5,6,7],⟨9,some 28,.a false (.litSlice 1 1 [.nils] [(0,1,(.t 27))]) (some (.one (.sl BD))),none,[2,3,4,5,6,7,8]⟩,xA 10 29 (.app 1 (.t 20) (.t 28)) (rg 10),xA 11 30 (.fieldA 2 (.t 3)) (rg 11),xS 12 (.storeB 2 1 (.t 30) (.t 29)) (rg 12)])) (.region [om 0 17 4,oa 1 18 (.bin .add (.t 17) Au),om 2 4 18])))))) (.seq [3,2] (.region [⟨0,some 31,.a false (.litSlice 5 0 [] []) (some Bj),none,[]⟩,oa 1 32 (.fieldA 4 (.t 1)),oa 2 33 (.loadB 0 none (.t 32)),oa 3 34 (.app 5 (.t 31) (.t 33)),oa 4 35 (.fieldA 4 (.t 3)),os 5 (.storeB 2 1 (.t 35) (.t 34))]) (.seq [2] (.region [ob 0 36 (.loadB 2 (some 7) (.t 3)),os 1 (.storeB 1 7 (.t 2) (.t 36))]) .ret)))))))
def GU:Fn:=⟨⟨1,37,3,false,[.cell 2 (some 7)],uU⟩,[.agg [Aw,(.frz,.sl (.one (.sl BA))),(.frz,.sl (.one (.sl BD))),Aw,(.frz,.sl Bj),Aw,(.frz,.bool)]],.one (.agg [Aq,(.own,.sl (.one (.sl BA))),(.own,.sl (.one (.sl BD))),Aq,(.own,.sl Bj),Aq,(.own,.bool)])⟩
theorem Ze:GU.A:=AV ⟨tH,trivial⟩
def DG:Ci->Int×DU×De×Int×Bz×Int×Bool:=GU.V
def OD:Ci->Prop:=GU.O
theorem Zg:GU.B:=AX ⟨uq,trivial⟩ (by kernel_rfl) (λ x=>by kernel_rfl)
def qC:DCode:=(.seq [4,2,1] (.region [oa 0 2 (.boxB 0 2 (.t 0)),oa 1 4 (.allocB 1 [Ab,.nils,.nils,Ab,.nils,Ab,Cy]),oa 2 5 (.mv An)]) (.seq [6,4] (.region [ob 0 7 (.loadB 0 (some 2) (.t 2)),om 1 8 1,oa 2 9 (.build [Ab,.nils,.nils,Ab,.nils,Ab,Cy] [(0,2,(.t 7)),(2,1,(.t 8))]),oa 3 6 (.allocB 2 [Ab,.nils,.nils,Ab,.nils,Ab,Cy]),os 4 (.storeB 2 7 (.t 6) (.t 9))]) (.seq [6,4] (.seq [12,6,4] (.region [oa 0 10 (.loadB 2 (some 7) (.t 6)),oF 1 11 GP [(.t 10)],oa 2 12 (.un .not (.t 11))]) (.cond (.t 12) (.seq [5,4] (.region [oa 0 13 (.build [Ab,.nils,.nils,Ab,.nils,Ab,Cy] []),os 1 (.storeB 1 7 (.t 4) (.t 13)),oa 2 5 (.mv An)]) .ret) .skip)) (.seq [5,4] (.region [oa 0 14 (.loadB 2 (some 7) (.t 6)),oF 1 15 GU [(.t 14)],os 2 (.storeB 1 7 (.t 4) (.t 15)),oa 3 5 (.mv AR)]) .ret))))
def Kc:Fn:=⟨⟨2,16,3,false,[.cell 4 (some 7),.tmp 5],qC⟩,[.agg [Aw,(.frz,.sl (.one (.sl BA)))],.one .frz (.sl (.one (.sl BD)))],.tup [.agg [Aq,(.own,.sl (.one (.sl BA))),(.own,.sl (.one (.sl BD))),Aq,(.own,.sl Bj),Aq,(.own,.bool)],.one .own (.bool)]⟩
theorem qi:Kc.A:=AV ⟨YP,Ze,trivial⟩
def Ol:XU->Ci×Bool:=Kc.V
def TX:XU->Prop:=Kc.O
theorem qj:Kc.B:=AX ⟨YT,Zg,trivial⟩ (by kernel_rfl) (λ x=>by kernel_rfl)
def pE:DCode:=(.seq [0] (.region [oa 0 2 (.mv (.c .nils))]) (.seq [3,0] (.region [oa 0 3 (.mv (.c .nils))]) (.seq [3] (.seq [8,7,6,3] (.region [on 0 6 0,oa 1 7 (.len (.t 6)),oi 2 8 0]) (.block 0 (.loop [3,6,7,8] 1 (.seq [9,8,7,6,3] (.region [oa 0 9 (.bin .lss (.t 8) (.t 7))]) (.seq [8,7,6,3] (.cond (.t 9) .skip (.exit 0)) (.seq [8,7,6,3] (.block 1 (.seq [8,7,6,5,3] (.region [oa 0 10 (.indexA 1 (.t 6) (.t 8)),oa 1 11 (.loadH none (.t 10)),on 2 5 11]) (.region [om 0 12 3,on 1 13 5,oa 2 14 (.app 3 (.c .nils) (.t 13)),⟨3,some 15,.a false (.litSlice 1 1 [.nils] [(0,1,(.t 14))]) (some (.one (.sl BD))),none,[]⟩,oa 4 16 (.app 1 (.t 12) (.t 15)),om 5 3 16]))) (.region [oa 0 17 (.bin .add (.t 8) Au),om 1 8 17]))))))) (.seq [2] (.region [om 0 18 3,om 1 2 18]) .ret))))
def J9:Fn:=⟨⟨1,19,0,false,[.tmp 2],pE⟩,[.one .frz (.sl (.one (.sl BD)))],.one (.one .own (.sl (.one (.sl BD))))⟩
theorem pS:J9.A:=AV trivial
def MD:De->List CY:=J9.V
def Qs:De->Prop:=J9.O
theorem pt:J9.B:=AX trivial (by kernel_rfl) (λ x=>by kernel_rfl)
end
section
set_option maxRecDepth 100000
def MB(x:Ci)(x0:Int):Bool:=(bAnd (iLt x0 (lLen x.2.2.1)) (bNot (bNot (Gi (lGet x.2.2.1 (iNat x0) [])))))
def HZ(x0:Int):Int:=(iAdd .i64 x0 1)
def Oe(x:Ci)(x0:Int):Bool:=(bAnd (iLt x0 (lLen x.2.2.2.2.1)) (bNot (bOr (iGe (lGet x.2.2.2.2.1 (iNat x0) (0,0,0,0,0)).1 x.1) (bAnd (iNe (lGet x.2.2.2.2.1 (iNat x0) (0,0,0,0,0)).2.1 9) (iGe (lGet x.2.2.2.2.1 (iNat x0) (0,0,0,0,0)).2.2.2.2 (lLen x.2.1))))))
def Yt(x:Ci)(x0:Int):Prop:=(((iLt x0 (lLen x.2.2.1))=true->((((0:Int)<=x0)/\(x0<(((List.length x.2.2.1):Int))))/\(((iNat x0)<(List.length x.2.2.1))/\(Ow (lGet x.2.2.1 (iNat x0) [])))))/\((iLt x0 (lLen x.2.2.1))=false->True))
def YC(x:Ci)(x0:Int):Prop:=(((iLt x0 (lLen x.2.2.2.2.1))=true->((((0:Int)<=x0)/\(x0<(((List.length x.2.2.2.2.1):Int))))/\(((iNat x0)<(List.length x.2.2.2.2.1))/\(((iGe (lGet x.2.2.2.2.1 (iNat x0) (0,0,0,0,0)).1 x.1)=true->True)/\((iGe (lGet x.2.2.2.2.1 (iNat x0) (0,0,0,0,0)).1 x.1)=false->((((0:Int)<=x0)/\(x0<(((List.length x.2.2.2.2.1):Int))))/\(((iNat x0)<(List.length x.2.2.2.2.1))/\(((iNe (lGet x.2.2.2.2.1 (iNat x0) (0,0,0,0,0)).2.1 9)=true->((((0:Int)<=x0)/\(x0<(((List.length x.2.2.2.2.1):Int))))/\((iNat x0)<(List.length x.2.2.2.2.1))))/\((iNe (lGet x.2.2.2.2.1 (iNat x0) (0,0,0,0,0)).2.1 9)=false->True)))))))))/\((iLt x0 (lLen x.2.2.2.2.1))=false->True))
theorem qZ (x):Gh x=(bAnd (bNot (bOr (bNot (GO (x.1,x.2.1))) (bOr (iGt (lLen x.2.2.1) 4) (bNot (EF x.2.2.2.2.1))))) (bAnd (bNot (iLt (Am (MB x) HZ 0) (lLen x.2.2.1))) (bAnd (bNot (iLt (Am (Oe x) HZ 0) (lLen x.2.2.2.2.1))) (bAnd (BH (x.2.2.2.1,0,(iSub .i64 (iShl .i64 1 (lLen x.2.1)) 1))) (bAnd (iEq (iRem x.2.2.2.1 2) 0) (BH (x.2.2.2.2.2.1,0,15))))))):=(GP.v x).trans (by kernel_rfl)
theorem rO (x):Oo x=(((QH (x.1,x.2.1))/\(((bNot (GO (x.1,x.2.1)))=true->True)/\((bNot (GO (x.1,x.2.1)))=false->(((iGt (lLen x.2.2.1) 4)=true->True)/\((iGt (lLen x.2.2.1) 4)=false->(MN x.2.2.2.2.1))))))/\(((bOr (bNot (GO (x.1,x.2.1))) (bOr (iGt (lLen x.2.2.1) 4) (bNot (EF x.2.2.2.2.1))))=true->True)/\((bOr (bNot (GO (x.1,x.2.1))) (bOr (iGt (lLen x.2.2.1) 4) (bNot (EF x.2.2.2.2.1))))=false->((LoopOk (MB x) HZ (Yt x) 0)/\(((iLt (Am (MB x) HZ 0) (lLen x.2.2.1))=true->True)/\((iLt (Am (MB x) HZ 0) (lLen x.2.2.1))=false->((LoopOk (Oe x) HZ (YC x) 0)/\(((iLt (Am (Oe x) HZ 0) (lLen x.2.2.2.2.1))=true->True)/\((iLt (Am (Oe x) HZ 0) (lLen x.2.2.2.2.1))=false->(((0:Int)<=(lLen x.2.1))/\((Ec (x.2.2.2.1,0,(iSub .i64 (iShl .i64 1 (lLen x.2.1)) 1)))/\(((BH (x.2.2.2.1,0,(iSub .i64 (iShl .i64 1 (lLen x.2.1)) 1)))=true->(((2:Int)≠0)/\(((iEq (iRem x.2.2.2.1 2) 0)=true->(Ec (x.2.2.2.2.2.1,0,15)))/\((iEq (iRem x.2.2.2.1 2) 0)=false->True))))/\((BH (x.2.2.2.1,0,(iSub .i64 (iShl .i64 1 (lLen x.2.1)) 1)))=false->True))))))))))))):=(GP.o x).trans (by kernel_rfl)
def J2(x:Ci)(x0:Int):Bool:=(bAnd (iLt x0 (lLen x.2.2.1)) (bNot (bNot (Io (lGet x.2.2.1 (iNat x0) [])))))
def HY(x0:Int):Int:=(iAdd .i64 x0 1)
def Lh(x:Ci)(x0:Int):Bool:=(bAnd (iLt x0 (lLen x.2.2.2.2.1)) (bNot (bOr (iGe (lGet x.2.2.2.2.1 (iNat x0) (0,0,0,0,0)).1 x.1) (bAnd (iNe (lGet x.2.2.2.2.1 (iNat x0) (0,0,0,0,0)).2.1 9) (iGe (lGet x.2.2.2.2.1 (iNat x0) (0,0,0,0,0)).2.2.2.2 (lLen x.2.1))))))
def Yy(x:Ci)(x0:Int):Prop:=(((iLt x0 (lLen x.2.2.1))=true->((((0:Int)<=x0)/\(x0<(((List.length x.2.2.1):Int))))/\(((iNat x0)<(List.length x.2.2.1))/\(Ox (lGet x.2.2.1 (iNat x0) [])))))/\((iLt x0 (lLen x.2.2.1))=false->True))
def YB(x:Ci)(x0:Int):Prop:=(((iLt x0 (lLen x.2.2.2.2.1))=true->((((0:Int)<=x0)/\(x0<(((List.length x.2.2.2.2.1):Int))))/\((iNat x0)<(List.length x.2.2.2.2.1))))/\((iLt x0 (lLen x.2.2.2.2.1))=false->True))
theorem fe (x):CV x=(bAnd (bNot (bOr (bNot (Ea (x.1,x.2.1))) (bOr (iGt (lLen x.2.2.1) 4) (bOr (bNot (Ct x.2.2.2.2.1)) (bOr (iLt x.2.2.2.2.2.1 0) (iGt x.2.2.2.2.2.1 15)))))) (bAnd (bNot (iLt (Am (J2 x) HY 0) (lLen x.2.2.1))) (bAnd (bNot (iLt (Am (Lh x) HY 0) (lLen x.2.2.2.2.1))) (bAnd (iGe x.2.2.2.1 0) (bAnd (iEq (iRem x.2.2.2.1 2) 0) (iLt x.2.2.2.1 (iShl .i64 1 (lLen x.2.1)))))))):=(EZ.v x).trans (by kernel_rfl)
theorem sq (x):Lr x=(((QL (x.1,x.2.1))/\(((bNot (Ea (x.1,x.2.1)))=true->True)/\((bNot (Ea (x.1,x.2.1)))=false->(((iGt (lLen x.2.2.1) 4)=true->True)/\((iGt (lLen x.2.2.1) 4)=false->(MM x.2.2.2.2.1))))))/\(((bOr (bNot (Ea (x.1,x.2.1))) (bOr (iGt (lLen x.2.2.1) 4) (bOr (bNot (Ct x.2.2.2.2.1)) (bOr (iLt x.2.2.2.2.2.1 0) (iGt x.2.2.2.2.2.1 15)))))=true->True)/\((bOr (bNot (Ea (x.1,x.2.1))) (bOr (iGt (lLen x.2.2.1) 4) (bOr (bNot (Ct x.2.2.2.2.1)) (bOr (iLt x.2.2.2.2.2.1 0) (iGt x.2.2.2.2.2.1 15)))))=false->((LoopOk (J2 x) HY (Yy x) 0)/\(((iLt (Am (J2 x) HY 0) (lLen x.2.2.1))=true->True)/\((iLt (Am (J2 x) HY 0) (lLen x.2.2.1))=false->((LoopOk (Lh x) HY (YB x) 0)/\(((iLt (Am (Lh x) HY 0) (lLen x.2.2.2.2.1))=true->True)/\((iLt (Am (Lh x) HY 0) (lLen x.2.2.2.2.1))=false->(((iGe x.2.2.2.1 0)=true->(((2:Int)≠0)/\(((iEq (iRem x.2.2.2.1 2) 0)=true->((0:Int)<=(lLen x.2.1)))/\((iEq (iRem x.2.2.2.1 2) 0)=false->True))))/\((iGe x.2.2.2.1 0)=false->True))))))))))):=(EZ.o x).trans (by kernel_rfl)
def T5(x:Ci)(x0:Int×De):Bool:=(iLt x0.1 (lLen x.2.2.1))
def Ud(x:Ci)(x0:Int×De):(Int×De):=((iAdd .i64 x0.1 1),(lApp x0.2 [(lApp [] (lGet x.2.2.1 (iNat x0.1) []))]))
def YY(x:Ci)(x0:Int×De):Prop:=(((iLt x0.1 (lLen x.2.2.1))=true->((((0:Int)<=x0.1)/\(x0.1<(((List.length x.2.2.1):Int))))/\(((iNat x0.1)<(List.length x.2.2.1))/\((Av (((List.length ([]:List CS))+(List.length (lGet x.2.2.1 (iNat x0.1) [])))*3))/\(Av (((List.length x0.2)+(List.length [(lApp [] (lGet x.2.2.1 (iNat x0.1) []))]))*1))))))/\((iLt x0.1 (lLen x.2.2.1))=false->True))
theorem ux (x):DG x=((Ri (x.1,x.2.1)).1,(Ri (x.1,x.2.1)).2,(Am (T5 x) (Ud x) (0,[])).2,x.2.2.2.1,(lApp [] x.2.2.2.2.1),x.2.2.2.2.2):=(GU.v x).trans (by kernel_rfl)
theorem tZ (x):OD x=((UT (x.1,x.2.1))/\((LoopOk (T5 x) (Ud x) (YY x) (0,[]))/\(Av (((List.length ([]:List Fc))+(List.length x.2.2.2.2.1))*5)))):=(GU.o x).trans (by kernel_rfl)
theorem eV (x):Ol x=(bSel (bNot (Gh (x.1.1,x.1.2,x.2,0,[],0,false))) ((0,[],[],0,[],0,false),false) ((DG (x.1.1,x.1.2,x.2,0,[],0,false)),true)):=(Kc.v x).trans (by kernel_rfl)
theorem qy (x):TX x=((Oo (x.1.1,x.1.2,x.2,0,[],0,false))/\(((bNot (Gh (x.1.1,x.1.2,x.2,0,[],0,false)))=true->True)/\((bNot (Gh (x.1.1,x.1.2,x.2,0,[],0,false)))=false->(OD (x.1.1,x.1.2,x.2,0,[],0,false))))):=(Kc.o x).trans (by kernel_rfl)
def TF(x:De)(x0:XX):Bool:=(iLt x0.2 (lLen x))
def TD(x:De)(x0:XX):XX:=((lApp x0.1 [(lGet x (iNat x0.2) [])]),(iAdd .i64 x0.2 1))
def Yr(x:De)(x0:XX):Prop:=(((iLt x0.2 (lLen x))=true->((((0:Int)<=x0.2)/\(x0.2<(((List.length x):Int))))/\(((iNat x0.2)<(List.length x))/\((Av ((List.length (lGet x (iNat x0.2) []))*3))/\(Av (((List.length x0.1)+(List.length [(lGet x (iNat x0.2) [])]))*1))))))/\((iLt x0.2 (lLen x))=false->True))
theorem pG (x):MD x=(Am (TF x) (TD x) ([],0)).1:=(J9.v x).trans (by kernel_rfl)
theorem pO (x):Qs x=(LoopOk (TF x) (TD x) (Yr x) ([],0)):=(J9.o x).trans (by kernel_rfl)
@[irreducible] def e8(x:XU):Ci×Bool:=(bSel (bNot (CV ((H6 x.1).1,(H6 x.1).2,(MD x.2),0,[],0,false))) ((0,[],[],0,[],0,false),false) (((H6 x.1).1,(H6 x.1).2,(MD x.2),0,[],0,false),true))
@[irreducible] def e7(x:XU):Prop:=((Qx x.1)/\((Qs x.2)/\(Lr ((H6 x.1).1,(H6 x.1).2,(MD x.2),0,[],0,false))))
attribute [irreducible] Gh Oo CV Lr DG OD Ol TX MD Qs
end
section
set_option maxRecDepth 8000
def rD:DCode:=(.seq [4,1,0] (.region [oa 0 4 (.allocB 0 [Ab,.nils])]) (.seq [5,4,1] (.region [on 0 12 0,oF 1 13 EX [(.t 12)],oa 2 5 (.allocB 1 [Ab,.nils]),os 3 (.storeB 1 2 (.t 5) (.t 13))]) (.seq [5,4,1] (.seq [6,5,4,1] (.region [oi 0 6 0]) (.block 0 (.loop [1,4,5,6] 1 (.seq [6,5,4,1] (.seq [17,6,5,4,1] (.region [om 0 14 6,on 1 15 1,oa 2 16 (.len (.t 15)),oa 3 17 (.bin .lss (.t 14) (.t 16))]) (.cond (.t 17) .skip (.exit 0))) (.seq [6,5,4,1] (.block 1 (.region [oa 0 20 (.fieldA 0 (.t 5)),xA 1 21 (.loadB 1 none (.t 20)) (rg 1),on 2 22 1,om 3 23 6,xA 4 24 (.indexA 5 (.t 22) (.t 23)) [2,3],xA 5 25 (.fieldA 1 (.t 24)) [2,3,4],xA 6 26 (.fieldA 2 (.t 25)) [2,3,4,5],xA 7 27 (.loadH none (.t 26)) [2,3,4,5,6],xA 8 28 (.bin .or (.t 21) (.t 27)) (rg 8),xA 9 29 (.fieldA 0 (.t 5)) (rg 9),xS 10 (.storeB 1 1 (.t 29) (.t 28)) (rg 10)])) (.region [om 0 18 6,oa 1 19 (.bin .add (.t 18) Au),om 2 6 19])))))) (.seq [7,5,4,1] (.region [⟨0,some 30,.a false (.litSlice 1 0 [] []) (some (.one (.int .i64))),none,[]⟩,om 1 7 30]) (.seq [7,5,4] (.seq [8,7,5,4,1] (.region [oi 0 8 1]) (.block 2 (.loop [1,4,5,7,8] 1 (.seq [8,7,5,4,1] (.seq [32,8,7,5,4,1] (.region [om 0 31 8,oa 1 32 (.bin .leq (.t 31) (.c (.int .i64 56)))]) (.cond (.t 32) .skip (.exit 2))) (.seq [8,7,5,4,1] (.block 3 (.seq [9,8,7,5,4,1] (.region [oa 0 9 (.mv An)]) (.seq [9,8,7,5,4,1] (.seq [10,9,8,7,5,4,1] (.region [oi 0 10 0]) (.block 4 (.loop [1,4,5,7,8,9,10] 1 (.seq [10,9,8,7,5,4,1] (.seq [39,10,9,8,7,5,4,1] (.region [om 0 35 10,oa 1 36 (.fieldA 1 (.t 5)),oa 2 37 (.loadB 1 none (.t 36)),oa 3 38 (.len (.t 37)),oa 4 39 (.bin .lss (.t 35) (.t 38))]) (.cond (.t 39) .skip (.exit 4))) (.seq [10,9,8,7,5,4,1] (.block 5 (.region [om 0 42 9,om 1 43 42,og 2 44 (.fieldA 1 (.t 5)) 43 false,og 3 45 (.loadB 1 none (.t 44)) 43 false,og 4 46 (.mv (.t 10)) 43 false,og 5 47 (.indexA 1 (.t 45) (.t 46)) 43 false,og 6 48 (.loadH none (.t 47)) 43 false,og 7 49 (.mv (.t 8)) 43 false,og 8 50 (.bin .eql (.t 48) (.t 49)) 43 false,oa 9 51 (.pick (.t 43) AR (.t 50)),om 10 9 51])) (.region [om 0 40 10,oa 1 41 (.bin .add (.t 40) Au),om 2 10 41])))))) (.seq [9,8,7,5,4,1] (.seq [11,9,8,7,5,4,1] (.region [oi 0 11 0]) (.block 6 (.loop [1,4,5,7,8,9,11] 1 (.seq [11,9,8,7,5,4,1] (.seq [55,11,9,8,7,5,4,1] (.region [om 0 52 11,on 1 53 1,oa 2 54 (.len (.t 53)),oa 3 55 (.bin .lss (.t 52) (.t 54))]) (.cond (.t 55) .skip (.exit 6))) (.seq [11,9,8,7,5,4,1] (.block 7 (.region [om 0 58 9,om 1 59 58,⟨2,some 60,.a true (.mv (.t 1)) none,(some (59,false)),[]⟩,og 3 61 (.mv (.t 11)) 59 false,og 4 62 (.indexA 5 (.t 60) (.t 61)) 59 false,og 5 63 (.fieldA 1 (.t 62)) 59 false,og 6 64 (.fieldA 1 (.t 63)) 59 false,og 7 65 (.loadH none (.t 64)) 59 false,og 8 66 (.mv (.t 8)) 59 false,og 9 67 (.bin .eql (.t 65) (.t 66)) 59 false,oa 10 68 (.pick (.t 59) AR (.t 67)),om 11 9 68])) (.region [om 0 56 11,oa 1 57 (.bin .add (.t 56) Au),om 2 11 57])))))) (.seq [69,8,7,5,4,1] (.region [om 0 69 9]) (.cond (.t 69) (.region [om 0 70 7,om 1 71 8,⟨2,some 72,.a false (.litSlice 1 1 [Ab] [(0,1,(.t 71))]) (some (.one (.int .i64))),none,[]⟩,oa 3 73 (.app 1 (.t 70) (.t 72)),om 4 7 73]) .skip)))))) (.region [om 0 33 8,oa 1 34 (.bin .add (.t 33) Au),om 2 8 34])))))) (.seq [5,4] (.region [om 0 74 7,oa 1 75 (.fieldA 1 (.t 5)),os 2 (.storeB 1 1 (.t 75) (.t 74))]) (.seq [4] (.region [ob 0 76 (.loadB 1 (some 2) (.t 5)),os 1 (.storeB 0 2 (.t 4) (.t 76))]) .ret)))))))
def Ig:Fn:=⟨⟨2,77,2,false,[.cell 4 (some 2)],rD⟩,[.one .frz (.sl Bj),.one .frz (.sl Bj)],.one (.agg [Aq,(.own,.sl (.one (.int .i64)))])⟩
theorem fa:Ig.A:=AV ⟨QJ,trivial⟩
def Fo:F8->Int×List (Int):=Ig.V
def Oj:F8->Prop:=Ig.O
theorem fm:Ig.B:=AX ⟨QB,trivial⟩ (by kernel_rfl) (λ x=>by kernel_rfl)
def o6:DCode:=(.seq [1,0] (.region [oa 0 4 (.mv (.c .nils))]) (.seq [5,1,0] (.region [⟨0,some 9,.a false (.litSlice 2 0 [] []) (some (.cons (.int .i64) (.one (.sl (.one (.int .i64)))))),none,[]⟩,om 1 5 9]) (.seq [6,5,1,0] (.region [⟨0,some 10,.a false (.litSlice 5 0 [] []) (some Bj),none,[]⟩,om 1 6 10]) (.seq [6,5,1,0] (.seq [18,6,5,1,0] (.region [on 0 11 0,oF 1 12 El [(.t 11)],oa 2 13 (.un .not (.t 12)),om 3 14 13,⟨4,some 15,.a true (.mv (.t 1)) none,(some (14,false)),[]⟩,⟨5,some 16,.call false GQ.S GQ.P GQ.D [(.t 15)],(some (14,false)),[]⟩,og 6 17 (.un .not (.t 16)) 14 false,oa 7 18 (.pick (.t 14) AR (.t 17))]) (.cond (.t 18) (.seq [4] (.region [om 0 19 5,om 1 4 19]) .ret) .skip)) (.seq [5] (.seq [7,6,5,1,0] (.region [oi 0 7 0]) (.block 0 (.loop [0,1,5,6,7] 1 (.seq [7,6,5,1,0] (.seq [23,7,6,5,1,0] (.region [om 0 20 7,on 1 21 1,oa 2 22 (.len (.t 21)),oa 3 23 (.bin .lss (.t 20) (.t 22))]) (.cond (.t 23) .skip (.exit 0))) (.seq [7,6,5,1,0] (.block 1 (.seq [8,7,6,5,1,0] (.region [on 0 26 1,om 1 27 7,oa 2 28 (.indexA 3 (.t 26) (.t 27)),ob 3 29 (.loadH (some 3) (.t 28)),oa 4 8 (.allocB 0 [Ab,Ab,Ab]),os 5 (.storeB 0 3 (.t 8) (.t 29))]) (.seq [8,7,6,5,1,0] (.seq [32,8,7,6,5,1,0] (.region [oa 0 30 (.fieldA 0 (.t 8)),oa 1 31 (.loadB 0 none (.t 30)),oa 2 32 (.bin .neq (.t 31) (.c (.int .i64 2)))]) (.cond (.t 32) (.seq [8,7,6,5,1,0] (.region [om 0 33 6,oa 1 34 (.loadB 0 (some 3) (.t 8)),oF 2 35 FU [(.t 34)],oa 3 36 (.build [Ab,Ab,Ab,Ab,Ab] [(1,4,(.t 35))]),⟨4,some 37,.a false (.litSlice 5 1 [Ab,Ab,Ab,Ab,Ab] [(0,5,(.t 36))]) (some Bj),none,[]⟩,oa 5 38 (.app 5 (.t 33) (.t 37)),om 6 6 38]) (.region [om 0 39 5,on 1 40 0,on 2 41 6,oF 3 42 Ig [(.t 40),(.t 41)],⟨4,some 43,.a false (.litSlice 2 1 [Ab,.nils] [(0,2,(.t 42))]) (some (.cons (.int .i64) (.one (.sl (.one (.int .i64)))))),none,[]⟩,oa 5 44 (.app 2 (.t 39) (.t 43)),om 6 5 44])) .skip)) (.seq [47,8,7,6,5,1,0] (.region [oa 0 45 (.fieldA 0 (.t 8)),oa 1 46 (.loadB 0 none (.t 45)),oa 2 47 (.bin .neq (.t 46) Au)]) (.cond (.t 47) (.seq [7,6,5,1,0] (.region [on 0 48 6,on 1 49 6,oa 2 50 (.loadB 0 (some 3) (.t 8)),oF 3 51 Iq [(.t 49),(.t 50)],oF 4 52 GN [(.t 48),(.t 51)],om 5 6 52]) (.region [om 0 53 5,on 1 54 0,on 2 55 6,oF 3 56 Ig [(.t 54),(.t 55)],⟨4,some 57,.a false (.litSlice 2 1 [Ab,.nils] [(0,2,(.t 56))]) (some (.cons (.int .i64) (.one (.sl (.one (.int .i64)))))),none,[]⟩,oa 5 58 (.app 2 (.t 53) (.t 57)),om 6 5 58])) .skip))))) (.region [om 0 24 7,oa 1 25 (.bin .add (.t 24) Au),om 2 7 25])))))) (.seq [4] (.region [om 0 59 5,om 1 4 59]) .ret))))))
def JZ:Fn:=⟨⟨2,60,1,false,[.tmp 4],o6⟩,[.one .frz (.sl Bj),.one .frz (.sl BD)],.one (.one .own (.sl (.cons (.int .i64) (.one (.sl (.one (.int .i64)))))))⟩
theorem o8:JZ.A:=AV ⟨UX,fF,YZ,fa,gA,YH,fa,trivial⟩
def Fm:JJ->List DY:=JZ.V
def N2:JJ->Prop:=JZ.O
theorem pc:JZ.B:=AX ⟨U2,fU,YU,fm,gm,YJ,fm,trivial⟩ (by kernel_rfl) (λ x=>by kernel_rfl)
def qL:DCode:=(.seq [4,2,1] (.region [oa 0 2 (.boxB 0 2 (.t 0)),oa 1 4 (.allocB 1 [Ab,.nils])]) (.seq [5,4,2,1] (.region [oa 0 9 (.fieldA 0 (.t 2)),ob 1 10 (.loadB 0 none (.t 9)),oa 2 11 (.build [Ab,.nils] [(0,1,(.t 10))]),oa 3 5 (.allocB 2 [Ab,.nils]),os 4 (.storeB 2 2 (.t 5) (.t 11))]) (.seq [6,5,4,1] (.region [oa 0 12 (.fieldA 1 (.t 2)),oa 1 13 (.loadB 0 none (.t 12)),oF 2 14 Ii [(.t 13)],om 3 6 14]) (.seq [6,5,4] (.seq [17,16,15,6,5,4] (.region [on 0 15 1,oa 1 16 (.len (.t 15)),oi 2 17 0]) (.block 0 (.loop [4,5,6,15,16,17] 1 (.seq [18,17,16,15,6,5,4] (.region [oa 0 18 (.bin .lss (.t 17) (.t 16))]) (.seq [17,16,15,6,5,4] (.cond (.t 18) .skip (.exit 0)) (.seq [17,16,15,6,5,4] (.block 1 (.seq [17,16,15,8,6,5,4] (.region [oa 0 19 (.indexA 2 (.t 15) (.t 17)),ob 1 20 (.loadH (some 2) (.t 19)),oa 2 8 (.allocB 3 [Ab,Ab]),os 3 (.storeB 3 2 (.t 8) (.t 20))]) (.seq [17,16,15,8,6,5,4] (.region [oa 0 21 (.fieldA 0 (.t 5)),oa 1 22 (.loadB 2 none (.t 21)),oa 2 23 (.fieldA 1 (.t 8)),oa 3 24 (.loadB 3 none (.t 23)),oa 4 25 (.bin .or (.t 22) (.t 24)),oa 5 26 (.fieldA 0 (.t 5)),os 6 (.storeB 2 1 (.t 26) (.t 25))]) (.region [om 0 27 6,oa 1 28 (.fieldA 0 (.t 8)),ob 2 29 (.loadB 3 none (.t 28)),⟨3,some 30,.a false (.litSlice 1 1 [Ab] [(0,1,(.t 29))]) (some (.one (.int .i64))),none,[]⟩,oa 4 31 (.app 1 (.t 27) (.t 30)),om 5 6 31])))) (.region [oa 0 32 (.bin .add (.t 17) Au),om 1 17 32]))))))) (.seq [5,4] (.region [on 0 33 6,oF 1 34 Ik [(.t 33)],oa 2 35 (.fieldA 1 (.t 5)),os 3 (.storeB 2 1 (.t 35) (.t 34))]) (.seq [4] (.region [ob 0 36 (.loadB 2 (some 2) (.t 5)),os 1 (.storeB 1 2 (.t 4) (.t 36))]) .ret))))))
def Ic:Fn:=⟨⟨2,37,4,false,[.cell 4 (some 2)],qL⟩,[.agg [Aw,(.frz,.sl (.one (.int .i64)))],.one .frz (.sl (.cons (.int .i64) (.one (.int .i64))))],.one (.agg [Aq,(.own,.sl (.one (.int .i64)))])⟩
theorem eY:Ic.A:=AV ⟨fk,fR,trivial⟩
def Ka:SU->Int×List (Int):=Ic.V
def Og:SU->Prop:=Ic.O
theorem eS:Ic.B:=AX ⟨fg,fT,trivial⟩ (by kernel_rfl) (λ x=>by kernel_rfl)
def pe:DCode:=(.seq [1,0] (.region [oa 0 4 (.mv (.c .nils))]) (.seq [1,0] (.seq [19,1,0] (.region [on 0 12 0,oF 1 13 E2 [(.t 12)],oa 2 14 (.un .not (.t 13)),om 3 15 14,⟨4,some 16,.a true (.mv (.t 1)) none,(some (15,false)),[]⟩,⟨5,some 17,.call false GR.S GR.P GR.D [(.t 16)],(some (15,false)),[]⟩,og 6 18 (.un .not (.t 17)) 15 false,oa 7 19 (.pick (.t 15) AR (.t 18))]) (.cond (.t 19) (.seq [4] (.region [oa 0 4 (.mv (.c .nils))]) .ret) .skip)) (.seq [5,1] (.region [on 0 20 0,oF 1 21 CN [(.t 20)],oa 2 5 (.allocB 0 [Ab,.nils]),os 3 (.storeB 0 2 (.t 5) (.t 21))]) (.seq [6,5,1] (.region [oa 0 6 (.mv (.c .nils))]) (.seq [7,6,5,1] (.region [⟨0,some 7,.aw [(0,2)] false (.mv (.c .nils)) none,none,[]⟩]) (.seq [6] (.seq [24,23,22,7,6,5] (.region [on 0 22 1,oa 1 23 (.len (.t 22)),oi 2 24 0]) (.block 0 (.loop [5,6,7,22,23,24] 1 (.seq [25,24,23,22,7,6,5] (.region [oa 0 25 (.bin .lss (.t 24) (.t 23))]) (.seq [24,23,22,7,6,5] (.cond (.t 25) .skip (.exit 0)) (.seq [24,23,22,7,6,5] (.block 1 (.seq [24,23,22,9,7,6,5] (.region [oa 0 26 (.indexA 3 (.t 22) (.t 24)),ob 1 27 (.loadH (some 3) (.t 26)),oa 2 9 (.allocB 1 [Ab,Ab,Ab]),os 3 (.storeB 1 3 (.t 9) (.t 27))]) (.seq [24,23,22,10,9,7,6,5] (.region [oa 0 28 (.fieldA 1 (.t 9)),ob 1 29 (.loadB 1 none (.t 28)),oa 2 30 (.fieldA 2 (.t 9)),ob 3 31 (.loadB 1 none (.t 30)),oa 4 32 (.build [Ab,Ab] [(0,1,(.t 29)),(1,1,(.t 31))]),oa 5 10 (.allocB 2 [Ab,Ab]),os 6 (.storeB 2 2 (.t 10) (.t 32))]) (.seq [24,23,22,7,6,5] (.seq [34,24,23,22,10,7,6,5] (.region [oa 0 33 (.fieldA 0 (.t 9)),oa 1 34 (.loadB 1 none (.t 33))]) (.block 2 (.seq [35,34,24,23,22,10,7,6,5] (.region [oa 0 36 (.bin .eql (.t 34) AE),om 1 35 36]) (.cond (.t 35) (.regionU [om 0 37 6,oa 1 38 (.loadB 0 (some 2) (.t 5)),on 2 39 7,ob 4 41 (.loadB 2 (some 2) (.t 10)),⟨5,some 42,.a false (.litSlice 2 1 [Ab,Ab] [(0,2,(.t 41))]) (some (.cons (.int .i64) (.one (.int .i64)))),none,[4]⟩,xA 3 40 (.appN 2 (.c .nils) (.t 39)) [2],xA 6 43 (.app 2 (.t 40) (.t 42)) [2,3,4,5],xF 7 44 Ic [(.t 38),(.t 43)] [1,2,3,4,5,6],⟨8,some 45,.a false (.litSlice 2 1 [Ab,.nils] [(0,2,(.t 44))]) (some (.cons (.int .i64) (.one (.sl (.one (.int .i64)))))),none,[1,2,3,4,5,6,7]⟩,xA 9 46 (.app 2 (.t 37) (.t 45)) (rg 9),xA 10 6 (.mv (.t 46)) (rg 10)]) (.seq [47,34,24,23,22,10,7,6,5] (.region [oa 0 48 (.bin .eql (.t 34) Au),om 1 47 48]) (.cond (.t 47) (.region [om 0 49 7,ob 1 50 (.loadB 2 (some 2) (.t 10)),⟨2,some 51,.a false (.litSlice 2 1 [Ab,Ab] [(0,2,(.t 50))]) (some (.cons (.int .i64) (.one (.int .i64)))),none,[]⟩,⟨3,some 52,.aw [(0,2)] false (.app 2 (.t 49) (.t 51)) none,none,[]⟩,⟨4,some 7,.aw [(0,2)] false (.mv (.t 52)) none,none,[]⟩]) (.seq [53,24,23,22,10,7,6,5] (.region [oa 0 54 (.bin .eql (.t 34) (.c (.int .i64 2))),om 1 53 54]) (.cond (.t 53) (.seq [24,23,22,11,7,6,5] (.region [on 0 55 7,oa 1 56 (.loadB 2 (some 2) (.t 10)),oF 2 57 Is [(.t 55),(.t 56)],om 3 11 57]) (.region [on 0 58 7,om 1 59 11,xA 2 60 (.slice 2 (.t 58) none (some (.t 59))) (rg 2),on 3 61 7,om 4 62 11,xA 5 63 (.bin .add (.t 62) Au) [4],xA 6 64 (.slice 2 (.t 61) (some (.t 63)) none) [3,4,5],⟨7,some 65,.aw [(0,2)] false (.app 2 (.t 60) (.t 64)) none,none,[0,1,2,3,4,5,6]⟩,⟨8,some 7,.aw [(0,2)] false (.mv (.t 65)) none,none,[0,1,2,3,4,5,6,7]⟩])) .skip)))))))) (.region [om 0 66 6,oa 1 67 (.loadB 0 (some 2) (.t 5)),on 2 68 7,oF 3 69 Ic [(.t 67),(.t 68)],⟨4,some 70,.a false (.litSlice 2 1 [Ab,.nils] [(0,2,(.t 69))]) (some (.cons (.int .i64) (.one (.sl (.one (.int .i64)))))),none,[]⟩,oa 5 71 (.app 2 (.t 66) (.t 70)),om 6 6 71]))))) (.region [oa 0 72 (.bin .add (.t 24) Au),om 1 24 72]))))))) (.seq [4] (.region [om 0 73 6,om 1 4 73]) .ret)))))))
def J0:Fn:=⟨⟨2,74,3,false,[.tmp 4],pe⟩,[.one .frz (.sl Bj),.one .frz (.sl BD)],.one (.one .own (.sl (.cons (.int .i64) (.one (.sl (.one (.int .i64)))))))⟩
theorem pj:J0.A:=AV ⟨UQ,fI,Lq,eY,gh,eY,trivial⟩
def N7:JJ->List DY:=J0.V
def N1:JJ->Prop:=J0.O
theorem pf:J0.B:=AX ⟨UY,fJ,Ln,eS,fX,eS,trivial⟩ (by kernel_rfl) (λ x=>by kernel_rfl)
end
section
set_option maxRecDepth 100000
def TO(x:F8)(x0:A6):Bool:=(iLt x0.1 (lLen x.2))
def TP(x:F8)(x0:A6):A6:=((iAdd .i64 x0.1 1),(iOr .i64 x0.2 (lGet x.2 (iNat x0.1) (0,0,0,0,0)).2.2.2.1))
def Od(x0:Eh):Bool:=(iLe x0.2 56)
def Li(x:F8)(x1:Mr):Bool:=(iLt x1.2 (lLen x.2))
def Lf(x:F8)(x0:Eh)(x1:Mr):Mr:=((bOr x1.1 (iEq (lGet x.2 (iNat x1.2) (0,0,0,0,0)).2.2.1 x0.2)),(iAdd .i64 x1.2 1))
def Jd(x:F8)(x1:Mr):Bool:=(iLt x1.2 (lLen (AY x.1).2))
def Jc(x:F8)(x0:Eh)(x1:Mr):Mr:=((bOr x1.1 (iEq (lGet (AY x.1).2 (iNat x1.2) 0) x0.2)),(iAdd .i64 x1.2 1))
def Qv(x:F8)(x0:Eh):Eh:=((bSel (Am (Li x) (Lf x x0) ((Am (Jd x) (Jc x x0) (false,0)).1,0)).1 (lApp x0.1 [x0.2]) x0.1),(iAdd .i64 x0.2 1))
def Yu(x:F8)(x0:A6):Prop:=(((iLt x0.1 (lLen x.2))=true->((((0:Int)<=x0.1)/\(x0.1<(((List.length x.2):Int))))/\((iNat x0.1)<(List.length x.2))))/\((iLt x0.1 (lLen x.2))=false->True))
def TU(x:F8)(x1:Mr):Prop:=(((iLt x1.2 (lLen (AY x.1).2))=true->((x1.1=true->True)/\(x1.1=false->((((0:Int)<=x1.2)/\(x1.2<(((List.length (AY x.1).2):Int))))/\((iNat x1.2)<(List.length (AY x.1).2))))))/\((iLt x1.2 (lLen (AY x.1).2))=false->True))
def TR(x:F8)(x1:Mr):Prop:=(((iLt x1.2 (lLen x.2))=true->((x1.1=true->True)/\(x1.1=false->((((0:Int)<=x1.2)/\(x1.2<(((List.length x.2):Int))))/\((iNat x1.2)<(List.length x.2))))))/\((iLt x1.2 (lLen x.2))=false->True))
def eN(x:F8)(x0:Eh):Prop:=(((iLe x0.2 56)=true->((LoopOk (Jd x) (Jc x x0) (TU x) (false,0))/\((LoopOk (Li x) (Lf x x0) (TR x) ((Am (Jd x) (Jc x x0) (false,0)).1,0))/\(((Am (Li x) (Lf x x0) ((Am (Jd x) (Jc x x0) (false,0)).1,0)).1=true->(Av (((List.length x0.1)+(List.length [x0.2]))*1)))/\((Am (Li x) (Lf x x0) ((Am (Jd x) (Jc x x0) (false,0)).1,0)).1=false->True)))))/\((iLe x0.2 56)=false->True))
theorem qV (x):Fo x=((Am (TO x) (TP x) (0,(AY x.1).1)).2,(Am Od (Qv x) ([],1)).1):=(Ig.v x).trans (by kernel_rfl)
theorem rp (x):Oj x=((Lm x.1)/\((LoopOk (TO x) (TP x) (Yu x) (0,(AY x.1).1))/\(LoopOk Od (Qv x) (eN x) ([],1)))):=(Ig.o x).trans (by kernel_rfl)
def N0(x:JJ)(x0:Fb×He):Bool:=(iLt x0.2.2 (lLen x.2))
def Tz(x:JJ)(x0:Fb×He):(Fb×He):=((bSel (iNe (lGet x.2 (iNat x0.2.2) (0,0,0)).1 1) (lApp (bSel (iNe (lGet x.2 (iNat x0.2.2) (0,0,0)).1 2) (lApp x0.1 [(Fo (x.1,(lApp x0.2.1 [(0,(A3 (lGet x.2 (iNat x0.2.2) (0,0,0))))])))]) x0.1) [(Fo (x.1,(Dj ((bSel (iNe (lGet x.2 (iNat x0.2.2) (0,0,0)).1 2) (lApp x0.2.1 [(0,(A3 (lGet x.2 (iNat x0.2.2) (0,0,0))))]) x0.2.1),(B7 ((bSel (iNe (lGet x.2 (iNat x0.2.2) (0,0,0)).1 2) (lApp x0.2.1 [(0,(A3 (lGet x.2 (iNat x0.2.2) (0,0,0))))]) x0.2.1),(lGet x.2 (iNat x0.2.2) (0,0,0))))))))]) (bSel (iNe (lGet x.2 (iNat x0.2.2) (0,0,0)).1 2) (lApp x0.1 [(Fo (x.1,(lApp x0.2.1 [(0,(A3 (lGet x.2 (iNat x0.2.2) (0,0,0))))])))]) x0.1)),(bSel (iNe (lGet x.2 (iNat x0.2.2) (0,0,0)).1 1) (Dj ((bSel (iNe (lGet x.2 (iNat x0.2.2) (0,0,0)).1 2) (lApp x0.2.1 [(0,(A3 (lGet x.2 (iNat x0.2.2) (0,0,0))))]) x0.2.1),(B7 ((bSel (iNe (lGet x.2 (iNat x0.2.2) (0,0,0)).1 2) (lApp x0.2.1 [(0,(A3 (lGet x.2 (iNat x0.2.2) (0,0,0))))]) x0.2.1),(lGet x.2 (iNat x0.2.2) (0,0,0)))))) (bSel (iNe (lGet x.2 (iNat x0.2.2) (0,0,0)).1 2) (lApp x0.2.1 [(0,(A3 (lGet x.2 (iNat x0.2.2) (0,0,0))))]) x0.2.1)),(iAdd .i64 x0.2.2 1))
def TB(x:JJ)(x0:Fb×He):Prop:=(((iLt x0.2.2 (lLen x.2))=true->((((0:Int)<=x0.2.2)/\(x0.2.2<(((List.length x.2):Int))))/\(((iNat x0.2.2)<(List.length x.2))/\((((iNe (lGet x.2 (iNat x0.2.2) (0,0,0)).1 2)=true->((QE (lGet x.2 (iNat x0.2.2) (0,0,0)))/\((Av (((List.length x0.2.1)+(List.length [(0,(A3 (lGet x.2 (iNat x0.2.2) (0,0,0))))]))*5))/\((Oj (x.1,(lApp x0.2.1 [(0,(A3 (lGet x.2 (iNat x0.2.2) (0,0,0))))])))/\(Av (((List.length x0.1)+(List.length [(Fo (x.1,(lApp x0.2.1 [(0,(A3 (lGet x.2 (iNat x0.2.2) (0,0,0))))])))]))*2))))))/\((iNe (lGet x.2 (iNat x0.2.2) (0,0,0)).1 2)=false->True))/\(((iNe (lGet x.2 (iNat x0.2.2) (0,0,0)).1 1)=true->((ML ((bSel (iNe (lGet x.2 (iNat x0.2.2) (0,0,0)).1 2) (lApp x0.2.1 [(0,(A3 (lGet x.2 (iNat x0.2.2) (0,0,0))))]) x0.2.1),(lGet x.2 (iNat x0.2.2) (0,0,0))))/\((ME ((bSel (iNe (lGet x.2 (iNat x0.2.2) (0,0,0)).1 2) (lApp x0.2.1 [(0,(A3 (lGet x.2 (iNat x0.2.2) (0,0,0))))]) x0.2.1),(B7 ((bSel (iNe (lGet x.2 (iNat x0.2.2) (0,0,0)).1 2) (lApp x0.2.1 [(0,(A3 (lGet x.2 (iNat x0.2.2) (0,0,0))))]) x0.2.1),(lGet x.2 (iNat x0.2.2) (0,0,0))))))/\((Oj (x.1,(Dj ((bSel (iNe (lGet x.2 (iNat x0.2.2) (0,0,0)).1 2) (lApp x0.2.1 [(0,(A3 (lGet x.2 (iNat x0.2.2) (0,0,0))))]) x0.2.1),(B7 ((bSel (iNe (lGet x.2 (iNat x0.2.2) (0,0,0)).1 2) (lApp x0.2.1 [(0,(A3 (lGet x.2 (iNat x0.2.2) (0,0,0))))]) x0.2.1),(lGet x.2 (iNat x0.2.2) (0,0,0))))))))/\(Av (((List.length (bSel (iNe (lGet x.2 (iNat x0.2.2) (0,0,0)).1 2) (lApp x0.1 [(Fo (x.1,(lApp x0.2.1 [(0,(A3 (lGet x.2 (iNat x0.2.2) (0,0,0))))])))]) x0.1))+(List.length [(Fo (x.1,(Dj ((bSel (iNe (lGet x.2 (iNat x0.2.2) (0,0,0)).1 2) (lApp x0.2.1 [(0,(A3 (lGet x.2 (iNat x0.2.2) (0,0,0))))]) x0.2.1),(B7 ((bSel (iNe (lGet x.2 (iNat x0.2.2) (0,0,0)).1 2) (lApp x0.2.1 [(0,(A3 (lGet x.2 (iNat x0.2.2) (0,0,0))))]) x0.2.1),(lGet x.2 (iNat x0.2.2) (0,0,0))))))))]))*2))))))/\((iNe (lGet x.2 (iNat x0.2.2) (0,0,0)).1 1)=false->True))))))/\((iLt x0.2.2 (lLen x.2))=false->True))
theorem ph (x):Fm x=(bSel (bOr (bNot (EF x.1)) (bNot (Gi x.2))) [] (Am (N0 x) (Tz x) ([],[],0)).1):=(JZ.v x).trans (by kernel_rfl)
theorem o9 (x):N2 x=(((MN x.1)/\(((bNot (EF x.1))=true->True)/\((bNot (EF x.1))=false->(Ow x.2))))/\(((bOr (bNot (EF x.1)) (bNot (Gi x.2)))=true->True)/\((bOr (bNot (EF x.1)) (bNot (Gi x.2)))=false->(LoopOk (N0 x) (Tz x) (TB x) ([],[],0))))):=(JZ.o x).trans (by kernel_rfl)
def Mz(x:SU)(x0:CB):Bool:=(iLt x0.2.1 (lLen x.2))
def N4(x:SU)(x0:CB):CB:=((lApp x0.1 [(lGet x.2 (iNat x0.2.1) (0,0)).1]),(iAdd .i64 x0.2.1 1),(iOr .i64 x0.2.2 (lGet x.2 (iNat x0.2.1) (0,0)).2))
def TI(x:SU)(x0:CB):Prop:=(((iLt x0.2.1 (lLen x.2))=true->((((0:Int)<=x0.2.1)/\(x0.2.1<(((List.length x.2):Int))))/\(((iNat x0.2.1)<(List.length x.2))/\(Av (((List.length x0.1)+(List.length [(lGet x.2 (iNat x0.2.1) (0,0)).1]))*1)))))/\((iLt x0.2.1 (lLen x.2))=false->True))
theorem qz (x):Ka x=((Am (Mz x) (N4 x) ((C7 x.1.2),0,x.1.1)).2.2,(LA (Am (Mz x) (N4 x) ((C7 x.1.2),0,x.1.1)).1)):=(Ic.v x).trans (by kernel_rfl)
theorem qE (x):Og x=((QN x.1.2)/\((LoopOk (Mz x) (N4 x) (TI x) ((C7 x.1.2),0,x.1.1))/\(QQ (Am (Mz x) (N4 x) ((C7 x.1.2),0,x.1.1)).1))):=(Ic.o x).trans (by kernel_rfl)
def TA(x:JJ)(x0:Fb×IQ):Bool:=(iLt x0.2.2 (lLen x.2))
def TC(x:JJ)(x0:Fb×IQ):(Fb×IQ):=((lApp (bSel (iEq (lGet x.2 (iNat x0.2.2) (0,0,0)).1 0) (lApp x0.1 [(Ka ((BL x.1),(lApp x0.2.1 [(lGet x.2 (iNat x0.2.2) (0,0,0)).2])))]) x0.1) [(Ka ((BL x.1),(bSel (iEq (lGet x.2 (iNat x0.2.2) (0,0,0)).1 0) x0.2.1 (bSel (iEq (lGet x.2 (iNat x0.2.2) (0,0,0)).1 1) (lApp x0.2.1 [(lGet x.2 (iNat x0.2.2) (0,0,0)).2]) (bSel (iEq (lGet x.2 (iNat x0.2.2) (0,0,0)).1 2) (lApp (lTake x0.2.1 (lN (lSub x0.2.1 0 (iNat (Bh (x0.2.1,(lGet x.2 (iNat x0.2.2) (0,0,0)).2)))))) (lSub x0.2.1 (iNat (iAdd .i64 (Bh (x0.2.1,(lGet x.2 (iNat x0.2.2) (0,0,0)).2)) 1)) (lN x0.2.1))) x0.2.1)))))]),(bSel (iEq (lGet x.2 (iNat x0.2.2) (0,0,0)).1 0) x0.2.1 (bSel (iEq (lGet x.2 (iNat x0.2.2) (0,0,0)).1 1) (lApp x0.2.1 [(lGet x.2 (iNat x0.2.2) (0,0,0)).2]) (bSel (iEq (lGet x.2 (iNat x0.2.2) (0,0,0)).1 2) (lApp (lTake x0.2.1 (lN (lSub x0.2.1 0 (iNat (Bh (x0.2.1,(lGet x.2 (iNat x0.2.2) (0,0,0)).2)))))) (lSub x0.2.1 (iNat (iAdd .i64 (Bh (x0.2.1,(lGet x.2 (iNat x0.2.2) (0,0,0)).2)) 1)) (lN x0.2.1))) x0.2.1))),(iAdd .i64 x0.2.2 1))
def Tx(x:JJ)(x0:Fb×IQ):Prop:=(((iLt x0.2.2 (lLen x.2))=true->((((0:Int)<=x0.2.2)/\(x0.2.2<(((List.length x.2):Int))))/\(((iNat x0.2.2)<(List.length x.2))/\((((iEq (lGet x.2 (iNat x0.2.2) (0,0,0)).1 0)=true->((Av ((List.length x0.2.1)*2))/\((Av (((List.length x0.2.1)+(List.length [(lGet x.2 (iNat x0.2.2) (0,0,0)).2]))*2))/\((Og ((BL x.1),(lApp x0.2.1 [(lGet x.2 (iNat x0.2.2) (0,0,0)).2])))/\(Av (((List.length x0.1)+(List.length [(Ka ((BL x.1),(lApp x0.2.1 [(lGet x.2 (iNat x0.2.2) (0,0,0)).2])))]))*2))))))/\((iEq (lGet x.2 (iNat x0.2.2) (0,0,0)).1 0)=false->(((iEq (lGet x.2 (iNat x0.2.2) (0,0,0)).1 1)=true->(Av (((List.length x0.2.1)+(List.length [(lGet x.2 (iNat x0.2.2) (0,0,0)).2]))*2)))/\((iEq (lGet x.2 (iNat x0.2.2) (0,0,0)).1 1)=false->(((iEq (lGet x.2 (iNat x0.2.2) (0,0,0)).1 2)=true->((OJ (x0.2.1,(lGet x.2 (iNat x0.2.2) (0,0,0)).2))/\((((0:Int)<=(Bh (x0.2.1,(lGet x.2 (iNat x0.2.2) (0,0,0)).2)))/\((0<=(iNat (Bh (x0.2.1,(lGet x.2 (iNat x0.2.2) (0,0,0)).2))))/\(((iNat (Bh (x0.2.1,(lGet x.2 (iNat x0.2.2) (0,0,0)).2)))<=(List.length x0.2.1))/\(0<(List.length x0.2.1)))))/\((((0:Int)<=(iAdd .i64 (Bh (x0.2.1,(lGet x.2 (iNat x0.2.2) (0,0,0)).2)) 1))/\(((iNat (iAdd .i64 (Bh (x0.2.1,(lGet x.2 (iNat x0.2.2) (0,0,0)).2)) 1))<=(lN x0.2.1))/\(((lN x0.2.1)<=(List.length x0.2.1))/\(0<(List.length x0.2.1)))))/\((0<(List.length x0.2.1))/\(((List.length (lSub x0.2.1 0 (iNat (Bh (x0.2.1,(lGet x.2 (iNat x0.2.2) (0,0,0)).2)))))<=(List.length x0.2.1))/\(Av (((List.length (lSub x0.2.1 0 (iNat (Bh (x0.2.1,(lGet x.2 (iNat x0.2.2) (0,0,0)).2)))))+(List.length (lSub x0.2.1 (iNat (iAdd .i64 (Bh (x0.2.1,(lGet x.2 (iNat x0.2.2) (0,0,0)).2)) 1)) (lN x0.2.1))))*2))))))))/\((iEq (lGet x.2 (iNat x0.2.2) (0,0,0)).1 2)=false->True))))))/\((Og ((BL x.1),(bSel (iEq (lGet x.2 (iNat x0.2.2) (0,0,0)).1 0) x0.2.1 (bSel (iEq (lGet x.2 (iNat x0.2.2) (0,0,0)).1 1) (lApp x0.2.1 [(lGet x.2 (iNat x0.2.2) (0,0,0)).2]) (bSel (iEq (lGet x.2 (iNat x0.2.2) (0,0,0)).1 2) (lApp (lTake x0.2.1 (lN (lSub x0.2.1 0 (iNat (Bh (x0.2.1,(lGet x.2 (iNat x0.2.2) (0,0,0)).2)))))) (lSub x0.2.1 (iNat (iAdd .i64 (Bh (x0.2.1,(lGet x.2 (iNat x0.2.2) (0,0,0)).2)) 1)) (lN x0.2.1))) x0.2.1)))))/\(Av (((List.length (bSel (iEq (lGet x.2 (iNat x0.2.2) (0,0,0)).1 0) (lApp x0.1 [(Ka ((BL x.1),(lApp x0.2.1 [(lGet x.2 (iNat x0.2.2) (0,0,0)).2])))]) x0.1))+(List.length [(Ka ((BL x.1),(bSel (iEq (lGet x.2 (iNat x0.2.2) (0,0,0)).1 0) x0.2.1 (bSel (iEq (lGet x.2 (iNat x0.2.2) (0,0,0)).1 1) (lApp x0.2.1 [(lGet x.2 (iNat x0.2.2) (0,0,0)).2]) (bSel (iEq (lGet x.2 (iNat x0.2.2) (0,0,0)).1 2) (lApp (lTake x0.2.1 (lN (lSub x0.2.1 0 (iNat (Bh (x0.2.1,(lGet x.2 (iNat x0.2.2) (0,0,0)).2)))))) (lSub x0.2.1 (iNat (iAdd .i64 (Bh (x0.2.1,(lGet x.2 (iNat x0.2.2) (0,0,0)).2)) 1)) (lN x0.2.1))) x0.2.1)))))]))*2)))))))/\((iLt x0.2.2 (lLen x.2))=false->True))
theorem o7 (x):N7 x=(bSel (bOr (bNot (Ct x.1)) (bNot (Io x.2))) [] (Am (TA x) (TC x) ([],[],0)).1):=(J0.v x).trans (by kernel_rfl)
theorem o5 (x):N1 x=(((MM x.1)/\(((bNot (Ct x.1))=true->True)/\((bNot (Ct x.1))=false->(Ox x.2))))/\(((bOr (bNot (Ct x.1)) (bNot (Io x.2)))=true->True)/\((bOr (bNot (Ct x.1)) (bNot (Io x.2)))=false->((GM x.1)/\(LoopOk (TA x) (TC x) (Tx x) ([],[],0)))))):=(J0.o x).trans (by kernel_rfl)
attribute [irreducible] Fo Oj Fm N2 Ka Og N7 N1
end
section
set_option maxRecDepth 8000
def qA:DCode:=(.seq [1] (.region [oa 0 1 (.boxB 0 4 (.t 0)),oa 1 2 (.mv An)]) (.seq [2] (.region [oa 0 3 (.loadB 0 (some 4) (.t 1)),oF 1 4 EY [(.t 3)],om 2 5 4,og 3 6 (.fieldA 0 (.t 1)) 5 true,og 4 7 (.loadB 0 none (.t 6)) 5 true,og 5 8 (.bin .eql (.t 7) (.c (.int .i64 6))) 5 true,og 6 9 (.mv (.t 8)) 5 true,og 7 10 (.fieldA 0 (.t 1)) 9 false,og 8 11 (.loadB 0 none (.t 10)) 9 false,og 9 12 (.bin .eql (.t 11) (.c (.int .i64 7))) 9 false,og 10 13 (.pick (.t 9) AR (.t 12)) 5 true,oa 11 14 (.pick (.t 5) (.t 13) An),om 12 2 14]) .ret))
def H8:Fn:=⟨⟨1,15,1,true,[.tmp 2],qA⟩,[.agg [Aw,Aw,Aw,Aw]],.one (.one .own (.bool))⟩
theorem eW:H8.A:=AV ⟨T9,trivial⟩
def QF:CH->Bool:=H8.V
def TY:CH->Prop:=H8.O
theorem eT:H8.B:=AX ⟨Um,trivial⟩ (by kernel_rfl) (λ x=>by kernel_rfl)
def wI:DCode:=(.seq [2,1] (.region [oa 0 1 (.boxB 0 4 (.t 0)),oa 1 2 (.allocB 1 [Ab,Ab,Ab,Ab])]) (.seq [2,1] (.seq [5,2,1] (.region [oa 0 3 (.loadB 0 (some 4) (.t 1)),oF 1 4 H8 [(.t 3)],oa 2 5 (.un .not (.t 4))]) (.cond (.t 5) (.seq [2] (.region [ob 0 6 (.loadB 0 (some 4) (.t 1)),os 1 (.storeB 1 4 (.t 2) (.t 6))]) .ret) .skip)) (.seq [2] (.region [oa 0 7 (.fieldA 1 (.t 1)),ob 1 8 (.loadB 0 none (.t 7)),oa 2 9 (.build [Ab,Ab,Ab,Ab] [(0,1,(.c (.int .i64 2))),(1,1,(.t 8))]),os 3 (.storeB 1 4 (.t 2) (.t 9))]) .ret)))
def Kx:Fn:=⟨⟨1,10,2,true,[.cell 2 (some 4)],wI⟩,[.agg [Aw,Aw,Aw,Aw]],.one (.agg [Aq,Aq,Aq,Aq])⟩
theorem wK:Kx.A:=AV ⟨eW,trivial⟩
def VL:CH->Int×Int×Int×Int:=Kx.V
def VE:CH->Prop:=Kx.O
theorem vH:Kx.B:=AX ⟨eT,trivial⟩ (by kernel_rfl) (λ x=>by kernel_rfl)
def uZ:DCode:=(.seq [2,1] (.region [oa 0 1 (.boxB 0 4 (.t 0)),oa 1 2 (.allocB 1 [Ab,Ab,Ab,Ab])]) (.seq [2,1] (.block 0 (.seq [3,2,1] (.region [oa 0 4 (.loadB 0 (some 4) (.t 1)),oF 1 5 H8 [(.t 4)],oa 2 6 (.un .not (.t 5)),om 3 3 6]) (.cond (.t 3) (.seq [2] (.region [ob 0 7 (.loadB 0 (some 4) (.t 1)),os 1 (.storeB 1 4 (.t 2) (.t 7))]) .ret) (.seq [8,2,1] (.region [oa 0 9 (.fieldA 0 (.t 1)),oa 1 10 (.loadB 0 none (.t 9)),oa 2 11 (.bin .eql (.t 10) (.c (.int .i64 6))),om 3 8 11]) (.cond (.t 8) (.seq [2] (.region [oa 0 12 (.fieldA 2 (.t 1)),ob 1 13 (.loadB 0 none (.t 12)),oa 2 14 (.build [Ab,Ab,Ab,Ab] [(0,1,(.c (.int .i64 2))),(2,1,(.t 13))]),os 3 (.storeB 1 4 (.t 2) (.t 14))]) .ret) .skip))))) (.seq [2] (.region [oa 0 15 (.fieldA 3 (.t 1)),ob 1 16 (.loadB 0 none (.t 15)),oa 2 17 (.build [Ab,Ab,Ab,Ab] [(0,1,(.c (.int .i64 3))),(3,1,(.t 16))]),os 3 (.storeB 1 4 (.t 2) (.t 17))]) .ret)))
def Ku:Fn:=⟨⟨1,18,2,true,[.cell 2 (some 4)],uZ⟩,[.agg [Aw,Aw,Aw,Aw]],.one (.agg [Aq,Aq,Aq,Aq])⟩
theorem tV:Ku.A:=AV ⟨eW,trivial⟩
def Vn:CH->Int×Int×Int×Int:=Ku.V
def U7:CH->Prop:=Ku.O
theorem tL:Ku.B:=AX ⟨eT,trivial⟩ (by kernel_rfl) (λ x=>by kernel_rfl)
def uw:DCode:=(.seq [2,1] (.region [oa 0 1 (.boxB 0 4 (.t 0)),oa 1 2 (.allocB 1 [Ab,Ab,Ab,Ab])]) (.seq [2,1] (.seq [5,2,1] (.region [oa 0 3 (.loadB 0 (some 4) (.t 1)),oF 1 4 FR [(.t 3)],oa 2 5 (.un .not (.t 4))]) (.cond (.t 5) (.seq [2] (.region [ob 0 6 (.loadB 0 (some 4) (.t 1)),os 1 (.storeB 1 4 (.t 2) (.t 6))]) .ret) .skip)) (.seq [2,1] (.seq [9,2,1] (.region [oa 0 7 (.fieldA 0 (.t 1)),oa 1 8 (.loadB 0 none (.t 7)),oa 2 9 (.bin .eql (.t 8) (.c (.int .i64 6)))]) (.cond (.t 9) (.seq [2] (.region [oa 0 10 (.fieldA 2 (.t 1)),ob 1 11 (.loadB 0 none (.t 10)),oa 2 12 (.build [Ab,Ab,Ab,Ab] [(0,1,(.c (.int .i64 2))),(2,1,(.t 11))]),os 3 (.storeB 1 4 (.t 2) (.t 12))]) .ret) .skip)) (.seq [2] (.region [oa 0 13 (.fieldA 3 (.t 1)),ob 1 14 (.loadB 0 none (.t 13)),oa 2 15 (.build [Ab,Ab,Ab,Ab] [(0,1,(.c (.int .i64 3))),(3,1,(.t 14))]),os 3 (.storeB 1 4 (.t 2) (.t 15))]) .ret))))
def Kv:Fn:=⟨⟨1,16,2,true,[.cell 2 (some 4)],uw⟩,[.agg [Aw,Aw,Aw,Aw]],.one (.agg [Aq,Aq,Aq,Aq])⟩
theorem uO:Kv.A:=AV ⟨YG,trivial⟩
def DF:CH->Int×Int×Int×Int:=Kv.V
def U4:CH->Prop:=Kv.O
theorem tP:Kv.B:=AX ⟨YI,trivial⟩ (by kernel_rfl) (λ x=>by kernel_rfl)
def wv:DCode:=(.seq [2,1] (.region [oa 0 1 (.boxB 0 4 (.t 0)),oa 1 2 (.allocB 1 [Ab,Ab,Ab,Ab])]) (.seq [2,1] (.seq [5,2,1] (.region [oa 0 3 (.loadB 0 (some 4) (.t 1)),oF 1 4 FR [(.t 3)],oa 2 5 (.un .not (.t 4))]) (.cond (.t 5) (.seq [2] (.region [ob 0 6 (.loadB 0 (some 4) (.t 1)),os 1 (.storeB 1 4 (.t 2) (.t 6))]) .ret) .skip)) (.seq [2] (.region [oa 0 7 (.fieldA 1 (.t 1)),ob 1 8 (.loadB 0 none (.t 7)),oa 2 9 (.build [Ab,Ab,Ab,Ab] [(0,1,(.c (.int .i64 2))),(1,1,(.t 8))]),os 3 (.storeB 1 4 (.t 2) (.t 9))]) .ret)))
def KD:Fn:=⟨⟨1,10,2,true,[.cell 2 (some 4)],wv⟩,[.agg [Aw,Aw,Aw,Aw]],.one (.agg [Aq,Aq,Aq,Aq])⟩
theorem vS:KD.A:=AV ⟨YG,trivial⟩
def DH:CH->Int×Int×Int×Int:=KD.V
def Vl:CH->Prop:=KD.O
theorem wN:KD.B:=AX ⟨YI,trivial⟩ (by kernel_rfl) (λ x=>by kernel_rfl)
end
section
set_option maxRecDepth 100000
theorem qn (x):QF x=(bAnd (Bt x) (bOr (iEq x.1 6) (iEq x.1 7))):=(H8.v x).trans (by kernel_rfl)
theorem qG (x):TY x=(MI x):=(H8.o x).trans (by kernel_rfl)
theorem vO (x):VL x=(bSel (bNot (QF x)) x (2,x.2.1,0,0)):=(Kx.v x).trans (by kernel_rfl)
theorem vX (x):VE x=(TY x):=(Kx.o x).trans (by kernel_rfl)
theorem vc (x):Vn x=(bSel (bNot (QF x)) x (bSel (iEq x.1 6) (2,0,x.2.2.1,0) (3,0,0,x.2.2.2))):=(Ku.v x).trans (by kernel_rfl)
theorem uR (x):U7 x=(TY x):=(Ku.o x).trans (by kernel_rfl)
theorem gz (x):DF x=(bSel (bNot (Kd x)) x (bSel (iEq x.1 6) (2,0,x.2.2.1,0) (3,0,0,x.2.2.2))):=(Kv.v x).trans (by kernel_rfl)
theorem uj (x):U4 x=(Oh x):=(Kv.o x).trans (by kernel_rfl)
theorem gX (x):DH x=(bSel (bNot (Kd x)) x (2,x.2.1,0,0)):=(KD.v x).trans (by kernel_rfl)
theorem wq (x):Vl x=(Oh x):=(KD.o x).trans (by kernel_rfl)
attribute [irreducible] QF TY VL VE Vn U7 DF U4 DH Vl
end
section
set_option maxRecDepth 8000
def vI:DCode:=(.seq [0] (.region [oa 0 2 (.mv (.c .undef))]) (.seq [3,0] (.region [on 0 5 0,oa 1 6 (.len (.t 5)),oa 2 7 (.bin .add (.c (.int .i64 10729)) (.t 6)),om 3 3 7]) (.seq [3,0] (.seq [4,3,0] (.region [oi 0 4 0]) (.block 0 (.loop [0,3,4] 1 (.seq [4,3,0] (.seq [15,4,3,0] (.region [om 0 8 4,on 1 9 0,oa 2 10 (.len (.t 9)),oa 3 11 (.bin .lss (.t 8) (.t 10)),om 4 12 11,og 5 13 (.mv (.t 4)) 12 true,og 6 14 (.bin .lss (.t 13) (.c (.int .i64 4000))) 12 true,oa 7 15 (.pick (.t 12) (.t 14) An)]) (.cond (.t 15) .skip (.exit 0))) (.seq [4,3,0] (.block 1 (.region [om 0 18 3,oa 1 19 (.bin .mul (.t 18) (.c (.int .i64 131))),on 2 20 0,om 3 21 4,oa 4 22 (.indexA 1 (.t 20) (.t 21)),oa 5 23 (.loadH none (.t 22)),oa 6 24 (.conv .i64 (.t 23)),oa 7 25 (.bin .add (.t 19) (.t 24)),oa 8 26 (.bin .add (.t 25) (.c (.int .i64 7))),oa 9 27 (.bin .and (.t 26) (.c (.int .i64 1073741823))),om 10 3 27])) (.region [om 0 16 4,oa 1 17 (.bin .add (.t 16) Au),om 2 4 17])))))) (.seq [2] (.region [om 0 28 0,om 1 29 3,oa 2 30 (.build [.nils,Ab,Ab] [(0,1,(.t 28)),(2,1,(.t 29))]),oa 3 31 (.boxH 3 (.t 30)),om 4 2 31]) .ret))))
def LG:DFun:=⟨1,32,0,false,[.tmp 2],vI⟩
@[irreducible] def O3:Be:=EK LG.er.er
@[irreducible] def Rs:Cb:=Da LG.er
theorem wD:D4 O3 Rs:=by unfold O3 Rs;exact FZ (f:=LG.er) trivial
def VK:List HT:=[.one .frz (.sl (.one (.int .u8)))]
def VH:List (Ql×CT):=[(.frz,.sl (.one (.int .u8))),Aq,Aq]
@[irreducible] def KA(x:Bb):List (Int)×Int×Int:=(shut λ x=>Ta LG VK VH x).1 x
@[irreducible] def OY(x:Bb):Prop:=(shut λ x=>SZ LG VK VH x).1 x
def iC:CL:=W4 VK VH OY KA
theorem vA:DN Rs iC:=by unfold Rs;exact jm (f:=LG) (hs:=VK) (cs:=VH) trivial (by kernel_rfl) (λ x=>by kernel_rfl) (λ x h=>by unfold OY at h;exact Eq.mp (congrFun (shut _).2 x) h) (λ x=>by unfold KA;exact(congrFun (shut _).2 x).symm)
def tR:DCode:=(.seq [0] (.region [oi 0 2 0]) (.seq [0] (.region [om 0 4 0,om 1 5 0,oa 2 6 (.nilck (.t 5)),oa 3 7 (.fieldA 2 (.t 6)),oa 4 8 (.loadH none (.t 7)),oa 5 9 (.bin .mul (.t 8) (.c (.int .i64 6364136223846793005))),oa 6 10 (.bin .add (.t 9) (.c (.int .i64 1442695040888963407))),oa 7 11 (.nilck (.t 4)),oa 8 12 (.fieldA 2 (.t 11)),os 9 (.storeH 1 (.t 12) (.t 10))]) (.seq [3,0] (.region [om 0 13 0,xA 1 14 (.nilck (.t 13)) (rg 1),xA 2 15 (.fieldA 2 (.t 14)) (rg 2),xA 3 16 (.loadH none (.t 15)) (rg 3),xA 4 17 (.bin .shr (.t 16) (.c (.int .u64 33))) (rg 4),om 5 18 0,xA 6 19 (.nilck (.t 18)) [5],xA 7 20 (.fieldA 2 (.t 19)) [5,6],xA 8 21 (.loadH none (.t 20)) [5,6,7],xA 9 22 (.bin .shr (.t 21) (.c (.int .u64 45))) [5,6,7,8],xA 10 23 (.bin .xor (.t 17) (.t 22)) (rg 10),xA 11 24 (.bin .and (.t 23) (.c (.int .i64 255))) (rg 11),xA 12 3 (.mv (.t 24)) (rg 12)]) (.seq [3] (.seq [34,3,0] (.region [om 0 25 0,xA 1 26 (.nilck (.t 25)) (rg 1),xA 2 27 (.fieldA 1 (.t 26)) (rg 2),xA 3 28 (.loadH none (.t 27)) (rg 3),om 4 29 0,xA 5 30 (.nilck (.t 29)) [4],xA 6 31 (.fieldA 0 (.t 30)) [4,5],xA 7 32 (.loadH none (.t 31)) [4,5,6],xA 8 33 (.len (.t 32)) [4,5,6,7],xA 9 34 (.bin .lss (.t 28) (.t 33)) (rg 9)]) (.cond (.t 34) (.seq [3,0] (.region [om 0 35 3,om 1 36 0,xA 2 37 (.nilck (.t 36)) [1],xA 3 38 (.fieldA 0 (.t 37)) [1,2],xA 4 39 (.loadH none (.t 38)) [1,2,3],om 5 40 0,xA 6 41 (.nilck (.t 40)) [5],xA 7 42 (.fieldA 1 (.t 41)) [5,6],xA 8 43 (.loadH none (.t 42)) [5,6,7],xA 9 44 (.indexA 1 (.t 39) (.t 43)) [1,2,3,4,5,6,7,8],xA 10 45 (.loadH none (.t 44)) [1,2,3,4,5,6,7,8,9],xA 11 46 (.conv .i64 (.t 45)) [1,2,3,4,5,6,7,8,9,10],xA 12 47 (.bin .add (.t 35) (.t 46)) (rg 12),xA 13 48 (.bin .and (.t 47) (.c (.int .i64 255))) (rg 13),xA 14 3 (.mv (.t 48)) (rg 14)]) (.region [om 0 49 0,om 1 50 0,oa 2 51 (.nilck (.t 50)),oa 3 52 (.fieldA 1 (.t 51)),oa 4 53 (.loadH none (.t 52)),oa 5 54 (.bin .add (.t 53) Au),oa 6 55 (.nilck (.t 49)),oa 7 56 (.fieldA 1 (.t 55)),os 8 (.storeH 1 (.t 56) (.t 54))])) .skip)) (.seq [2] (.region [om 0 57 3,om 1 2 57]) .ret)))))
def Ks:DFun:=⟨1,58,0,false,[.tmp 2],tR⟩
@[irreducible] def En:Be:=EK Ks.er.er
@[irreducible] def Fv:Cb:=Da Ks.er
theorem Q4:D4 En Fv:=by unfold En Fv;exact FZ (f:=Ks.er) trivial
def Vp:List HT:=[]
def Vs:List (Ql×CT):=[(.frz,.sl (.one (.int .u8))),Aq,Aq]
def VB:QT:=.one (.one .own (.int .i64))
@[irreducible] def BZ(x:CB):Int×A6:=(shut λ x=>HS Ks Vp Vs VB x).1 x
@[irreducible] def Im(x:CB):Prop:=(shut λ x=>HH Ks Vp Vs VB x).1 x
def OO:CL:=IC Vp Vs VB Im BZ
theorem Q7:DN Fv OO:=by unfold Fv;exact KH (f:=Ks) (hs:=Vp) (cs:=Vs) (q:=VB) trivial (by kernel_rfl) (λ x=>by kernel_rfl) (λ x h=>by unfold Im at h;exact Eq.mp (congrFun (shut _).2 x) h) (λ x=>by unfold BZ;exact(congrFun (shut _).2 x).symm)
def sF:DCode:=(.seq [1,0] (.region [oi 0 4 0]) (.seq [1,0] (.seq [10,1,0] (.region [om 0 9 1,oa 1 10 (.bin .leq (.t 9) AE)]) (.cond (.t 10) (.seq [4] (.region [oi 0 4 0]) .ret) .skip)) (.seq [1,0] (.seq [12,1,0] (.region [om 0 11 1,oa 1 12 (.bin .leq (.t 11) (.c (.int .i64 256)))]) (.cond (.t 12) (.seq [4] (.region [om 0 13 0,op 1 14 En Fv OO [(.t 13)],om 2 15 1,oa 3 16 (.bin .rem (.t 14) (.t 15)),om 4 4 16]) .ret) .skip)) (.seq [5,1,0] (.region [om 0 17 0,op 1 18 En Fv OO [(.t 17)],om 2 5 18]) (.seq [6,5,1,0] (.region [om 0 19 0,op 1 20 En Fv OO [(.t 19)],om 2 6 20]) (.seq [7,6,5,1,0] (.region [om 0 21 0,op 1 22 En Fv OO [(.t 21)],om 2 7 22]) (.seq [8,7,6,5,1] (.region [om 0 23 0,op 1 24 En Fv OO [(.t 23)],om 2 8 24]) (.seq [4] (.region [om 0 25 5,oa 1 26 (.bin .mul (.t 25) (.c (.int .i64 16777216))),om 2 27 6,oa 3 28 (.bin .mul (.t 27) (.c (.int .i64 65536))),oa 4 29 (.bin .add (.t 26) (.t 28)),om 5 30 7,oa 6 31 (.bin .mul (.t 30) (.c (.int .i64 256))),oa 7 32 (.bin .add (.t 29) (.t 31)),om 8 33 8,oa 9 34 (.bin .add (.t 32) (.t 33)),om 10 35 1,oa 11 36 (.bin .rem (.t 34) (.t 35)),om 12 4 36]) .ret))))))))
def Ki:DFun:=⟨2,37,0,false,[.tmp 4],sF⟩
@[irreducible] def Cd:Be:=EK Ki.er.er
@[irreducible] def Dv:Cb:=Da Ki.er
theorem Fq:D4 Cd Dv:=by unfold Cd Dv;exact FZ (f:=Ki.er) ⟨Q4,Q4,Q4,Q4,Q4,trivial⟩
def UI:List HT:=[.one .frz (.int .i64)]
def U3:List (Ql×CT):=[(.frz,.sl (.one (.int .u8))),Aq,Aq]
def UP:QT:=.one (.one .own (.int .i64))
@[irreducible] def As(x:Cw):Int×A6:=(shut λ x=>HS Ki UI U3 UP x).1 x
@[irreducible] def D0(x:Cw):Prop:=(shut λ x=>HH Ki UI U3 UP x).1 x
def E1:CL:=IC UI U3 UP D0 As
theorem Fp:DN Dv E1:=by unfold Dv;exact KH (f:=Ki) (hs:=UI) (cs:=U3) (q:=UP) ⟨Q7,Q7,Q7,Q7,Q7,trivial⟩ (by kernel_rfl) (λ x=>by kernel_rfl) (λ x h=>by unfold D0 at h;exact Eq.mp (congrFun (shut _).2 x) h) (λ x=>by unfold As;exact(congrFun (shut _).2 x).symm)
def uf:DCode:=(.seq [1,0] (.region [oa 0 4 (.mv An)]) (.seq [4] (.region [om 0 5 0,om 1 6 1,op 2 7 Cd Dv E1 [(.t 5),(.t 6)],oa 3 8 (.bin .eql (.t 7) AE),om 4 4 8]) .ret))
def Kl:DFun:=⟨2,9,0,false,[.tmp 4],uf⟩
@[irreducible] def Hp:Be:=EK Kl.er.er
@[irreducible] def Jm:Cb:=Da Kl.er
theorem UL:D4 Hp Jm:=by unfold Hp Jm;exact FZ (f:=Kl.er) ⟨Fq,trivial⟩
def Vh:List HT:=[.one .frz (.int .i64)]
def Vb:List (Ql×CT):=[(.frz,.sl (.one (.int .u8))),Aq,Aq]
def Vc:QT:=.one (.one .own (.bool))
@[irreducible] def Cu(x:Cw):Bool×A6:=(shut λ x=>HS Kl Vh Vb Vc x).1 x
@[irreducible] def Kr(x:Cw):Prop:=(shut λ x=>HH Kl Vh Vb Vc x).1 x
def Vv:CL:=IC Vh Vb Vc Kr Cu
theorem Zi:DN Jm Vv:=by unfold Jm;exact KH (f:=Kl) (hs:=Vh) (cs:=Vb) (q:=Vc) ⟨Fp,trivial⟩ (by kernel_rfl) (λ x=>by kernel_rfl) (λ x h=>by unfold Kr at h;exact Eq.mp (congrFun (shut _).2 x) h) (λ x=>by unfold Cu;exact(congrFun (shut _).2 x).symm)
def qI:DCode:=(.seq [1,0] (.region [oi 0 4 0]) (.seq [4] (.region [on 0 5 1,om 1 6 0,on 2 7 1,oa 3 8 (.len (.t 7)),op 4 9 Cd Dv E1 [(.t 6),(.t 8)],oa 5 10 (.indexA 1 (.t 5) (.t 9)),ob 6 11 (.loadH none (.t 10)),om 7 4 11]) .ret))
def Ll:DFun:=⟨2,12,0,false,[.tmp 4],qI⟩
@[irreducible] def On:Be:=EK Ll.er.er
@[irreducible] def QM:Cb:=Da Ll.er
theorem qf:D4 On QM:=by unfold On QM;exact FZ (f:=Ll.er) ⟨Fq,trivial⟩
def Ur:List HT:=[.one .frz (.sl (.one (.int .i64)))]
def T0:List (Ql×CT):=[(.frz,.sl (.one (.int .u8))),Aq,Aq]
def Ub:QT:=.one (.one .own (.int .i64))
@[irreducible] def Di(x:oh):Int×A6:=(shut λ x=>HS Ll Ur T0 Ub x).1 x
@[irreducible] def Oi(x:oh):Prop:=(shut λ x=>HH Ll Ur T0 Ub x).1 x
def fj:CL:=IC Ur T0 Ub Oi Di
theorem qt:DN QM fj:=by unfold QM;exact KH (f:=Ll) (hs:=Ur) (cs:=T0) (q:=Ub) ⟨Fp,trivial⟩ (by kernel_rfl) (λ x=>by kernel_rfl) (λ x h=>by unfold Oi at h;exact Eq.mp (congrFun (shut _).2 x) h) (λ x=>by unfold Di;exact(congrFun (shut _).2 x).symm)
def yb:DCode:=(.seq [0] (.region [oa 0 2 (.mv An)]) (.seq [2] (.region [on 0 3 0,oa 1 4 (.len (.t 3)),oa 2 5 (.bin .gtr (.t 4) (.c (.int .i64 1048576))),om 3 2 5]) .ret))
def KF:Fn:=⟨⟨1,6,0,true,[.tmp 2],yb⟩,[.one .frz (.sl (.one (.int .u8)))],.one (.one .own (.bool))⟩
theorem xN:KF.A:=AV trivial
def Pc:Bb->Bool:=KF.V
def V0:Bb->Prop:=KF.O
theorem xw:KF.B:=AX trivial (by kernel_rfl) (λ x=>by kernel_rfl)
end
section
set_option maxRecDepth 100000
def Y8(x:Bb)(x0:A6):Bool:=(bAnd (iLt x0.2 (lLen x)) (iLt x0.2 4000))
def fP(x:Bb)(x0:A6):A6:=((iAnd .i64 (iAdd .i64 (iAdd .i64 (iMul .i64 x0.1 131) (iConv .i64 (lGet x (iNat x0.2) 0))) 7) 1073741823),(iAdd .i64 x0.2 1))
def fD(x:Bb)(x0:A6):Prop:=(((bAnd (iLt x0.2 (lLen x)) (iLt x0.2 4000))=true->((((0:Int)<=x0.2)/\(x0.2<(((List.length x):Int))))/\((iNat x0.2)<(List.length x))))/\((bAnd (iLt x0.2 (lLen x)) (iLt x0.2 4000))=false->True))
theorem vw (x):KA x=(x,0,(Am (Y8 x) (fP x) ((iAdd .i64 10729 (lLen x)),0)).1):=by unfold KA;exact(congrFun (shut _).2 x).trans (by kernel_rfl)
theorem vL (x):OY x=(LoopOk (Y8 x) (fP x) (fD x) ((iAdd .i64 10729 (lLen x)),0)):=by unfold OY;exact(congrFun (shut _).2 x).trans (by kernel_rfl)
theorem gk (x):BZ x=((bSel (iLt x.2.1 (lLen x.1)) (iAnd .i64 (iAdd .i64 (iAnd .i64 (iXor .i64 (iShr .i64 (iAdd .i64 (iMul .i64 x.2.2 6364136223846793005) 1442695040888963407) 33) (iShr .i64 (iAdd .i64 (iMul .i64 x.2.2 6364136223846793005) 1442695040888963407) 45)) 255) (iConv .i64 (lGet x.1 (iNat x.2.1) 0))) 255) (iAnd .i64 (iXor .i64 (iShr .i64 (iAdd .i64 (iMul .i64 x.2.2 6364136223846793005) 1442695040888963407) 33) (iShr .i64 (iAdd .i64 (iMul .i64 x.2.2 6364136223846793005) 1442695040888963407) 45)) 255)),(bSel (iLt x.2.1 (lLen x.1)) (iAdd .i64 x.2.1 1) x.2.1),(iAdd .i64 (iMul .i64 x.2.2 6364136223846793005) 1442695040888963407)):=by unfold BZ;exact(congrFun (shut _).2 x).trans (by kernel_rfl)
theorem gd (x):Im x=(((0:Int)<=33)/\(((0:Int)<=45)/\(((iLt x.2.1 (lLen x.1))=true->((((0:Int)<=x.2.1)/\(x.2.1<(((List.length x.1):Int))))/\((iNat x.2.1)<(List.length x.1))))/\((iLt x.2.1 (lLen x.1))=false->True)))):=by unfold Im;exact(congrFun (shut _).2 x).trans (by kernel_rfl)
theorem fO (x):As x=(bSel (iLe x.2 0) (0,x.1.2) (bSel (iLe x.2 256) ((iRem (BZ x.1).1 x.2),(BZ x.1).2) ((iRem (iAdd .i64 (iAdd .i64 (iAdd .i64 (iMul .i64 (BZ x.1).1 16777216) (iMul .i64 (BZ (x.1.1,(BZ x.1).2)).1 65536)) (iMul .i64 (BZ (x.1.1,(BZ (x.1.1,(BZ x.1).2)).2)).1 256)) (BZ (x.1.1,(BZ (x.1.1,(BZ (x.1.1,(BZ x.1).2)).2)).2)).1) x.2),(BZ (x.1.1,(BZ (x.1.1,(BZ (x.1.1,(BZ x.1).2)).2)).2)).2))):=by unfold As;exact(congrFun (shut _).2 x).trans (by kernel_rfl)
theorem fM (x):D0 x=(((iLe x.2 0)=true->True)/\((iLe x.2 0)=false->(((iLe x.2 256)=true->((Im x.1)/\(x.2≠0)))/\((iLe x.2 256)=false->((Im x.1)/\((Im (x.1.1,(BZ x.1).2))/\((Im (x.1.1,(BZ (x.1.1,(BZ x.1).2)).2))/\((Im (x.1.1,(BZ (x.1.1,(BZ (x.1.1,(BZ x.1).2)).2)).2))/\(x.2≠0))))))))):=by unfold D0;exact(congrFun (shut _).2 x).trans (by kernel_rfl)
theorem gq (x):Cu x=((iEq (As x).1 0),(As x).2):=by unfold Cu;exact(congrFun (shut _).2 x).trans (by kernel_rfl)
theorem gr (x):Kr x=(D0 x):=by unfold Kr;exact(congrFun (shut _).2 x).trans (by kernel_rfl)
theorem qM (x):Di x=((lGet x.2 (iNat (As (x.1,(lLen x.2))).1) 0),(As (x.1,(lLen x.2))).2):=by unfold Di;exact(congrFun (shut _).2 x).trans (by kernel_rfl)
theorem qk (x):Oi x=((D0 (x.1,(lLen x.2)))/\((((0:Int)<=(As (x.1,(lLen x.2))).1)/\((As (x.1,(lLen x.2))).1<(((List.length x.2):Int))))/\((iNat (As (x.1,(lLen x.2))).1)<(List.length x.2)))):=by unfold Oi;exact(congrFun (shut _).2 x).trans (by kernel_rfl)
theorem xV (x):Pc x=(iGt (lLen x) 1048576):=(KF.v x).trans (by kernel_rfl)
theorem xT (x):V0 x=True:=(KF.o x).trans (by kernel_rfl)
attribute [irreducible] Pc V0
end
def Xm:List DC->Bool
 |[]=>true
 |c::r=>!c.d&&Xm r
theorem jX:∀ {blk:List DV} {l:List DC},Chg (AB blk) l->Xm l=true->l.length=blk.length->l=AB blk
 |[],[],_,_,_=>rfl
 |[],_::_,_,_,h=>by simp at h
 |_::_,[],_,_,h=>by simp at h
 | v::blk,c::l,h,hc,hl=>by
   simp only[Xm,Ah,BC] at hc
   have h1:c=⟨false,v⟩:=h.1.resolve_left (by rw[hc.1];simp)
   rw[h1,jX h.2 hc.2 (by simpa using hl)];rfl
def eD(n:Nat)(q:QT)(cs:List (Ql×CT))(res:List ARes)(st:DS):Option (q.D×AgX (Du cs)):=
 match X8 st res with
 | some (v,st')=>if v.ok&&!v.hasPtr then (match st'.hp with
   | [blk,b2]=>if Xm b2&&b2.length == n then (match Me cs blk with
     | some vs=>(match q.of v,Fg (Du cs) vs with
       |some y,some b=>some (y,b)
       |_,_=>none)
     |none=>none) else none
   |_=>none) else none
 |none=>none
def Tt(f:DFun)(hs:List HT)(c2 cs:List (Ql×CT))(q:QT)(x:TuX (.agg cs::.agg c2::hs)):PX×Option (q.D×AgX (Du cs)):=
 match Dq (.agg cs::.agg c2::hs) x with
 |.agg blk::.agg b2::r=>(dev f.body ⟨news (.ptr 0 0::r)++FD (f.nslots-f.nparams),Fy f.nbox,[AB blk,AB b2]⟩).valR (eD c2.length q cs f.res)
 |_=>(.ff,none)
def La(f:DFun)(hs:List HT)(c2 cs:List (Ql×CT))(q:QT)(x:TuX (.agg cs::.agg c2::hs)):q.D×AgX (Du cs):=(Tt f hs c2 cs q x).2.getD (q.dflt,Ss (Du cs))
def K0(f:DFun)(hs:List HT)(c2 cs:List (Ql×CT))(q:QT)(x:TuX (.agg cs::.agg c2::hs)):Prop:=(Tt f hs c2 cs q x).1.den
def cr(f:DFun)(hs:List HT)(c2 cs:List (Ql×CT))(q:QT)(x:TuX (.agg cs::.agg c2::hs)):Bool:=(Tt f hs c2 cs q x).2.isSome
def dS(f:DFun)(hs:List HT)(c2 cs:List (Ql×CT)):Bool:=hs.length+1 == f.nparams&&!f.pure&&Nat.blt 0 cs.length&&Nat.blt 0 c2.length
def LZ(hs:List HT)(c2 cs:List (Ql×CT))(q:QT)(ok:TuX (.agg cs::.agg c2::hs)->Prop)(v:TuX (.agg cs::.agg c2::hs)->q.D×AgX (Du cs)):CL:=λ args b=>match args,b with
 | a::r,[blk,b2]=>if a.isP0 then (match FO (.agg cs::.agg c2::hs) (.agg blk::.agg b2::r) with
   |some x=>some (.p (ok x),q.dv (v x).1,[Gg cs (Cc (Du cs) (v x).2)])
   |none=>none) else none
 |_,_=>none
theorem yR(cs c2:List (Ql×CT))(hs:List HT)(x:TuX (.agg cs::.agg c2::hs)):∃ r b b2,Dq (.agg cs::.agg c2::hs) x= .agg (Cc cs b)::.agg (Cc c2 b2)::r:=by
 cases hs with
 |nil=>exact⟨[],x.1,x.2,rfl⟩
 |cons a r=>exact⟨Dq (a::r) x.2.2,x.1,x.2.1,rfl⟩
theorem kx:∀ (l:List DV),(AB l).length=l.length
 |[]=>rfl
 |_::r=>by simp only[AB,AH,kx r]
theorem lA:∀ {l:List DV} {p:List PV},EL (AB l) p->(∀ v∈l,v≠.any)->p=DV.encL l
 |[],[],_,_=>rfl
 |[],_::_,h,_=>h.elim
 |_::_,[],h,_=>h.elim
 | v :: l,x::p,h,hk=>by
   have h1:x=v.enc:=by
    rcases h.1 with h1|h1
    . exact absurd h1 (hk v (G9 ..))
    . exact h1
   rw[h1,lA h.2 λ w hw=>hk w (List.mem_cons_of_mem _ hw)];rfl
theorem O8 {f : DFun} {hs : List HT} {c2 cs:List (Ql×CT)} {q:QT} (ho:AllD f.body.obs) (hst:dS f hs c2 cs=true) (hc:∀ x,cr f hs c2 cs q x=true) {ok:TuX (.agg cs::.agg c2::hs)->Prop} {v:TuX (.agg cs::.agg c2::hs)->q.D×AgX (Du cs)} (hok:∀ x,ok x->K0 f hs c2 cs q x) (hv:∀ x,La f hs c2 cs q x=v x) :
 DN (Da f.er) (LZ hs c2 cs q ok v):=by
 intro args b g w H Q h hg hQ
 simp only[dS,Ah,A0,BC] at hst
 unfold LZ at h
 split at h
 . rename_i a r blk b2
   split at h
   . rename_i ha
     have ha:a= .ptr 0 0:=by unfold DV.isP0 at ha;split at ha<;>first|rfl|cases ha
     subst ha
     cases hx:FO (.agg cs::.agg c2::hs) (.agg blk::.agg b2::r) with
     |none=>rw[hx] at h;cases h
     | some x=>
       rw[hx] at h;simp only[Ak,Al] at h;obtain⟨rfl,rfl,rfl⟩:=h;have he:=P5 hx;obtain⟨r',b,b3,hd⟩:=yR cs c2 hs x;rw[hd] at he;simp only[DV.encL,DV.enc,G5,PV.agg.injEq] at he
       have hlr:r'.length=hs.length:=by
        have:=Na (.agg cs::.agg c2::hs) x;rw[hd] at this;simpa using this
       have hc:=hc x;have hok:=hok x hg;unfold cr at hc;unfold K0 at hok;have hvx:=hv x;unfold La at hvx;unfold Tt at hc hok hvx;rw[hd] at hc hok hvx;simp only at hc hok hvx
       cases hdd:(dev f.body ⟨news (.ptr 0 0::r')++FD (f.nslots-f.nparams),Fy f.nbox,[AB (Cc cs b),AB (Cc c2 b3)]⟩).valR (eD c2.length q cs f.res) with
       | mk g o=>
         rw[hdd] at hc hok hvx
         cases o with
         |none=>cases hc
         | some y=>
           simp only[Hs] at hvx;obtain⟨k1,e,st,k2,k3,k4⟩:=PO hdd hok;have hchg:ChgS _ st:=Sy (G4 f.body _) k2;show Da f.er (PV.ptr 0 0::DV.encL r) [DV.encL blk,DV.encL b2] Q;rw[<- he.1,<- he.2.1,<- he.2.2];refine⟨by simp only[AH,E3,hlr];exact hst.1.1.1,λ hp=>absurd hp (by simp[DFun.er,hst.1.1.2]),?_⟩
           refine Ga f.body ho (d:=⟨news (.ptr 0 0::r')++FD (f.nslots-f.nparams),Fy f.nbox,[AB (Cc cs b),AB (Cc c2 b3)]⟩) (s:=⟨DV.encL (.ptr 0 0::r')++HJ (f.nslots-f.nparams),JM f.nbox,[DV.encL (Cc cs b),DV.encL (Cc c2 b3)]⟩) ⟨(EL.news _).append (Pr _),Ps _,.inr (W1 _),.inr (W1 _),trivial⟩ k1 k2 λ s' hs'=>?_
           unfold eD at k4;split at k4
           . rename_i v0 st' hr; split at k4
             . rename_i hv0; simp only[Ah,BC] at hv0;split at k4
               . rename_i blk' b2' hblk;split at k4;rename_i hcl;split at k4
                 . rename_i vs hvs;split at k4
                   . rename_i y0 b0 hy0 hb0;simp only[Ak] at k4;subst k4;obtain⟨⟨s2,e2,e3⟩,hch2⟩:=bX hs' hr hv0.1;have hch:=(hchg.trans hch2).hp;have e4:=e3.hp;rw[hblk] at hch e4
                     cases hp2:s2.hp with
                     |nil=>rw[hp2] at e4;exact e4.elim
                     | cons p l=>
                       rw[hp2] at e4
                       have hl0:∃ p2,l=[p2]:=by
                        cases l with
                        |nil=>exact e4.2.elim
                        | cons p2 l=>cases l with
                          |nil=>exact⟨p2,rfl⟩
                          |cons=>exact e4.2.2.elim
                       obtain⟨p2,rfl⟩:=hl0;obtain⟨kc1,kc2⟩:=Wf c2 b3;simp only[Ah,A0] at hcl;have hb2:=jX hch.2.1 hcl.1 (by rw[hcl.2,kc2]);have hb2e:=e4.2.1;rw[hb2] at hb2e;have hp2e:=lA (hb2e.to (by rw[kx,kc2];exact Dd hst.2)) kc1
                       have hne:0<blk'.length:=by
                        cases blk' with
                        | nil=>cases cs with
                          |nil=>exact absurd hst.1.2 (by decide)
                          |cons a cs=>obtain⟨q0,t0⟩:=a;cases q0<;>cases hvs
                        |cons=>simp
                       have hEL:=e4.1.to hne;obtain⟨kn1,kn2⟩:=Pb hb0;obtain⟨kb1,kb2⟩:=Wf cs b;have hpb:=WB cs hEL hch.1 hvs (SI hb0) kn1 kn2 kb2 kb1;obtain⟨h1,_⟩:=X5 hy0
                       have hQ':Q (q.dv y0).enc (GG (IV [blk,b2] [Gg cs (Cc (Du cs) b0)])):=by
                        have:=hQ;rw[<- hvx] at this;exact this
                       have hmix : DV.encL (D9 (Cc cs b) (Gg cs (Cc (Du cs) b0)))=DV.encL (D9 blk (Gg cs (Cc (Du cs) b0))):=by
                        have:∀ (a c l:List DV),DV.encL a=DV.encL c->DV.encL (D9 a l)=DV.encL (D9 c l):=by
                         intro a
                         induction a with
                         | nil=>intro c l h;cases c with
                           |nil=>rfl
                           |cons=>cases h
                         | cons x a ih=>
                           intro c l h
                           cases c with
                           |nil=>cases h
                           | cons z c=>
                             simp only[DV.encL,G5] at h
                             cases l with
                             |nil=>simp only[D9,DV.encL,h.1,h.2]
                             | cons w l=>
                               simp only[D9,DV.encL,ih c l h.2];by_cases hw:w.isAny=true
                               . rw[Ac hw,Ac hw,h.1]
                               . rw[Ae hw,Ae hw]
                        exact this _ _ _ he.1
                       have fin:(match IU s' f.res with|some (v,st)=>if f.pure=true then v.flt=true/\Q v [] else Q v st.hp|none=>False):=by
                        rw[e2];simp only[hst.1.1.2,AL,AQ,hp2];rw[<- h1,hpb,hmix,hp2e,he.2.1];exact hQ'
                       cases e with
                       |normal=>exact fin
                       |ret=>exact fin
                       |exit i=>exact absurd rfl (k3 i)
                   . cases k4
                 . cases k4
                 . cases k4
               . cases k4
             . cases k4
           . cases k4
   . cases h
 . cases h
attribute [irreducible] Tt La K0 cr dS
def tg:DCode:=(.seq [0] (.region [oi 0 2 0]) (.seq [0] (.region [om 0 4 0,om 1 5 0,oa 2 6 (.nilck (.t 5)),oa 3 7 (.fieldA 2 (.t 6)),oa 4 8 (.loadH none (.t 7)),oa 5 9 (.bin .mul (.t 8) (.c (.int .i64 6364136223846793005))),oa 6 10 (.bin .add (.t 9) (.c (.int .i64 1442695040888963407))),oa 7 11 (.nilck (.t 4)),oa 8 12 (.fieldA 2 (.t 11)),os 9 (.storeH 1 (.t 12) (.t 10))]) (.seq [3,0] (.region [om 0 13 0,xA 1 14 (.nilck (.t 13)) (rg 1),xA 2 15 (.fieldA 2 (.t 14)) (rg 2),xA 3 16 (.loadH none (.t 15)) (rg 3),xA 4 17 (.bin .shr (.t 16) (.c (.int .u64 33))) (rg 4),om 5 18 0,xA 6 19 (.nilck (.t 18)) [5],xA 7 20 (.fieldA 2 (.t 19)) [5,6],xA 8 21 (.loadH none (.t 20)) [5,6,7],xA 9 22 (.bin .shr (.t 21) (.c (.int .u64 45))) [5,6,7,8],xA 10 23 (.bin .xor (.t 17) (.t 22)) (rg 10),xA 11 24 (.bin .and (.t 23) (.c (.int .i64 255))) (rg 11),xA 12 3 (.mv (.t 24)) (rg 12)]) (.seq [3] (.seq [34,3,0] (.region [om 0 25 0,xA 1 26 (.nilck (.t 25)) (rg 1),xA 2 27 (.fieldA 1 (.t 26)) (rg 2),xA 3 28 (.loadH none (.t 27)) (rg 3),om 4 29 0,xA 5 30 (.nilck (.t 29)) [4],xA 6 31 (.fieldA 0 (.t 30)) [4,5],xA 7 32 (.loadH none (.t 31)) [4,5,6],xA 8 33 (.len (.t 32)) [4,5,6,7],xA 9 34 (.bin .lss (.t 28) (.t 33)) (rg 9)]) (.cond (.t 34) (.seq [3,0] (.region [om 0 35 3,om 1 36 0,xA 2 37 (.nilck (.t 36)) [1],xA 3 38 (.fieldA 0 (.t 37)) [1,2],xA 4 39 (.loadH none (.t 38)) [1,2,3],om 5 40 0,xA 6 41 (.nilck (.t 40)) [5],xA 7 42 (.fieldA 1 (.t 41)) [5,6],xA 8 43 (.loadH none (.t 42)) [5,6,7],xA 9 44 (.indexA 1 (.t 39) (.t 43)) [1,2,3,4,5,6,7,8],xA 10 45 (.loadH none (.t 44)) [1,2,3,4,5,6,7,8,9],xA 11 46 (.conv .i64 (.t 45)) [1,2,3,4,5,6,7,8,9,10],xA 12 47 (.bin .add (.t 35) (.t 46)) (rg 12),xA 13 48 (.bin .and (.t 47) (.c (.int .i64 255))) (rg 13),xA 14 3 (.mv (.t 48)) (rg 14)]) (.region [om 0 49 0,om 1 50 0,oa 2 51 (.nilck (.t 50)),oa 3 52 (.fieldA 1 (.t 51)),oa 4 53 (.loadH none (.t 52)),oa 5 54 (.bin .add (.t 53) Au),oa 6 55 (.nilck (.t 49)),oa 7 56 (.fieldA 1 (.t 55)),os 8 (.storeH 1 (.t 56) (.t 54))])) .skip)) (.seq [2] (.region [om 0 57 3,om 1 2 57]) .ret)))))
def Ut:DFun:=⟨1,58,0,false,[.tmp 2],tg⟩
theorem sK:Ks.er=Ut.er:=by kernel_rfl
def UJ:List HT:=[]
def UN:List (Ql×CT):=[(.frz,.sl (.one (.int .u8))),Aq,Aq]
def UR:QT:=.one (.one .own (.int .i64))
def Uz:List (Ql×CT):=[Aq,(.own,.sl (.one (.sl BA))),(.own,.sl (.one (.sl BD))),Aq,(.own,.sl Bj),Aq,(.own,.bool)]
@[irreducible] def C5(x:oH):Int×A6:=(shut λ x=>La Ut UJ Uz UN UR x).1 x
@[irreducible] def Jg(x:oH):Prop:=(shut λ x=>K0 Ut UJ Uz UN UR x).1 x
def OB:CL:=LZ UJ Uz UN UR Jg C5
theorem QY:DN Fv OB:=by unfold Fv;rw[sK];exact O8 (f:=Ut) (hs:=UJ) (c2:=Uz) (cs:=UN) (q:=UR) trivial (by kernel_rfl) (λ x=>by kernel_rfl) (λ x h=>by unfold Jg at h;exact Eq.mp (congrFun (shut _).2 x) h) (λ x=>by unfold C5;exact(congrFun (shut _).2 x).symm)
def qO:DCode:=(.seq [1,0] (.region [oi 0 4 0]) (.seq [1,0] (.seq [10,1,0] (.region [om 0 9 1,oa 1 10 (.bin .leq (.t 9) AE)]) (.cond (.t 10) (.seq [4] (.region [oi 0 4 0]) .ret) .skip)) (.seq [1,0] (.seq [12,1,0] (.region [om 0 11 1,oa 1 12 (.bin .leq (.t 11) (.c (.int .i64 256)))]) (.cond (.t 12) (.seq [4] (.region [om 0 13 0,op 1 14 En Fv OB [(.t 13)],om 2 15 1,oa 3 16 (.bin .rem (.t 14) (.t 15)),om 4 4 16]) .ret) .skip)) (.seq [5,1,0] (.region [om 0 17 0,op 1 18 En Fv OB [(.t 17)],om 2 5 18]) (.seq [6,5,1,0] (.region [om 0 19 0,op 1 20 En Fv OB [(.t 19)],om 2 6 20]) (.seq [7,6,5,1,0] (.region [om 0 21 0,op 1 22 En Fv OB [(.t 21)],om 2 7 22]) (.seq [8,7,6,5,1] (.region [om 0 23 0,op 1 24 En Fv OB [(.t 23)],om 2 8 24]) (.seq [4] (.region [om 0 25 5,oa 1 26 (.bin .mul (.t 25) (.c (.int .i64 16777216))),om 2 27 6,oa 3 28 (.bin .mul (.t 27) (.c (.int .i64 65536))),oa 4 29 (.bin .add (.t 26) (.t 28)),om 5 30 7,oa 6 31 (.bin .mul (.t 30) (.c (.int .i64 256))),oa 7 32 (.bin .add (.t 29) (.t 31)),om 8 33 8,oa 9 34 (.bin .add (.t 32) (.t 33)),om 10 35 1,oa 11 36 (.bin .rem (.t 34) (.t 35)),om 12 4 36]) .ret))))))))
def Uh:DFun:=⟨2,37,0,false,[.tmp 4],qO⟩
theorem rn:Ki.er=Uh.er:=by kernel_rfl
def UC:List HT:=[.one .frz (.int .i64)]
def UF:List (Ql×CT):=[(.frz,.sl (.one (.int .u8))),Aq,Aq]
def Uu:QT:=.one (.one .own (.int .i64))
def T4:List (Ql×CT):=[Aq,(.own,.sl (.one (.sl BA))),(.own,.sl (.one (.sl BD))),Aq,(.own,.sl Bj),Aq,(.own,.bool)]
@[irreducible] def Oz(x:XW):Int×A6:=(shut λ x=>La Uh UC T4 UF Uu x).1 x
@[irreducible] def QC(x:XW):Prop:=(shut λ x=>K0 Uh UC T4 UF Uu x).1 x
def fC:CL:=LZ UC T4 UF Uu QC Oz
theorem qQ:DN Dv fC:=by unfold Dv;rw[rn];exact O8 (f:=Uh) (hs:=UC) (c2:=T4) (cs:=UF) (q:=Uu) ⟨QY,QY,QY,QY,QY,trivial⟩ (by kernel_rfl) (λ x=>by kernel_rfl) (λ x h=>by unfold QC at h;exact Eq.mp (congrFun (shut _).2 x) h) (λ x=>by unfold Oz;exact(congrFun (shut _).2 x).symm)
def tC:DCode:=(.seq [1,0] (.region [oa 0 4 (.mv An)]) (.seq [4] (.region [om 0 5 0,om 1 6 1,op 2 7 Cd Dv fC [(.t 5),(.t 6)],oa 3 8 (.bin .eql (.t 7) AE),om 4 4 8]) .ret))
def UA:DFun:=⟨2,9,0,false,[.tmp 4],tC⟩
theorem sQ:Kl.er=UA.er:=by kernel_rfl
def UU:List HT:=[.one .frz (.int .i64)]
def UW:List (Ql×CT):=[(.frz,.sl (.one (.int .u8))),Aq,Aq]
def US:QT:=.one (.one .own (.bool))
def UD:List (Ql×CT):=[Aq,(.own,.sl (.one (.sl BA))),(.own,.sl (.one (.sl BD))),Aq,(.own,.sl Bj),Aq,(.own,.bool)]
@[irreducible] def OK(x:XW):Bool×A6:=(shut λ x=>La UA UU UD UW US x).1 x
@[irreducible] def Ov(x:XW):Prop:=(shut λ x=>K0 UA UU UD UW US x).1 x
def fZ:CL:=LZ UU UD UW US Ov OK
theorem tn:DN Jm fZ:=by unfold Jm;rw[sQ];exact O8 (f:=UA) (hs:=UU) (c2:=UD) (cs:=UW) (q:=US) ⟨qQ,trivial⟩ (by kernel_rfl) (λ x=>by kernel_rfl) (λ x h=>by unfold Ov at h;exact Eq.mp (congrFun (shut _).2 x) h) (λ x=>by unfold OK;exact(congrFun (shut _).2 x).symm)
section
set_option maxRecDepth 100000
theorem sR (x):C5 x=((bSel (iLt x.1.2.1 (lLen x.1.1)) (iAnd .i64 (iAdd .i64 (iAnd .i64 (iXor .i64 (iShr .i64 (iAdd .i64 (iMul .i64 x.1.2.2 6364136223846793005) 1442695040888963407) 33) (iShr .i64 (iAdd .i64 (iMul .i64 x.1.2.2 6364136223846793005) 1442695040888963407) 45)) 255) (iConv .i64 (lGet x.1.1 (iNat x.1.2.1) 0))) 255) (iAnd .i64 (iXor .i64 (iShr .i64 (iAdd .i64 (iMul .i64 x.1.2.2 6364136223846793005) 1442695040888963407) 33) (iShr .i64 (iAdd .i64 (iMul .i64 x.1.2.2 6364136223846793005) 1442695040888963407) 45)) 255)),(bSel (iLt x.1.2.1 (lLen x.1.1)) (iAdd .i64 x.1.2.1 1) x.1.2.1),(iAdd .i64 (iMul .i64 x.1.2.2 6364136223846793005) 1442695040888963407)):=by unfold C5;exact(congrFun (shut _).2 x).trans (by kernel_rfl)
theorem sy (x):Jg x=(((0:Int)<=33)/\(((0:Int)<=45)/\(((iLt x.1.2.1 (lLen x.1.1))=true->((((0:Int)<=x.1.2.1)/\(x.1.2.1<(((List.length x.1.1):Int))))/\((iNat x.1.2.1)<(List.length x.1.1))))/\((iLt x.1.2.1 (lLen x.1.1))=false->True)))):=by unfold Jg;exact(congrFun (shut _).2 x).trans (by kernel_rfl)
theorem rz (x):Oz x=(bSel (iLe x.2.2 0) (0,x.1.2) (bSel (iLe x.2.2 256) ((iRem (C5 (x.1,x.2.1)).1 x.2.2),(C5 (x.1,x.2.1)).2) ((iRem (iAdd .i64 (iAdd .i64 (iAdd .i64 (iMul .i64 (C5 (x.1,x.2.1)).1 16777216) (iMul .i64 (C5 ((x.1.1,(C5 (x.1,x.2.1)).2),x.2.1)).1 65536)) (iMul .i64 (C5 ((x.1.1,(C5 ((x.1.1,(C5 (x.1,x.2.1)).2),x.2.1)).2),x.2.1)).1 256)) (C5 ((x.1.1,(C5 ((x.1.1,(C5 ((x.1.1,(C5 (x.1,x.2.1)).2),x.2.1)).2),x.2.1)).2),x.2.1)).1) x.2.2),(C5 ((x.1.1,(C5 ((x.1.1,(C5 ((x.1.1,(C5 (x.1,x.2.1)).2),x.2.1)).2),x.2.1)).2),x.2.1)).2))):=by unfold Oz;exact(congrFun (shut _).2 x).trans (by kernel_rfl)
theorem r8 (x):QC x=(((iLe x.2.2 0)=true->True)/\((iLe x.2.2 0)=false->(((iLe x.2.2 256)=true->((Jg (x.1,x.2.1))/\(x.2.2≠0)))/\((iLe x.2.2 256)=false->((Jg (x.1,x.2.1))/\((Jg ((x.1.1,(C5 (x.1,x.2.1)).2),x.2.1))/\((Jg ((x.1.1,(C5 ((x.1.1,(C5 (x.1,x.2.1)).2),x.2.1)).2),x.2.1))/\((Jg ((x.1.1,(C5 ((x.1.1,(C5 ((x.1.1,(C5 (x.1,x.2.1)).2),x.2.1)).2),x.2.1)).2),x.2.1))/\(x.2.2≠0))))))))):=by unfold QC;exact(congrFun (shut _).2 x).trans (by kernel_rfl)
theorem sA (x):OK x=((iEq (Oz x).1 0),(Oz x).2):=by unfold OK;exact(congrFun (shut _).2 x).trans (by kernel_rfl)
theorem ta (x):Ov x=(QC x):=by unfold Ov;exact(congrFun (shut _).2 x).trans (by kernel_rfl)
end
section
set_option maxRecDepth 8000
def tX:DCode:=(.seq [1,0] (.region [oa 0 4 (.mv (.c .undef))]) (.seq [5,1] (.region [on 0 6 0,op 1 7 O3 Rs iC [(.t 6)],om 2 5 7]) (.seq [5] (.region [om 0 8 5,om 1 9 5,oa 2 10 (.nilck (.t 9)),oa 3 11 (.fieldA 2 (.t 10)),oa 4 12 (.loadH none (.t 11)),om 5 13 1,oa 6 14 (.bin .mul (.c (.int .i64 7919)) (.t 13)),oa 7 15 (.bin .add (.t 12) (.t 14)),oa 8 16 (.nilck (.t 8)),oa 9 17 (.fieldA 2 (.t 16)),os 10 (.storeH 1 (.t 17) (.t 15))]) (.seq [4] (.region [om 0 18 5,om 1 4 18]) .ret))))
def Lu:DFun:=⟨2,19,0,false,[.tmp 4],tX⟩
@[irreducible] def LC:Be:=EK Lu.er.er
@[irreducible] def ON:Cb:=Da Lu.er
theorem gj:D4 LC ON:=by unfold LC ON;exact FZ (f:=Lu.er) ⟨wD,trivial⟩
def Vd:List HT:=[.one .frz (.sl (.one (.int .u8))),.one .frz (.int .i64)]
def Vt:List (Ql×CT):=[(.frz,.sl (.one (.int .u8))),Aq,Aq]
@[irreducible] def Jn(x:Eh):List (Int)×Int×Int:=(shut λ x=>Ta Lu Vd Vt x).1 x
@[irreducible] def MO(x:Eh):Prop:=(shut λ x=>SZ Lu Vd Vt x).1 x
def Zs:CL:=W4 Vd Vt MO Jn
theorem gv:DN ON Zs:=by unfold ON;exact jm (f:=Lu) (hs:=Vd) (cs:=Vt) ⟨vA,trivial⟩ (by kernel_rfl) (λ x=>by kernel_rfl) (λ x h=>by unfold MO at h;exact Eq.mp (congrFun (shut _).2 x) h) (λ x=>by unfold Jn;exact(congrFun (shut _).2 x).symm)
def tE:DCode:=(.seq [4,1,0] (.region [oa 0 4 (.allocB 0 [Ab,Ab,Ab,Ab])]) (.seq [5,4,1,0] (.region [om 0 8 0,op 1 9 Cd Dv E1 [(.t 8),(.c (.int .i64 56))],oa 2 10 (.bin .add Au (.t 9)),om 3 5 10]) (.seq [6,5,4,1,0] (.region [om 0 11 0,op 1 12 Cd Dv E1 [(.t 11),(.c (.int .i64 15))],oa 2 13 (.bin .add Au (.t 12)),om 3 6 13]) (.seq [6,5,4,1,0] (.seq [15,6,5,4,1,0] (.region [om 0 14 0,op 1 15 Hp Jm Vv [(.t 14),(.c (.int .i64 2))]]) (.cond (.t 15) (.region [oi 0 6 2]) .skip)) (.seq [7,6,5,4,1,0] (.region [om 0 16 0,om 1 17 1,oa 2 18 (.bin .sub (.t 17) Au),oa 3 19 (.maxI Au (.t 18)),op 4 20 Cd Dv E1 [(.t 16),(.t 19)],oa 5 21 (.bin .add Au (.t 20)),om 6 7 21]) (.seq [5,4] (.seq [23,7,6,5,4,1,0] (.region [om 0 22 0,op 1 23 Cd Dv E1 [(.t 22),(.c (.int .i64 16))]]) (.block 0 (.seq [24,23,7,6,5,4,1,0] (.region [oa 0 25 (.bin .eql (.t 23) AE),om 1 24 25]) (.cond (.t 24) (.seq [4] (.region [om 0 26 5,om 1 27 6,oa 2 28 (.build [Ab,Ab,Ab,Ab] [(0,1,(.c (.int .i64 2))),(1,1,(.t 26)),(2,1,(.t 27))]),os 3 (.storeB 0 4 (.t 4) (.t 28))]) .ret) (.seq [29,23,7,6,5,4,1,0] (.region [oa 0 30 (.bin .eql (.t 23) Au),om 1 29 30]) (.cond (.t 29) (.seq [4] (.region [om 0 31 6,oa 1 32 (.build [Ab,Ab,Ab,Ab] [(0,1,(.c (.int .i64 2))),(2,1,(.t 31))]),os 2 (.storeB 0 4 (.t 4) (.t 32))]) .ret) (.seq [33,23,7,6,5,4,1,0] (.seq [33,23,7,6,5,4,1,0] (.region [oa 0 34 (.bin .eql (.t 23) (.c (.int .i64 2))),om 1 33 34]) (.cond (.t 33) .skip (.region [oa 0 35 (.bin .eql (.t 23) (.c (.int .i64 3))),om 1 33 35]))) (.cond (.t 33) (.seq [4] (.region [om 0 36 5,om 1 37 6,oa 2 38 (.build [Ab,Ab,Ab,Ab] [(0,1,(.c (.int .i64 6))),(1,1,(.t 36)),(2,1,(.t 37))]),os 3 (.storeB 0 4 (.t 4) (.t 38))]) .ret) (.seq [39,23,7,6,5,4,1,0] (.region [oa 0 40 (.bin .eql (.t 23) (.c (.int .i64 4))),om 1 39 40]) (.cond (.t 39) (.seq [4] (.region [om 0 41 6,oa 1 42 (.build [Ab,Ab,Ab,Ab] [(0,1,(.c (.int .i64 8))),(2,1,(.t 41))]),os 2 (.storeB 0 4 (.t 4) (.t 42))]) .ret) (.seq [43,23,7,5,4,1,0] (.region [oa 0 44 (.bin .eql (.t 23) (.c (.int .i64 5))),om 1 43 44]) (.cond (.t 43) (.seq [4] (.region [om 0 45 0,op 1 46 Cd Dv E1 [(.t 45),(.c (.int .i64 4))],oa 2 47 (.build [Ab,Ab,Ab,Ab] [(0,1,(.c (.int .i64 9))),(3,1,(.t 46))]),os 3 (.storeB 0 4 (.t 4) (.t 47))]) .ret) (.seq [48,23,7,5,4,1,0] (.region [oa 0 49 (.bin .eql (.t 23) (.c (.int .i64 6))),om 1 48 49]) (.cond (.t 48) (.seq [4] (.region [oa 0 50 (.build [Ab,Ab,Ab,Ab] [(0,1,(.c (.int .i64 10)))]),os 1 (.storeB 0 4 (.t 4) (.t 50))]) .ret) (.seq [51,23,7,5,4,1,0] (.region [oa 0 52 (.bin .eql (.t 23) (.c (.int .i64 7))),om 1 51 52]) (.cond (.t 51) (.seq [4] (.region [om 0 53 0,om 1 54 1,oa 2 55 (.maxI Au (.t 54)),op 3 56 Cd Dv E1 [(.t 53),(.t 55)],oa 4 57 (.build [Ab,Ab,Ab,Ab] [(0,1,(.c (.int .i64 5))),(3,1,(.t 56))]),os 5 (.storeB 0 4 (.t 4) (.t 57))]) .ret) (.seq [58,7,5,4,1,0] (.seq [58,23,7,5,4,1,0] (.region [oa 0 59 (.bin .eql (.t 23) (.c (.int .i64 8))),om 1 58 59]) (.cond (.t 58) .skip (.seq [58,23,7,5,4,1,0] (.region [oa 0 60 (.bin .eql (.t 23) (.c (.int .i64 9))),om 1 58 60]) (.cond (.t 58) .skip (.region [oa 0 61 (.bin .eql (.t 23) (.c (.int .i64 10))),om 1 58 61]))))) (.cond (.t 58) (.seq [63,7,5,4,0] (.region [om 0 62 1,oa 1 63 (.bin .gtr (.t 62) Au)]) (.cond (.t 63) (.seq [4] (.region [om 0 64 7,oa 1 65 (.build [Ab,Ab,Ab,Ab] [(0,1,(.c (.int .i64 3))),(3,1,(.t 64))]),om 2 66 7,oa 3 67 (.build [Ab,Ab,Ab,Ab] [(0,1,(.c (.int .i64 4))),(3,1,(.t 66))]),om 4 68 5,om 5 69 7,oa 6 70 (.build [Ab,Ab,Ab,Ab] [(0,1,(.c (.int .i64 7))),(1,1,(.t 68)),(3,1,(.t 69))]),⟨7,some 71,.a false (.litSlice 4 3 [Ab,Ab,Ab,Ab,Ab,Ab,Ab,Ab,Ab,Ab,Ab,Ab] [(0,4,(.t 65)),(4,4,(.t 67)),(8,4,(.t 70))]) (some BA),none,[]⟩,om 8 72 0,op 9 73 Cd Dv E1 [(.t 72),(.c (.int .i64 3))],oa 10 74 (.indexA 4 (.t 71) (.t 73)),ob 11 75 (.loadH (some 4) (.t 74)),os 12 (.storeB 0 4 (.t 4) (.t 75))]) .ret) .skip)) .skip)))))))))))))))))) (.seq [4] (.region [om 0 76 5,oa 1 77 (.build [Ab,Ab,Ab,Ab] [(0,1,(.c (.int .i64 2))),(1,1,(.t 76))]),os 2 (.storeB 0 4 (.t 4) (.t 77))]) .ret)))))))
def Lv:DFun:=⟨2,78,1,false,[.cell 4 (some 4)],tE⟩
@[irreducible] def OM:Be:=EK Lv.er.er
@[irreducible] def Rl:Cb:=Da Lv.er
theorem vn:D4 OM Rl:=by unfold OM Rl;exact FZ (f:=Lv.er) ⟨Fq,Fq,UL,Fq,Fq,Fq,Fq,Fq,trivial⟩
def Vz:List HT:=[.one .frz (.int .i64)]
def Vq:List (Ql×CT):=[(.frz,.sl (.one (.int .u8))),Aq,Aq]
def Vj:QT:=.one (.agg [Aq,Aq,Aq,Aq])
@[irreducible] def Cn(x:Cw):CH×A6:=(shut λ x=>HS Lv Vz Vq Vj x).1 x
@[irreducible] def OL(x:Cw):Prop:=(shut λ x=>HH Lv Vz Vq Vj x).1 x
def ia:CL:=IC Vz Vq Vj OL Cn
theorem uG:DN Rl ia:=by unfold Rl;exact KH (f:=Lv) (hs:=Vz) (cs:=Vq) (q:=Vj) ⟨Fp,Fp,Zi,Fp,Fp,Fp,Fp,Fp,trivial⟩ (by kernel_rfl) (λ x=>by kernel_rfl) (λ x h=>by unfold OL at h;exact Eq.mp (congrFun (shut _).2 x) h) (λ x=>by unfold Cn;exact(congrFun (shut _).2 x).symm)
def uK:DCode:=(.seq [4,1,0] (.region [oa 0 4 (.allocB 0 [Ab,.nils])]) (.seq [5,4,1,0] (.region [om 0 11 0,op 1 12 Cd Dv E1 [(.t 11),(.c (.int .i64 4))],oa 2 13 (.bin .add Au (.t 12)),om 3 5 13]) (.seq [6,5,4,1,0] (.region [om 0 14 1,oa 1 15 (.build [Ab,.nils] [(0,1,(.t 14))]),oa 2 6 (.allocB 1 [Ab,.nils]),os 3 (.storeB 1 2 (.t 6) (.t 15))]) (.seq [6,4] (.seq [7,6,5,4,1,0] (.region [oi 0 7 0]) (.block 0 (.loop [0,1,4,5,6,7] 1 (.seq [7,6,5,4,1,0] (.seq [18,7,6,5,4,1,0] (.region [om 0 16 7,om 1 17 5,oa 2 18 (.bin .lss (.t 16) (.t 17))]) (.cond (.t 18) .skip (.exit 0))) (.seq [7,6,5,4,1,0] (.block 1 (.seq [8,7,6,5,4,1,0] (.region [⟨0,some 21,.a false (.litSlice 4 0 [] []) (some BA),none,[]⟩,om 1 8 21]) (.seq [8,7,6,5,4,1,0] (.seq [9,8,7,6,5,4,1,0] (.region [oi 0 9 0]) (.block 2 (.loop [0,1,4,5,6,7,8,9] 1 (.seq [9,8,7,6,5,4,1,0] (.seq [24,9,8,7,6,5,4,1,0] (.region [om 0 22 9,om 1 23 1,oa 2 24 (.bin .lss (.t 22) (.t 23))]) (.cond (.t 24) .skip (.exit 2))) (.seq [9,8,7,6,5,4,1,0] (.block 3 (.seq [10,9,8,7,6,5,4,1,0] (.region [om 0 27 0,om 1 28 5,op 2 29 OM Rl ia [(.t 27),(.t 28)],oa 3 10 (.allocB 2 [Ab,Ab,Ab,Ab]),os 4 (.storeB 2 4 (.t 10) (.t 29))]) (.seq [10,9,8,7,6,5,4,1,0] (.seq [35,10,9,8,7,6,5,4,1,0] (.region [om 0 30 7,oa 1 31 (.bin .gtr (.t 30) AE),om 2 32 31,og 3 33 (.mv (.t 0)) 32 true,⟨4,some 34,.callp false Hp Jm Vv [(.t 33),(.c (.int .i64 3))],(some (32,true)),[]⟩,oa 5 35 (.pick (.t 32) (.t 34) An)]) (.cond (.t 35) (.region [oa 0 36 (.build [Ab,Ab,Ab,Ab] [(0,1,Au)]),os 1 (.storeB 2 4 (.t 10) (.t 36))]) .skip)) (.region [om 0 37 8,ob 1 38 (.loadB 2 (some 4) (.t 10)),⟨2,some 39,.a false (.litSlice 4 1 [Ab,Ab,Ab,Ab] [(0,4,(.t 38))]) (some BA),none,[]⟩,oa 3 40 (.app 4 (.t 37) (.t 39)),om 4 8 40])))) (.region [om 0 25 9,oa 1 26 (.bin .add (.t 25) Au),om 2 9 26])))))) (.region [oa 0 41 (.fieldA 1 (.t 6)),ob 1 42 (.loadB 1 none (.t 41)),om 2 43 8,⟨3,some 44,.a false (.litSlice 1 1 [.nils] [(0,1,(.t 43))]) (some (.one (.sl BA))),none,[]⟩,oa 4 45 (.app 1 (.t 42) (.t 44)),oa 5 46 (.fieldA 1 (.t 6)),os 6 (.storeB 1 1 (.t 46) (.t 45))])))) (.region [om 0 19 7,oa 1 20 (.bin .add (.t 19) Au),om 2 7 20])))))) (.seq [4] (.region [ob 0 47 (.loadB 1 (some 2) (.t 6)),os 1 (.storeB 0 2 (.t 4) (.t 47))]) .ret)))))
def Ly:DFun:=⟨2,48,3,false,[.cell 4 (some 2)],uK⟩
@[irreducible] def OP:Be:=EK Ly.er.er
@[irreducible] def Rj:Cb:=Da Ly.er
theorem ug:D4 OP Rj:=by unfold OP Rj;exact FZ (f:=Ly.er) ⟨Fq,vn,UL,trivial⟩
def Vx:List HT:=[.one .frz (.int .i64)]
def VD:List (Ql×CT):=[(.frz,.sl (.one (.int .u8))),Aq,Aq]
def Va:QT:=.one (.agg [Aq,(.own,.sl (.one (.sl BA)))])
@[irreducible] def It(x:Cw):CZ×A6:=(shut λ x=>HS Ly Vx VD Va x).1 x
@[irreducible] def OG(x:Cw):Prop:=(shut λ x=>HH Ly Vx VD Va x).1 x
def gQ:CL:=IC Vx VD Va OG It
theorem uI:DN Rj gQ:=by unfold Rj;exact KH (f:=Ly) (hs:=Vx) (cs:=VD) (q:=Va) ⟨Fp,uG,Zi,trivial⟩ (by kernel_rfl) (λ x=>by kernel_rfl) (λ x h=>by unfold OG at h;exact Eq.mp (congrFun (shut _).2 x) h) (λ x=>by unfold It;exact(congrFun (shut _).2 x).symm)
def qa:DCode:=(.seq [2,1,0] (.region [oi 0 6 0]) (.seq [6] (.region [on 0 7 0,om 1 8 1,op 2 9 LC ON Zs [(.t 7),(.t 8)],om 3 10 2,op 4 11 Cd Dv E1 [(.t 9),(.t 10)],om 5 6 11]) .ret))
def H4:Fn:=⟨⟨3,12,0,true,[.tmp 6],qa⟩,[.one .frz (.sl (.one (.int .u8))),.one .frz (.int .i64),.one .frz (.int .i64)],.one (.one .own (.int .i64))⟩
theorem eK:H4.A:=AV ⟨gj,Fq,trivial⟩
def DZ:CB->Int:=H4.V
def Qw:CB->Prop:=H4.O
theorem eP:H4.B:=AX ⟨gv,Fp,trivial⟩ (by kernel_rfl) (λ x=>by kernel_rfl)
end
section
set_option maxRecDepth 100000
theorem vk (x):Jn x=((KA x.1).1,(KA x.1).2.1,(iAdd .i64 (KA x.1).2.2 (iMul .i64 7919 x.2))):=by unfold Jn;exact(congrFun (shut _).2 x).trans (by kernel_rfl)
theorem uF (x):MO x=(OY x.1):=by unfold MO;exact(congrFun (shut _).2 x).trans (by kernel_rfl)
def Ho(x:Cw):=As ((x.1.1,(As (x.1,56)).2),15)
def CE(x:Cw):=Cu ((x.1.1,(Ho x).2),2)
def Ei(x:Cw):=As ((x.1.1,(bSel (CE x).1 (CE x).2.1 (CE x).2.1),(bSel (CE x).1 (CE x).2.2 (CE x).2.2)),(iMax 1 (iSub .i64 x.2 1)))
def AU(x:Cw):=As ((x.1.1,(Ei x).2),16)
def Om(x:Cw):=As ((x.1.1,(AU x).2),4)
def Kb(x:Cw):=As ((x.1.1,(AU x).2),3)
def Ot(x:Cw):=As ((x.1.1,(AU x).2),(iMax 1 x.2))
theorem vh (x):Cn x=(bSel (bAnd (bNot (iEq (AU x).1 0)) (bAnd (bNot (iEq (AU x).1 1)) (bAnd (bNot (bOr (iEq (AU x).1 2) (iEq (AU x).1 3))) (bAnd (bNot (iEq (AU x).1 4)) (bAnd (bNot (iEq (AU x).1 5)) (bAnd (bNot (iEq (AU x).1 6)) (bAnd (bNot (iEq (AU x).1 7)) (bOr (bNot (bOr (iEq (AU x).1 8) (bOr (iEq (AU x).1 9) (iEq (AU x).1 10)))) (bNot (iGt x.2 1)))))))))) ((2,(iAdd .i64 1 (As (x.1,56)).1),0,0),(bSel (bOr (iEq (AU x).1 8) (bOr (iEq (AU x).1 9) (iEq (AU x).1 10))) (AU x).2.1 (AU x).2.1),(bSel (bOr (iEq (AU x).1 8) (bOr (iEq (AU x).1 9) (iEq (AU x).1 10))) (AU x).2.2 (AU x).2.2)) (bSel (iEq (AU x).1 0) ((2,(iAdd .i64 1 (As (x.1,56)).1),(bSel (CE x).1 2 (iAdd .i64 1 (Ho x).1)),0),(AU x).2) (bSel (iEq (AU x).1 1) ((2,0,(bSel (CE x).1 2 (iAdd .i64 1 (Ho x).1)),0),(AU x).2) (bSel (bOr (iEq (AU x).1 2) (iEq (AU x).1 3)) ((6,(iAdd .i64 1 (As (x.1,56)).1),(bSel (CE x).1 2 (iAdd .i64 1 (Ho x).1)),0),(AU x).2) (bSel (iEq (AU x).1 4) ((8,0,(bSel (CE x).1 2 (iAdd .i64 1 (Ho x).1)),0),(AU x).2) (bSel (iEq (AU x).1 5) ((9,0,0,(Om x).1),(Om x).2) (bSel (iEq (AU x).1 6) ((10,0,0,0),(AU x).2) (bSel (iEq (AU x).1 7) ((5,0,0,(Ot x).1),(Ot x).2) ((lGet [(3,0,0,(iAdd .i64 1 (Ei x).1)),(4,0,0,(iAdd .i64 1 (Ei x).1)),(7,(iAdd .i64 1 (As (x.1,56)).1),0,(iAdd .i64 1 (Ei x).1))] (iNat (Kb x).1) (0,0,0,0)),(Kb x).2))))))))):=by unfold Cn;exact(congrFun (shut _).2 x).trans (by kernel_rfl)
theorem ue (x):OL x=((D0 (x.1,56))/\((D0 ((x.1.1,(As (x.1,56)).2),15))/\((Kr ((x.1.1,(Ho x).2),2))/\((D0 ((x.1.1,(bSel (CE x).1 (CE x).2.1 (CE x).2.1),(bSel (CE x).1 (CE x).2.2 (CE x).2.2)),(iMax 1 (iSub .i64 x.2 1))))/\((D0 ((x.1.1,(Ei x).2),16))/\(((iEq (AU x).1 0)=true->True)/\((iEq (AU x).1 0)=false->(((iEq (AU x).1 1)=true->True)/\((iEq (AU x).1 1)=false->(((bOr (iEq (AU x).1 2) (iEq (AU x).1 3))=true->True)/\((bOr (iEq (AU x).1 2) (iEq (AU x).1 3))=false->(((iEq (AU x).1 4)=true->True)/\((iEq (AU x).1 4)=false->(((iEq (AU x).1 5)=true->(D0 ((x.1.1,(AU x).2),4)))/\((iEq (AU x).1 5)=false->(((iEq (AU x).1 6)=true->True)/\((iEq (AU x).1 6)=false->(((iEq (AU x).1 7)=true->(D0 ((x.1.1,(AU x).2),(iMax 1 x.2))))/\((iEq (AU x).1 7)=false->(((bOr (iEq (AU x).1 8) (bOr (iEq (AU x).1 9) (iEq (AU x).1 10)))=true->(((iGt x.2 1)=true->((D0 ((x.1.1,(AU x).2),3))/\((((0:Int)<=(Kb x).1)/\((Kb x).1<(((List.length [(3,0,0,(iAdd .i64 1 (Ei x).1)),(4,0,0,(iAdd .i64 1 (Ei x).1)),(7,(iAdd .i64 1 (As (x.1,56)).1),0,(iAdd .i64 1 (Ei x).1))]):Int))))/\((iNat (Kb x).1)<(List.length [(3,0,0,(iAdd .i64 1 (Ei x).1)),(4,0,0,(iAdd .i64 1 (Ei x).1)),(7,(iAdd .i64 1 (As (x.1,56)).1),0,(iAdd .i64 1 (Ei x).1))])))))/\((iGt x.2 1)=false->True)))/\((bOr (iEq (AU x).1 8) (bOr (iEq (AU x).1 9) (iEq (AU x).1 10)))=false->True))))))))))))))))))))):=by unfold OL;exact(congrFun (shut _).2 x).trans (by kernel_rfl)
def MJ(x:Cw)(x0:NG):Bool:=(iLt x0.1 (iAdd .i64 1 (As (x.1,4)).1))
def Ie(x:Cw)(x1:Hc×CS):Bool:=(iLt x1.2.1 x.2)
def Jf(x:Cw)(x0:NG)(x1:Hc×CS):(Hc×CS):=((lApp x1.1 [((bSel (bAnd (iGt x0.1 0) (Cu ((x.1.1,(Cn ((x.1.1,x1.2.2),(iAdd .i64 1 (As (x.1,4)).1))).2),3)).1) 1 (Cn ((x.1.1,x1.2.2),(iAdd .i64 1 (As (x.1,4)).1))).1.1),(bSel (bAnd (iGt x0.1 0) (Cu ((x.1.1,(Cn ((x.1.1,x1.2.2),(iAdd .i64 1 (As (x.1,4)).1))).2),3)).1) 0 (Cn ((x.1.1,x1.2.2),(iAdd .i64 1 (As (x.1,4)).1))).1.2.1),(bSel (bAnd (iGt x0.1 0) (Cu ((x.1.1,(Cn ((x.1.1,x1.2.2),(iAdd .i64 1 (As (x.1,4)).1))).2),3)).1) 0 (Cn ((x.1.1,x1.2.2),(iAdd .i64 1 (As (x.1,4)).1))).1.2.2.1),(bSel (bAnd (iGt x0.1 0) (Cu ((x.1.1,(Cn ((x.1.1,x1.2.2),(iAdd .i64 1 (As (x.1,4)).1))).2),3)).1) 0 (Cn ((x.1.1,x1.2.2),(iAdd .i64 1 (As (x.1,4)).1))).1.2.2.2))]),(iAdd .i64 x1.2.1 1),(bSel (bAnd (iGt x0.1 0) (Cu ((x.1.1,(Cn ((x.1.1,x1.2.2),(iAdd .i64 1 (As (x.1,4)).1))).2),3)).1) (bSel (iGt x0.1 0) (Cu ((x.1.1,(Cn ((x.1.1,x1.2.2),(iAdd .i64 1 (As (x.1,4)).1))).2),3)).2.1 (Cn ((x.1.1,x1.2.2),(iAdd .i64 1 (As (x.1,4)).1))).2.1) (bSel (iGt x0.1 0) (Cu ((x.1.1,(Cn ((x.1.1,x1.2.2),(iAdd .i64 1 (As (x.1,4)).1))).2),3)).2.1 (Cn ((x.1.1,x1.2.2),(iAdd .i64 1 (As (x.1,4)).1))).2.1)),(bSel (bAnd (iGt x0.1 0) (Cu ((x.1.1,(Cn ((x.1.1,x1.2.2),(iAdd .i64 1 (As (x.1,4)).1))).2),3)).1) (bSel (iGt x0.1 0) (Cu ((x.1.1,(Cn ((x.1.1,x1.2.2),(iAdd .i64 1 (As (x.1,4)).1))).2),3)).2.2 (Cn ((x.1.1,x1.2.2),(iAdd .i64 1 (As (x.1,4)).1))).2.2) (bSel (iGt x0.1 0) (Cu ((x.1.1,(Cn ((x.1.1,x1.2.2),(iAdd .i64 1 (As (x.1,4)).1))).2),3)).2.2 (Cn ((x.1.1,x1.2.2),(iAdd .i64 1 (As (x.1,4)).1))).2.2)))
def Ou(x:Cw)(x0:NG):NG:=((iAdd .i64 x0.1 1),(lApp x0.2.1 [(Am (Ie x) (Jf x x0) ([],0,x0.2.2)).1]),(Am (Ie x) (Jf x x0) ([],0,x0.2.2)).2.2)
def T8(x:Cw)(x0:NG)(x1:Hc×CS):Prop:=(((iLt x1.2.1 x.2)=true->((OL ((x.1.1,x1.2.2),(iAdd .i64 1 (As (x.1,4)).1)))/\((((iGt x0.1 0)=true->(Kr ((x.1.1,(Cn ((x.1.1,x1.2.2),(iAdd .i64 1 (As (x.1,4)).1))).2),3)))/\((iGt x0.1 0)=false->True))/\(Av (((List.length x1.1)+(List.length [((bSel (bAnd (iGt x0.1 0) (Cu ((x.1.1,(Cn ((x.1.1,x1.2.2),(iAdd .i64 1 (As (x.1,4)).1))).2),3)).1) 1 (Cn ((x.1.1,x1.2.2),(iAdd .i64 1 (As (x.1,4)).1))).1.1),(bSel (bAnd (iGt x0.1 0) (Cu ((x.1.1,(Cn ((x.1.1,x1.2.2),(iAdd .i64 1 (As (x.1,4)).1))).2),3)).1) 0 (Cn ((x.1.1,x1.2.2),(iAdd .i64 1 (As (x.1,4)).1))).1.2.1),(bSel (bAnd (iGt x0.1 0) (Cu ((x.1.1,(Cn ((x.1.1,x1.2.2),(iAdd .i64 1 (As (x.1,4)).1))).2),3)).1) 0 (Cn ((x.1.1,x1.2.2),(iAdd .i64 1 (As (x.1,4)).1))).1.2.2.1),(bSel (bAnd (iGt x0.1 0) (Cu ((x.1.1,(Cn ((x.1.1,x1.2.2),(iAdd .i64 1 (As (x.1,4)).1))).2),3)).1) 0 (Cn ((x.1.1,x1.2.2),(iAdd .i64 1 (As (x.1,4)).1))).1.2.2.2))]))*4)))))/\((iLt x1.2.1 x.2)=false->True))
def YL(x:Cw)(x0:NG):Prop:=(((iLt x0.1 (iAdd .i64 1 (As (x.1,4)).1))=true->((LoopOk (Ie x) (Jf x x0) (T8 x x0) ([],0,x0.2.2))/\(Av (((List.length x0.2.1)+(List.length [(Am (Ie x) (Jf x x0) ([],0,x0.2.2)).1]))*1))))/\((iLt x0.1 (iAdd .i64 1 (As (x.1,4)).1))=false->True))
theorem u6 (x):It x=((x.2,(Am (MJ x) (Ou x) (0,[],(As (x.1,4)).2)).2.1),(Am (MJ x) (Ou x) (0,[],(As (x.1,4)).2)).2.2):=by unfold It;exact(congrFun (shut _).2 x).trans (by kernel_rfl)
theorem uC (x):OG x=((D0 (x.1,4))/\(LoopOk (MJ x) (Ou x) (YL x) (0,[],(As (x.1,4)).2))):=by unfold OG;exact(congrFun (shut _).2 x).trans (by kernel_rfl)
theorem pW (x):DZ x=(As ((Jn (x.1,x.2.1)),x.2.2)).1:=(H4.v x).trans (by kernel_rfl)
theorem pP (x):Qw x=((MO (x.1,x.2.1))/\(D0 ((Jn (x.1,x.2.1)),x.2.2))):=(H4.o x).trans (by kernel_rfl)
attribute [irreducible] DZ Qw
end
section
set_option maxRecDepth 8000
def uN:DCode:=(.seq [0] (.region [oa 0 2 (.mv (.c .nils))]) (.seq [3,0] (.region [⟨0,some 7,.a false (.litSlice 3 0 [] []) (some BD),none,[]⟩,om 1 3 7]) (.seq [3] (.seq [4,3,0] (.region [om 0 8 0,op 1 9 Cd Dv E1 [(.t 8),(.c (.int .i64 3))],om 2 4 9]) (.block 0 (.loop [0,3,4] 1 (.seq [4,3,0] (.seq [11,4,3,0] (.region [om 0 10 4,oa 1 11 (.bin .gtr (.t 10) AE)]) (.cond (.t 11) .skip (.exit 0))) (.seq [4,3,0] (.block 1 (.seq [5,4,3,0] (.region [om 0 14 0,op 1 15 Cd Dv E1 [(.t 14),(.c (.int .i64 56))],oa 2 16 (.bin .add Au (.t 15)),om 3 17 0,⟨4,some 18,.a false (.litSlice 1 4 [Ab,Ab,Ab,Ab] [(0,1,AE),(1,1,AE),(2,1,(.c (.int .i64 2))),(3,1,Au)]) (some (.one (.int .i64))),none,[]⟩,⟨5,some 19,.callp true On QM fj [(.t 17),(.t 18)],none,[]⟩,oa 6 20 (.build [Ab,Ab,Ab] [(1,1,(.t 16)),(2,1,(.t 19))]),oa 7 5 (.allocB 0 [Ab,Ab,Ab]),os 8 (.storeB 0 3 (.t 5) (.t 20))]) (.seq [5,4,3,0] (.seq [22,5,4,3,0] (.region [om 0 21 0,op 1 22 Hp Jm Vv [(.t 21),(.c (.int .i64 2))]]) (.cond (.t 22) (.seq [4,3,0] (.region [om 0 23 3,ob 1 24 (.loadB 0 (some 3) (.t 5)),⟨2,some 25,.a false (.litSlice 3 1 [Ab,Ab,Ab] [(0,3,(.t 24))]) (some BD),none,[]⟩,oa 3 26 (.app 3 (.t 23) (.t 25)),om 4 3 26]) (.exit 1)) .skip)) (.seq [5,4,3,0] (.region [oa 0 27 (.fieldA 0 (.t 5)),os 1 (.storeB 0 1 (.t 27) Au)]) (.seq [6,5,4,3,0] (.region [ob 0 28 (.loadB 0 (some 3) (.t 5)),oa 1 6 (.allocB 1 [Ab,Ab,Ab]),os 2 (.storeB 1 3 (.t 6) (.t 28))]) (.seq [6,5,4,3,0] (.region [oa 0 29 (.fieldA 0 (.t 6)),os 1 (.storeB 1 1 (.t 29) (.c (.int .i64 2)))]) (.region [ob 1 31 (.loadB 0 (some 3) (.t 5)),on 2 32 3,oa 3 33 (.len (.t 32)),om 0 30 3,oa 4 34 (.bin .sub (.c (.int .i64 60)) (.t 33)),oa 5 35 (.bin .sub (.t 34) (.c (.int .i64 10))),oa 6 36 (.build [Ab,Ab,Ab] [(1,1,(.t 35)),(2,1,(.c (.int .i64 8)))]),ob 7 37 (.loadB 1 (some 3) (.t 6)),⟨8,some 38,.a false (.litSlice 3 3 [Ab,Ab,Ab,Ab,Ab,Ab,Ab,Ab,Ab] [(0,3,(.t 31)),(3,3,(.t 36)),(6,3,(.t 37))]) (some BD),none,[]⟩,oa 9 39 (.app 3 (.t 30) (.t 38)),om 10 3 39]))))))) (.region [om 0 12 4,oa 1 13 (.bin .sub (.t 12) Au),om 2 4 13])))))) (.seq [2] (.region [om 0 40 3,om 1 2 40]) .ret))))
def Lx:DFun:=⟨1,41,2,false,[.tmp 2],uN⟩
@[irreducible] def OU:Be:=EK Lx.er.er
@[irreducible] def Rg:Cb:=Da Lx.er
theorem uz:D4 OU Rg:=by unfold OU Rg;exact FZ (f:=Lx.er) ⟨Fq,Fq,qf,UL,trivial⟩
def Vw:List HT:=[]
def Vu:List (Ql×CT):=[(.frz,.sl (.one (.int .u8))),Aq,Aq]
def Ve:QT:=.one (.one .own (.sl BD))
@[irreducible] def Jl(x:CB):CY×A6:=(shut λ x=>HS Lx Vw Vu Ve x).1 x
@[irreducible] def OH(x:CB):Prop:=(shut λ x=>HH Lx Vw Vu Ve x).1 x
def gT:CL:=IC Vw Vu Ve OH Jl
theorem tM:DN Rg gT:=by unfold Rg;exact KH (f:=Lx) (hs:=Vw) (cs:=Vu) (q:=Ve) ⟨Fp,Fp,qt,Zi,trivial⟩ (by kernel_rfl) (λ x=>by kernel_rfl) (λ x h=>by unfold OH at h;exact Eq.mp (congrFun (shut _).2 x) h) (λ x=>by unfold Jl;exact(congrFun (shut _).2 x).symm)
end
section
set_option maxRecDepth 100000
def QO(x0:CY×CS):Bool:=(iGt x0.2.1 0)
def QG(x:CB)(x0:CY×CS):(CY×CS):=((bSel (Cu ((x.1,(Di ((x.1,(As ((x.1,x0.2.2),56)).2),[0,0,2,1])).2),2)).1 (lApp x0.1 [(0,(iAdd .i64 1 (As ((x.1,x0.2.2),56)).1),(Di ((x.1,(As ((x.1,x0.2.2),56)).2),[0,0,2,1])).1)]) (lApp x0.1 [(1,(iAdd .i64 1 (As ((x.1,x0.2.2),56)).1),(Di ((x.1,(As ((x.1,x0.2.2),56)).2),[0,0,2,1])).1),(0,(iSub .i64 (iSub .i64 60 (lLen x0.1)) 10),8),(2,(iAdd .i64 1 (As ((x.1,x0.2.2),56)).1),(Di ((x.1,(As ((x.1,x0.2.2),56)).2),[0,0,2,1])).1)])),(iSub .i64 x0.2.1 1),(bSel (Cu ((x.1,(Di ((x.1,(As ((x.1,x0.2.2),56)).2),[0,0,2,1])).2),2)).1 (Cu ((x.1,(Di ((x.1,(As ((x.1,x0.2.2),56)).2),[0,0,2,1])).2),2)).2.1 (Cu ((x.1,(Di ((x.1,(As ((x.1,x0.2.2),56)).2),[0,0,2,1])).2),2)).2.1),(bSel (Cu ((x.1,(Di ((x.1,(As ((x.1,x0.2.2),56)).2),[0,0,2,1])).2),2)).1 (Cu ((x.1,(Di ((x.1,(As ((x.1,x0.2.2),56)).2),[0,0,2,1])).2),2)).2.2 (Cu ((x.1,(Di ((x.1,(As ((x.1,x0.2.2),56)).2),[0,0,2,1])).2),2)).2.2))
def YM(x:CB)(x0:CY×CS):Prop:=(((iGt x0.2.1 0)=true->((D0 ((x.1,x0.2.2),56))/\((Oi ((x.1,(As ((x.1,x0.2.2),56)).2),[0,0,2,1]))/\((Kr ((x.1,(Di ((x.1,(As ((x.1,x0.2.2),56)).2),[0,0,2,1])).2),2))/\(((Cu ((x.1,(Di ((x.1,(As ((x.1,x0.2.2),56)).2),[0,0,2,1])).2),2)).1=true->(Av (((List.length x0.1)+(List.length [(0,(iAdd .i64 1 (As ((x.1,x0.2.2),56)).1),(Di ((x.1,(As ((x.1,x0.2.2),56)).2),[0,0,2,1])).1)]))*3)))/\((Cu ((x.1,(Di ((x.1,(As ((x.1,x0.2.2),56)).2),[0,0,2,1])).2),2)).1=false->(Av (((List.length x0.1)+(List.length [(1,(iAdd .i64 1 (As ((x.1,x0.2.2),56)).1),(Di ((x.1,(As ((x.1,x0.2.2),56)).2),[0,0,2,1])).1),(0,(iSub .i64 (iSub .i64 60 (lLen x0.1)) 10),8),(2,(iAdd .i64 1 (As ((x.1,x0.2.2),56)).1),(Di ((x.1,(As ((x.1,x0.2.2),56)).2),[0,0,2,1])).1)]))*3))))))))/\((iGt x0.2.1 0)=false->True))
theorem u7 (x):Jl x=((Am QO (QG x) ([],(As (x,3)))).1,(Am QO (QG x) ([],(As (x,3)))).2.2):=by unfold Jl;exact(congrFun (shut _).2 x).trans (by kernel_rfl)
theorem uQ (x):OH x=((D0 (x,3))/\(LoopOk QO (QG x) (YM x) ([],(As (x,3))))):=by unfold OH;exact(congrFun (shut _).2 x).trans (by kernel_rfl)
end
end
end Go.Ag
