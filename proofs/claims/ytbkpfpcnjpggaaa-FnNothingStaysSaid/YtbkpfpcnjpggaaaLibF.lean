/- Part 6 of what FnNothingStays needs. No conditions. -/
import Derived.Sort.Row
import Derived.Sort.Grow
import Derived.Test.YtbkpfpcnjpggaaaLibE
namespace Go.Ag
set_option linter.unusedSimpArgs false
set_option linter.unusedVariables false
noncomputable section
section
set_option maxRecDepth 8000
def sN:DCode:=(.seq [3,0] (.region [oa 0 3 (.boxB 0 3 (.t 1)),oi 1 4 0]) (.seq [] (.seq [5,3,0] (.region [oi 0 5 0]) (.block 0 (.loop [0,3,5] 1 (.seq [5,3,0] (.seq [9,5,3,0] (.region [om 0 6 5,on 1 7 0,oa 2 8 (.len (.t 7)),oa 3 9 (.bin .lss (.t 6) (.t 8))]) (.cond (.t 9) .skip (.exit 0))) (.seq [5,3,0] (.block 1 (.seq [31,5,3,0] (.region [on 0 12 0,om 1 13 5,xA 2 14 (.indexA 5 (.t 12) (.t 13)) (rg 2),xA 3 15 (.fieldA 1 (.t 14)) (rg 3),xA 4 16 (.fieldA 1 (.t 15)) (rg 4),xA 5 17 (.loadH none (.t 16)) (rg 5),oa 6 18 (.fieldA 1 (.t 3)),xA 7 19 (.loadB 0 none (.t 18)) [6],xA 8 20 (.bin .eql (.t 17) (.t 19)) (rg 8),xA 9 21 (.mv (.t 20)) (rg 9),⟨10,some 22,.a true (.mv (.t 0)) none,(some (21,true)),[0,1,2,3,4,5,6,7,8,9]⟩,⟨11,some 23,.a false (.mv (.t 5)) none,(some (21,true)),[0,1,2,3,4,5,6,7,8,9]⟩,⟨12,some 24,.a false (.indexA 5 (.t 22) (.t 23)) none,(some (21,true)),[0,1,2,3,4,5,6,7,8,9,10,11]⟩,⟨13,some 25,.a false (.fieldA 1 (.t 24)) none,(some (21,true)),[0,1,2,3,4,5,6,7,8,9,10,11,12]⟩,⟨14,some 26,.a false (.fieldA 2 (.t 25)) none,(some (21,true)),[0,1,2,3,4,5,6,7,8,9,10,11,12,13]⟩,⟨15,some 27,.a false (.loadH none (.t 26)) none,(some (21,true)),[0,1,2,3,4,5,6,7,8,9,10,11,12,13,14]⟩,⟨16,some 28,.a false (.fieldA 2 (.t 3)) none,(some (21,true)),[0,1,2,3,4,5,6,7,8,9]⟩,⟨17,some 29,.a false (.loadB 0 none (.t 28)) none,(some (21,true)),[0,1,2,3,4,5,6,7,8,9,16]⟩,⟨18,some 30,.a false (.bin .eql (.t 27) (.t 29)) none,(some (21,true)),[0,1,2,3,4,5,6,7,8,9,10,11,12,13,14,15,16,17]⟩,xA 19 31 (.pick (.t 21) (.t 30) Ar) (rg 19)]) (.cond (.t 31) (.seq [4] (.region [om 0 32 5,om 1 4 32]) .ret) .skip))) (.region [om 0 10 5,oa 1 11 (.bin .add (.t 10) Av),om 2 5 11])))))) (.seq [4] (.region [oi 0 4 (-1)]) .ret)))
def Ia:Fn:=⟨⟨2,33,1,true,[.tmp 4],sN⟩,[.one .frz (.sl BE),.agg [AD,AD,AD]],.one (.one .own (.int .i64))⟩
theorem eH:Ia.A:=A8 trivial
def B5:mx->Int:=Ia.V
def Mw:mx->Prop:=Ia.O
theorem eK:Ia.B:=Ba trivial (by kernel_rfl) (λ x=>by kernel_rfl)
def pL:DCode:=(.seq [2,1] (.region [oa 0 1 (.boxB 0 3 (.t 0)),oa 1 2 (.allocB 1 [Ab,Ab,Ab,Ab])]) (.seq [2] (.region [oa 0 3 (.fieldA 1 (.t 1)),ob 1 4 (.loadB 0 none (.t 3)),oa 2 5 (.fieldA 2 (.t 1)),ob 3 6 (.loadB 0 none (.t 5)),oa 4 7 (.build [Ab,Ab,Ab,Ab] [(0,1,(.c (.int .i64 2))),(1,1,(.t 4)),(2,1,(.t 6))]),os 5 (.storeB 1 4 (.t 2) (.t 7))]) .ret))
def FK:Fn:=⟨⟨1,8,2,true,[.cell 2 (some 4)],pL⟩,[.agg [AD,AD,AD]],.one (.agg [Au,Au,Au,Au])⟩
theorem X9:FK.A:=A8 trivial
def AX:CR->Int×Int×Int×Int:=FK.V
def Qj:CR->Prop:=FK.O
theorem X7:FK.B:=Ba trivial (by kernel_rfl) (λ x=>by kernel_rfl)
def oN:DCode:=(.seq [1,0] (.region [oa 0 4 (.mv (.c .nils))]) (.seq [4] (.region [on 1 6 0,om 2 7 1,xA 3 8 (.slice 5 (.t 6) none (some (.t 7))) [1,2],on 5 10 0,om 6 11 1,xA 7 12 (.bin .add (.t 11) Av) [6],xA 8 13 (.slice 5 (.t 10) (some (.t 12)) none) [5,6,7],⟨0,some 5,.a false (.litSlice 5 0 [] []) (some BE),none,[]⟩,xA 4 9 (.app 5 (.t 5) (.t 8)) (rg 4),xA 9 14 (.app 5 (.t 9) (.t 13)) (rg 9),xA 10 4 (.mv (.t 14)) (rg 10)]) .ret))
def GC:Fn:=⟨⟨2,15,0,false,[.tmp 4],oN⟩,[.one .frz (.sl BE),.one .frz (.int .i64)],.one (.one .own (.sl BE))⟩
theorem XX:GC.A:=A8 trivial
def Dk:G8->List E0:=GC.V
def Mm:G8->Prop:=GC.O
theorem XT:GC.B:=Ba trivial (by kernel_rfl) (λ x=>by kernel_rfl)
def qL:DCode:=(.seq [0] (.region [oa 0 2 (.mv Ar)]) (.seq [3,0] (.region [⟨0,some 7,.a false (.litSlice 5 0 [] []) (some BE),none,[]⟩,om 1 3 7]) (.seq [3,0] (.seq [4,3,0] (.region [oi 0 4 0]) (.block 0 (.loop [0,3,4] 1 (.seq [4,3,0] (.seq [11,4,3,0] (.region [om 0 8 4,on 1 9 0,oa 2 10 (.len (.t 9)),oa 3 11 (.bin .lss (.t 8) (.t 10))]) (.cond (.t 11) .skip (.exit 0))) (.seq [4,3,0] (.block 1 (.seq [5,4,3,0] (.region [on 0 14 0,om 1 15 4,oa 2 16 (.indexA 3 (.t 14) (.t 15)),ob 3 17 (.loadH (some 3) (.t 16)),oa 4 5 (.allocB 0 [Ab,Ab,Ab]),os 5 (.storeB 0 3 (.t 5) (.t 17))]) (.seq [6,5,4,3,0] (.region [on 0 18 3,oa 1 19 (.loadB 0 (some 3) (.t 5)),oF 2 20 Ia [(.t 18),(.t 19)],om 3 6 20]) (.seq [6,5,4,3,0] (.seq [38,6,5,4,3,0] (.region [oa 0 21 (.fieldA 0 (.t 5)),oa 1 22 (.loadB 0 none (.t 21)),oF 2 23 BF [(.t 22),AE,(.c (.int .i64 2))],oa 3 24 (.un .not (.t 23)),om 4 25 24,og 5 26 (.loadB 0 (some 3) (.t 5)) 25 false,⟨6,some 27,.call false FK.S FK.P FK.D [(.t 26)],(some (25,false)),[]⟩,⟨7,some 28,.call false Ek.S Ek.P Ek.D [(.t 27)],(some (25,false)),[]⟩,og 8 29 (.un .not (.t 28)) 25 false,oa 9 30 (.pick (.t 25) A7 (.t 29)),om 10 31 30,og 11 32 (.fieldA 0 (.t 5)) 31 false,og 12 33 (.loadB 0 none (.t 32)) 31 false,og 13 34 (.bin .eql (.t 33) (.c (.int .i64 2))) 31 false,og 14 35 (.mv (.t 6)) 31 false,og 15 36 (.bin .geq (.t 35) AE) 31 false,og 16 37 (.eqB true (.t 34) (.t 36)) 31 false,oa 17 38 (.pick (.t 31) A7 (.t 37))]) (.cond (.t 38) (.seq [2] (.region [oa 0 2 (.mv Ar)]) .ret) .skip)) (.seq [40,6,5,4,3,0] (.region [oa 0 39 (.fieldA 0 (.t 5)),oa 1 40 (.loadB 0 none (.t 39))]) (.block 2 (.seq [41,40,6,5,4,3,0] (.region [oa 0 42 (.bin .eql (.t 40) Av),om 1 41 42]) (.cond (.t 41) (.region [om 0 43 3,oa 1 44 (.loadB 0 (some 3) (.t 5)),oF 2 45 FK [(.t 44)],oa 3 46 (.build [Ab,Ab,Ab,Ab,Ab] [(1,4,(.t 45))]),⟨4,some 47,.a false (.litSlice 5 1 [Ab,Ab,Ab,Ab,Ab] [(0,5,(.t 46))]) (some BE),none,[]⟩,oa 5 48 (.app 5 (.t 43) (.t 47)),om 6 3 48]) (.seq [49,6,4,3,0] (.region [oa 0 50 (.bin .eql (.t 40) (.c (.int .i64 2))),om 1 49 50]) (.cond (.t 49) (.region [on 0 51 3,om 1 52 6,oF 2 53 GC [(.t 51),(.t 52)],om 3 3 53]) .skip)))))))))) (.region [om 0 12 4,oa 1 13 (.bin .add (.t 12) Av),om 2 4 13])))))) (.seq [2] (.region [on 0 54 0,oa 1 55 (.len (.t 54)),oa 2 56 (.bin .leq (.t 55) (.c (.int .i64 8))),om 3 57 56,⟨4,some 58,.a true (.mv (.t 3)) none,(some (57,true)),[]⟩,og 5 59 (.len (.t 58)) 57 true,og 6 60 (.bin .eql (.t 59) AE) 57 true,oa 7 61 (.pick (.t 57) (.t 60) Ar),om 8 2 61]) .ret))))
def GH:Fn:=⟨⟨1,62,1,true,[.tmp 2],qL⟩,[.one .frz (.sl BV)],.one (.one .own (.bool))⟩
theorem dT:GH.A:=A8 ⟨eH,F6,X9,TN,X9,XX,trivial⟩
def F5:CU->Bool:=GH.V
def N3:CU->Prop:=GH.O
theorem dW:GH.B:=Ba ⟨eK,F8,X7,Tw,X7,XT,trivial⟩ (by kernel_rfl) (λ x=>by kernel_rfl)
def sO:DCode:=(.seq [3,0] (.region [oa 0 3 (.boxB 0 2 (.t 1)),oi 1 4 0]) (.seq [] (.seq [9,8,7,3] (.region [on 0 7 0,oa 1 8 (.len (.t 7)),oi 2 9 0]) (.block 0 (.loop [3,7,8,9] 1 (.seq [10,9,8,7,3] (.region [oa 0 10 (.bin .lss (.t 9) (.t 8))]) (.seq [9,8,7,3] (.cond (.t 10) .skip (.exit 0)) (.seq [9,8,7,3] (.block 1 (.seq [9,8,7,6,5,3] (.region [om 0 11 9,oa 1 12 (.indexA 2 (.t 7) (.t 9)),ob 2 13 (.loadH (some 2) (.t 12)),oa 3 6 (.allocB 1 [Ab,Ab]),om 4 5 11,os 5 (.storeB 1 2 (.t 6) (.t 13))]) (.seq [16,9,8,7,5,3] (.region [oa 0 14 (.loadB 1 (some 2) (.t 6)),oa 1 15 (.loadB 0 (some 2) (.t 3)),oa 2 16 (.eqA 2 false (.t 14) (.t 15))]) (.cond (.t 16) (.seq [4] (.region [om 0 17 5,om 1 4 17]) .ret) .skip)))) (.region [oa 0 18 (.bin .add (.t 9) Av),om 1 9 18]))))))) (.seq [4] (.region [oi 0 4 (-1)]) .ret)))
def Kj:Fn:=⟨⟨2,19,2,true,[.tmp 4],sO⟩,[.one .frz (.sl (.cons (.int .i64) (.one (.int .i64)))),.agg [AD,AD]],.one (.one .own (.int .i64))⟩
theorem sw:Kj.A:=A8 trivial
def Bf:mD->Int:=Kj.V
def Og:mD->Prop:=Kj.O
theorem sd:Kj.B:=Ba trivial (by kernel_rfl) (λ x=>by kernel_rfl)
def qx:DCode:=(.seq [0] (.region [oa 0 2 (.mv Ar)]) (.seq [0] (.seq [10,0] (.region [on 0 8 0,oa 1 9 (.len (.t 8)),oa 2 10 (.bin .gtr (.t 9) (.c (.int .i64 8)))]) (.cond (.t 10) (.seq [2] (.region [oa 0 2 (.mv Ar)]) .ret) .skip)) (.seq [3,0] (.region [⟨0,some 3,.aw [(0,2)] false (.mv (.c .nils)) none,none,[]⟩]) (.seq [3] (.seq [13,12,11,3] (.region [on 0 11 0,oa 1 12 (.len (.t 11)),oi 2 13 0]) (.block 0 (.loop [3,11,12,13] 1 (.seq [14,13,12,11,3] (.region [oa 0 14 (.bin .lss (.t 13) (.t 12))]) (.seq [13,12,11,3] (.cond (.t 14) .skip (.exit 0)) (.seq [13,12,11,3] (.block 1 (.seq [13,12,11,5,3] (.region [oa 0 15 (.indexA 3 (.t 11) (.t 13)),ob 1 16 (.loadH (some 3) (.t 15)),oa 2 5 (.allocB 0 [Ab,Ab,Ab]),os 3 (.storeB 0 3 (.t 5) (.t 16))]) (.seq [13,12,11,6,5,3] (.region [oa 0 17 (.fieldA 1 (.t 5)),ob 1 18 (.loadB 0 none (.t 17)),oa 2 19 (.fieldA 2 (.t 5)),ob 3 20 (.loadB 0 none (.t 19)),oa 4 21 (.build [Ab,Ab] [(0,1,(.t 18)),(1,1,(.t 20))]),oa 5 6 (.allocB 1 [Ab,Ab]),os 6 (.storeB 1 2 (.t 6) (.t 21))]) (.seq [13,12,11,7,6,5,3] (.region [on 0 22 3,oa 1 23 (.loadB 1 (some 2) (.t 6)),oF 2 24 Kj [(.t 22),(.t 23)],om 3 7 24]) (.seq [13,12,11,7,6,5,3] (.seq [31,13,12,11,7,6,5,3] (.region [oa 0 25 (.fieldA 1 (.t 5)),ob 1 26 (.loadB 0 none (.t 25)),oa 2 27 (.fieldA 2 (.t 5)),ob 3 28 (.loadB 0 none (.t 27)),oa 4 29 (.build [Ab,Ab,Ab,Ab] [(0,1,(.c (.int .i64 2))),(1,1,(.t 26)),(2,1,(.t 28))]),oF 5 30 FL [(.t 29)],oa 6 31 (.un .not (.t 30))]) (.cond (.t 31) (.seq [2] (.region [oa 0 2 (.mv Ar)]) .ret) .skip)) (.seq [33,13,12,11,7,6,5,3] (.region [oa 0 32 (.fieldA 0 (.t 5)),oa 1 33 (.loadB 0 none (.t 32))]) (.block 2 (.seq [34,33,13,12,11,7,6,5,3] (.seq [34,33,13,12,11,7,6,5,3] (.region [oa 0 35 (.bin .eql (.t 33) AE),om 1 34 35]) (.cond (.t 34) .skip (.region [oa 0 36 (.bin .eql (.t 33) Av),om 1 34 36]))) (.cond (.t 34) (.seq [13,12,11,6,5,3] (.seq [38,13,12,11,6,5,3] (.region [om 0 37 7,oa 1 38 (.bin .geq (.t 37) AE)]) (.cond (.t 38) (.seq [2] (.region [oa 0 2 (.mv Ar)]) .ret) .skip)) (.seq [41,13,12,11,6,3] (.region [oa 0 39 (.fieldA 0 (.t 5)),oa 1 40 (.loadB 0 none (.t 39)),oa 2 41 (.bin .eql (.t 40) Av)]) (.cond (.t 41) (.region [om 0 42 3,ob 1 43 (.loadB 1 (some 2) (.t 6)),⟨2,some 44,.a false (.litSlice 2 1 [Ab,Ab] [(0,2,(.t 43))]) (some (.cons (.int .i64) (.one (.int .i64)))),none,[]⟩,⟨3,some 45,.aw [(0,2)] false (.app 2 (.t 42) (.t 44)) none,none,[]⟩,⟨4,some 3,.aw [(0,2)] false (.mv (.t 45)) none,none,[]⟩]) .skip))) (.seq [46,13,12,11,7,3] (.region [oa 0 47 (.bin .eql (.t 33) (.c (.int .i64 2))),om 1 46 47]) (.cond (.t 46) (.seq [13,12,11,7,3] (.seq [49,13,12,11,7,3] (.region [om 0 48 7,oa 1 49 (.bin .lss (.t 48) AE)]) (.cond (.t 49) (.seq [2] (.region [oa 0 2 (.mv Ar)]) .ret) .skip)) (.region [on 0 50 3,om 1 51 7,xA 2 52 (.slice 2 (.t 50) none (some (.t 51))) (rg 2),on 3 53 3,om 4 54 7,xA 5 55 (.bin .add (.t 54) Av) [4],xA 6 56 (.slice 2 (.t 53) (some (.t 55)) none) [3,4,5],⟨7,some 57,.aw [(0,2)] false (.app 2 (.t 52) (.t 56)) none,none,[0,1,2,3,4,5,6]⟩,⟨8,some 3,.aw [(0,2)] false (.mv (.t 57)) none,none,[0,1,2,3,4,5,6,7]⟩])) (.seq [2] (.region [oa 0 2 (.mv Ar)]) .ret)))))))))))) (.region [oa 0 58 (.bin .add (.t 13) Av),om 1 13 58]))))))) (.seq [2] (.region [on 0 59 3,oa 1 60 (.len (.t 59)),oa 2 61 (.bin .eql (.t 60) AE),om 3 2 61]) .ret)))))
def Kg:Fn:=⟨⟨1,62,2,true,[.tmp 2],qx⟩,[.one .frz (.sl BV)],.one (.one .own (.bool))⟩
theorem qT:Kg.A:=A8 ⟨sw,X4,trivial⟩
def H6:CU->Bool:=Kg.V
def N1:CU->Prop:=Kg.O
theorem qq:Kg.B:=Ba ⟨sd,Yf,trivial⟩ (by kernel_rfl) (λ x=>by kernel_rfl)
end
section
set_option maxRecDepth 100000
theorem sq (x):B5 x=(bSel (iLt (Al (fun(x0:Int)=>(bAnd (iLt x0 (lLen x.1)) (bNot (bAnd (iEq (lGet x.1 (iNat x0) (0,0,0,0,0)).2.2.1 x.2.2.1) (iEq (lGet x.1 (iNat x0) (0,0,0,0,0)).2.2.2.1 x.2.2.2))))) (fun(x0:Int)=>(iAdd .i64 x0 1)) 0) (lLen x.1)) (Al (fun(x0:Int)=>(bAnd (iLt x0 (lLen x.1)) (bNot (bAnd (iEq (lGet x.1 (iNat x0) (0,0,0,0,0)).2.2.1 x.2.2.1) (iEq (lGet x.1 (iNat x0) (0,0,0,0,0)).2.2.2.1 x.2.2.2))))) (fun(x0:Int)=>(iAdd .i64 x0 1)) 0) (-1)):=(Ia.v x).trans (by kernel_rfl)
theorem se (x):Mw x=(LoopOk (fun(x0:Int)=>(bAnd (iLt x0 (lLen x.1)) (bNot (bAnd (iEq (lGet x.1 (iNat x0) (0,0,0,0,0)).2.2.1 x.2.2.1) (iEq (lGet x.1 (iNat x0) (0,0,0,0,0)).2.2.2.1 x.2.2.2))))) (fun(x0:Int)=>(iAdd .i64 x0 1)) (fun(x0:Int)=>(((iLt x0 (lLen x.1))=true->((((0:Int)<=x0)/\(x0<(((List.length x.1):Int))))/\(((iNat x0)<(List.length x.1))/\(((iEq (lGet x.1 (iNat x0) (0,0,0,0,0)).2.2.1 x.2.2.1)=true->((((0:Int)<=x0)/\(x0<(((List.length x.1):Int))))/\((iNat x0)<(List.length x.1))))/\((iEq (lGet x.1 (iNat x0) (0,0,0,0,0)).2.2.1 x.2.2.1)=false->True)))))/\((iLt x0 (lLen x.1))=false->True))) 0):=(Ia.o x).trans (by kernel_rfl)
theorem Mp (x):AX x=(2,x.2.1,x.2.2,0):=(FK.v x).trans (by kernel_rfl)
theorem dH (x):Qj x=True:=(FK.o x).trans (by kernel_rfl)
theorem Qa (x):Dk x=(lApp (lApp [] (lSub x.1 0 (iNat x.2))) (lSub x.1 (iNat (iAdd .i64 x.2 1)) (lN x.1))):=(GC.v x).trans (by kernel_rfl)
theorem oE (x):Mm x=((((0:Int)<=x.2)/\((0<=(iNat x.2))/\(((iNat x.2)<=(List.length x.1))/\(0<(List.length x.1)))))/\((((0:Int)<=(iAdd .i64 x.2 1))/\(((iNat (iAdd .i64 x.2 1))<=(lN x.1))/\(((lN x.1)<=(List.length x.1))/\(0<(List.length x.1)))))/\((As (((List.length ([]:List E0))+(List.length (lSub x.1 0 (iNat x.2))))*5))/\(As (((List.length (lApp [] (lSub x.1 0 (iNat x.2))))+(List.length (lSub x.1 (iNat (iAdd .i64 x.2 1)) (lN x.1))))*5))))):=(GC.o x).trans (by kernel_rfl)
theorem Yt (x):F5 x=(bAnd (bNot (iLt (Al (fun(x0:G8)=>(bAnd (iLt x0.2 (lLen x)) (bNot (bOr (bNot (BD ((lGet x (iNat x0.2) (0,0,0)).1,0,2))) (bOr (bNot (Eb ((AX ((lGet x (iNat x0.2) (0,0,0)).1,(lGet x (iNat x0.2) (0,0,0)).2.1,(lGet x (iNat x0.2) (0,0,0)).2.2)).1,(AX ((lGet x (iNat x0.2) (0,0,0)).1,(lGet x (iNat x0.2) (0,0,0)).2.1,(lGet x (iNat x0.2) (0,0,0)).2.2)).2.1,(AX ((lGet x (iNat x0.2) (0,0,0)).1,(lGet x (iNat x0.2) (0,0,0)).2.1,(lGet x (iNat x0.2) (0,0,0)).2.2)).2.2.1,(AX ((lGet x (iNat x0.2) (0,0,0)).1,(lGet x (iNat x0.2) (0,0,0)).2.1,(lGet x (iNat x0.2) (0,0,0)).2.2)).2.2.2))) (bNot (bIff (iEq (lGet x (iNat x0.2) (0,0,0)).1 2) (iGe (B5 (x0.1,(lGet x (iNat x0.2) (0,0,0)).1,(lGet x (iNat x0.2) (0,0,0)).2.1,(lGet x (iNat x0.2) (0,0,0)).2.2)) 0)))))))) (fun(x0:G8)=>((bSel (iEq (lGet x (iNat x0.2) (0,0,0)).1 1) (lApp x0.1 [(0,(AX ((lGet x (iNat x0.2) (0,0,0)).1,(lGet x (iNat x0.2) (0,0,0)).2.1,(lGet x (iNat x0.2) (0,0,0)).2.2)).1,(AX ((lGet x (iNat x0.2) (0,0,0)).1,(lGet x (iNat x0.2) (0,0,0)).2.1,(lGet x (iNat x0.2) (0,0,0)).2.2)).2.1,(AX ((lGet x (iNat x0.2) (0,0,0)).1,(lGet x (iNat x0.2) (0,0,0)).2.1,(lGet x (iNat x0.2) (0,0,0)).2.2)).2.2.1,(AX ((lGet x (iNat x0.2) (0,0,0)).1,(lGet x (iNat x0.2) (0,0,0)).2.1,(lGet x (iNat x0.2) (0,0,0)).2.2)).2.2.2)]) (bSel (iEq (lGet x (iNat x0.2) (0,0,0)).1 2) (Dk (x0.1,(B5 (x0.1,(lGet x (iNat x0.2) (0,0,0)).1,(lGet x (iNat x0.2) (0,0,0)).2.1,(lGet x (iNat x0.2) (0,0,0)).2.2)))) x0.1)),(iAdd .i64 x0.2 1))) ([],0)).2 (lLen x))) (bAnd (iLe (lLen x) 8) (iEq (lLen (Al (fun(x0:G8)=>(bAnd (iLt x0.2 (lLen x)) (bNot (bOr (bNot (BD ((lGet x (iNat x0.2) (0,0,0)).1,0,2))) (bOr (bNot (Eb ((AX ((lGet x (iNat x0.2) (0,0,0)).1,(lGet x (iNat x0.2) (0,0,0)).2.1,(lGet x (iNat x0.2) (0,0,0)).2.2)).1,(AX ((lGet x (iNat x0.2) (0,0,0)).1,(lGet x (iNat x0.2) (0,0,0)).2.1,(lGet x (iNat x0.2) (0,0,0)).2.2)).2.1,(AX ((lGet x (iNat x0.2) (0,0,0)).1,(lGet x (iNat x0.2) (0,0,0)).2.1,(lGet x (iNat x0.2) (0,0,0)).2.2)).2.2.1,(AX ((lGet x (iNat x0.2) (0,0,0)).1,(lGet x (iNat x0.2) (0,0,0)).2.1,(lGet x (iNat x0.2) (0,0,0)).2.2)).2.2.2))) (bNot (bIff (iEq (lGet x (iNat x0.2) (0,0,0)).1 2) (iGe (B5 (x0.1,(lGet x (iNat x0.2) (0,0,0)).1,(lGet x (iNat x0.2) (0,0,0)).2.1,(lGet x (iNat x0.2) (0,0,0)).2.2)) 0)))))))) (fun(x0:G8)=>((bSel (iEq (lGet x (iNat x0.2) (0,0,0)).1 1) (lApp x0.1 [(0,(AX ((lGet x (iNat x0.2) (0,0,0)).1,(lGet x (iNat x0.2) (0,0,0)).2.1,(lGet x (iNat x0.2) (0,0,0)).2.2)).1,(AX ((lGet x (iNat x0.2) (0,0,0)).1,(lGet x (iNat x0.2) (0,0,0)).2.1,(lGet x (iNat x0.2) (0,0,0)).2.2)).2.1,(AX ((lGet x (iNat x0.2) (0,0,0)).1,(lGet x (iNat x0.2) (0,0,0)).2.1,(lGet x (iNat x0.2) (0,0,0)).2.2)).2.2.1,(AX ((lGet x (iNat x0.2) (0,0,0)).1,(lGet x (iNat x0.2) (0,0,0)).2.1,(lGet x (iNat x0.2) (0,0,0)).2.2)).2.2.2)]) (bSel (iEq (lGet x (iNat x0.2) (0,0,0)).1 2) (Dk (x0.1,(B5 (x0.1,(lGet x (iNat x0.2) (0,0,0)).1,(lGet x (iNat x0.2) (0,0,0)).2.1,(lGet x (iNat x0.2) (0,0,0)).2.2)))) x0.1)),(iAdd .i64 x0.2 1))) ([],0)).1) 0))):=(GH.v x).trans (by kernel_rfl)
theorem qm (x):N3 x=(LoopOk (fun(x0:G8)=>(bAnd (iLt x0.2 (lLen x)) (bNot (bOr (bNot (BD ((lGet x (iNat x0.2) (0,0,0)).1,0,2))) (bOr (bNot (Eb ((AX ((lGet x (iNat x0.2) (0,0,0)).1,(lGet x (iNat x0.2) (0,0,0)).2.1,(lGet x (iNat x0.2) (0,0,0)).2.2)).1,(AX ((lGet x (iNat x0.2) (0,0,0)).1,(lGet x (iNat x0.2) (0,0,0)).2.1,(lGet x (iNat x0.2) (0,0,0)).2.2)).2.1,(AX ((lGet x (iNat x0.2) (0,0,0)).1,(lGet x (iNat x0.2) (0,0,0)).2.1,(lGet x (iNat x0.2) (0,0,0)).2.2)).2.2.1,(AX ((lGet x (iNat x0.2) (0,0,0)).1,(lGet x (iNat x0.2) (0,0,0)).2.1,(lGet x (iNat x0.2) (0,0,0)).2.2)).2.2.2))) (bNot (bIff (iEq (lGet x (iNat x0.2) (0,0,0)).1 2) (iGe (B5 (x0.1,(lGet x (iNat x0.2) (0,0,0)).1,(lGet x (iNat x0.2) (0,0,0)).2.1,(lGet x (iNat x0.2) (0,0,0)).2.2)) 0)))))))) (fun(x0:G8)=>((bSel (iEq (lGet x (iNat x0.2) (0,0,0)).1 1) (lApp x0.1 [(0,(AX ((lGet x (iNat x0.2) (0,0,0)).1,(lGet x (iNat x0.2) (0,0,0)).2.1,(lGet x (iNat x0.2) (0,0,0)).2.2)).1,(AX ((lGet x (iNat x0.2) (0,0,0)).1,(lGet x (iNat x0.2) (0,0,0)).2.1,(lGet x (iNat x0.2) (0,0,0)).2.2)).2.1,(AX ((lGet x (iNat x0.2) (0,0,0)).1,(lGet x (iNat x0.2) (0,0,0)).2.1,(lGet x (iNat x0.2) (0,0,0)).2.2)).2.2.1,(AX ((lGet x (iNat x0.2) (0,0,0)).1,(lGet x (iNat x0.2) (0,0,0)).2.1,(lGet x (iNat x0.2) (0,0,0)).2.2)).2.2.2)]) (bSel (iEq (lGet x (iNat x0.2) (0,0,0)).1 2) (Dk (x0.1,(B5 (x0.1,(lGet x (iNat x0.2) (0,0,0)).1,(lGet x (iNat x0.2) (0,0,0)).2.1,(lGet x (iNat x0.2) (0,0,0)).2.2)))) x0.1)),(iAdd .i64 x0.2 1))) (fun(x0:G8)=>(((iLt x0.2 (lLen x))=true->((((0:Int)<=x0.2)/\(x0.2<(((List.length x):Int))))/\(((iNat x0.2)<(List.length x))/\((Mw (x0.1,(lGet x (iNat x0.2) (0,0,0)).1,(lGet x (iNat x0.2) (0,0,0)).2.1,(lGet x (iNat x0.2) (0,0,0)).2.2))/\(((Ec ((lGet x (iNat x0.2) (0,0,0)).1,0,2))/\(((bNot (BD ((lGet x (iNat x0.2) (0,0,0)).1,0,2)))=true->True)/\((bNot (BD ((lGet x (iNat x0.2) (0,0,0)).1,0,2)))=false->((Qj ((lGet x (iNat x0.2) (0,0,0)).1,(lGet x (iNat x0.2) (0,0,0)).2.1,(lGet x (iNat x0.2) (0,0,0)).2.2))/\(Ms ((AX ((lGet x (iNat x0.2) (0,0,0)).1,(lGet x (iNat x0.2) (0,0,0)).2.1,(lGet x (iNat x0.2) (0,0,0)).2.2)).1,(AX ((lGet x (iNat x0.2) (0,0,0)).1,(lGet x (iNat x0.2) (0,0,0)).2.1,(lGet x (iNat x0.2) (0,0,0)).2.2)).2.1,(AX ((lGet x (iNat x0.2) (0,0,0)).1,(lGet x (iNat x0.2) (0,0,0)).2.1,(lGet x (iNat x0.2) (0,0,0)).2.2)).2.2.1,(AX ((lGet x (iNat x0.2) (0,0,0)).1,(lGet x (iNat x0.2) (0,0,0)).2.1,(lGet x (iNat x0.2) (0,0,0)).2.2)).2.2.2))))))/\(((bOr (bNot (BD ((lGet x (iNat x0.2) (0,0,0)).1,0,2))) (bOr (bNot (Eb ((AX ((lGet x (iNat x0.2) (0,0,0)).1,(lGet x (iNat x0.2) (0,0,0)).2.1,(lGet x (iNat x0.2) (0,0,0)).2.2)).1,(AX ((lGet x (iNat x0.2) (0,0,0)).1,(lGet x (iNat x0.2) (0,0,0)).2.1,(lGet x (iNat x0.2) (0,0,0)).2.2)).2.1,(AX ((lGet x (iNat x0.2) (0,0,0)).1,(lGet x (iNat x0.2) (0,0,0)).2.1,(lGet x (iNat x0.2) (0,0,0)).2.2)).2.2.1,(AX ((lGet x (iNat x0.2) (0,0,0)).1,(lGet x (iNat x0.2) (0,0,0)).2.1,(lGet x (iNat x0.2) (0,0,0)).2.2)).2.2.2))) (bNot (bIff (iEq (lGet x (iNat x0.2) (0,0,0)).1 2) (iGe (B5 (x0.1,(lGet x (iNat x0.2) (0,0,0)).1,(lGet x (iNat x0.2) (0,0,0)).2.1,(lGet x (iNat x0.2) (0,0,0)).2.2)) 0)))))=true->True)/\((bOr (bNot (BD ((lGet x (iNat x0.2) (0,0,0)).1,0,2))) (bOr (bNot (Eb ((AX ((lGet x (iNat x0.2) (0,0,0)).1,(lGet x (iNat x0.2) (0,0,0)).2.1,(lGet x (iNat x0.2) (0,0,0)).2.2)).1,(AX ((lGet x (iNat x0.2) (0,0,0)).1,(lGet x (iNat x0.2) (0,0,0)).2.1,(lGet x (iNat x0.2) (0,0,0)).2.2)).2.1,(AX ((lGet x (iNat x0.2) (0,0,0)).1,(lGet x (iNat x0.2) (0,0,0)).2.1,(lGet x (iNat x0.2) (0,0,0)).2.2)).2.2.1,(AX ((lGet x (iNat x0.2) (0,0,0)).1,(lGet x (iNat x0.2) (0,0,0)).2.1,(lGet x (iNat x0.2) (0,0,0)).2.2)).2.2.2))) (bNot (bIff (iEq (lGet x (iNat x0.2) (0,0,0)).1 2) (iGe (B5 (x0.1,(lGet x (iNat x0.2) (0,0,0)).1,(lGet x (iNat x0.2) (0,0,0)).2.1,(lGet x (iNat x0.2) (0,0,0)).2.2)) 0)))))=false->(((iEq (lGet x (iNat x0.2) (0,0,0)).1 1)=true->((Qj ((lGet x (iNat x0.2) (0,0,0)).1,(lGet x (iNat x0.2) (0,0,0)).2.1,(lGet x (iNat x0.2) (0,0,0)).2.2))/\(As (((List.length x0.1)+(List.length [(0,(AX ((lGet x (iNat x0.2) (0,0,0)).1,(lGet x (iNat x0.2) (0,0,0)).2.1,(lGet x (iNat x0.2) (0,0,0)).2.2)).1,(AX ((lGet x (iNat x0.2) (0,0,0)).1,(lGet x (iNat x0.2) (0,0,0)).2.1,(lGet x (iNat x0.2) (0,0,0)).2.2)).2.1,(AX ((lGet x (iNat x0.2) (0,0,0)).1,(lGet x (iNat x0.2) (0,0,0)).2.1,(lGet x (iNat x0.2) (0,0,0)).2.2)).2.2.1,(AX ((lGet x (iNat x0.2) (0,0,0)).1,(lGet x (iNat x0.2) (0,0,0)).2.1,(lGet x (iNat x0.2) (0,0,0)).2.2)).2.2.2)]))*5))))/\((iEq (lGet x (iNat x0.2) (0,0,0)).1 1)=false->(((iEq (lGet x (iNat x0.2) (0,0,0)).1 2)=true->(Mm (x0.1,(B5 (x0.1,(lGet x (iNat x0.2) (0,0,0)).1,(lGet x (iNat x0.2) (0,0,0)).2.1,(lGet x (iNat x0.2) (0,0,0)).2.2)))))/\((iEq (lGet x (iNat x0.2) (0,0,0)).1 2)=false->True)))))))))))/\((iLt x0.2 (lLen x))=false->True))) ([],0)):=(GH.o x).trans (by kernel_rfl)
theorem YA (x):Bf x=(bSel (iLt (Al (fun(x0:Int)=>(bAnd (iLt x0 (lLen x.1)) (bNot (bAnd (iEq (lGet x.1 (iNat x0) (0,0)).1 x.2.1) (iEq (lGet x.1 (iNat x0) (0,0)).2 x.2.2))))) (fun(x0:Int)=>(iAdd .i64 x0 1)) 0) (lLen x.1)) (Al (fun(x0:Int)=>(bAnd (iLt x0 (lLen x.1)) (bNot (bAnd (iEq (lGet x.1 (iNat x0) (0,0)).1 x.2.1) (iEq (lGet x.1 (iNat x0) (0,0)).2 x.2.2))))) (fun(x0:Int)=>(iAdd .i64 x0 1)) 0) (-1)):=(Kj.v x).trans (by kernel_rfl)
theorem r6 (x):Og x=(LoopOk (fun(x0:Int)=>(bAnd (iLt x0 (lLen x.1)) (bNot (bAnd (iEq (lGet x.1 (iNat x0) (0,0)).1 x.2.1) (iEq (lGet x.1 (iNat x0) (0,0)).2 x.2.2))))) (fun(x0:Int)=>(iAdd .i64 x0 1)) (fun(x0:Int)=>(((iLt x0 (lLen x.1))=true->((((0:Int)<=x0)/\(x0<(((List.length x.1):Int))))/\((iNat x0)<(List.length x.1))))/\((iLt x0 (lLen x.1))=false->True))) 0):=(Kj.o x).trans (by kernel_rfl)
theorem qG (x):H6 x=(bAnd (bNot (iGt (lLen x) 8)) (bAnd (bNot (iLt (Al (fun(x0:IG)=>(bAnd (iLt x0.2 (lLen x)) (bAnd (bNot (bNot (Br (2,(lGet x (iNat x0.2) (0,0,0)).2.1,(lGet x (iNat x0.2) (0,0,0)).2.2,0)))) (bSel (bOr (iEq (lGet x (iNat x0.2) (0,0,0)).1 0) (iEq (lGet x (iNat x0.2) (0,0,0)).1 1)) (bNot (iGe (Bf (x0.1,(lGet x (iNat x0.2) (0,0,0)).2.1,(lGet x (iNat x0.2) (0,0,0)).2.2)) 0)) (bAnd (iEq (lGet x (iNat x0.2) (0,0,0)).1 2) (bNot (iLt (Bf (x0.1,(lGet x (iNat x0.2) (0,0,0)).2.1,(lGet x (iNat x0.2) (0,0,0)).2.2)) 0))))))) (fun(x0:IG)=>((bSel (bOr (iEq (lGet x (iNat x0.2) (0,0,0)).1 0) (iEq (lGet x (iNat x0.2) (0,0,0)).1 1)) (bSel (iEq (lGet x (iNat x0.2) (0,0,0)).1 1) (lApp x0.1 [((lGet x (iNat x0.2) (0,0,0)).2.1,(lGet x (iNat x0.2) (0,0,0)).2.2)]) x0.1) (lApp (lTake x0.1 (lN (lSub x0.1 0 (iNat (Bf (x0.1,(lGet x (iNat x0.2) (0,0,0)).2.1,(lGet x (iNat x0.2) (0,0,0)).2.2)))))) (lSub x0.1 (iNat (iAdd .i64 (Bf (x0.1,(lGet x (iNat x0.2) (0,0,0)).2.1,(lGet x (iNat x0.2) (0,0,0)).2.2)) 1)) (lN x0.1)))),(iAdd .i64 x0.2 1))) ([],0)).2 (lLen x))) (iEq (lLen (Al (fun(x0:IG)=>(bAnd (iLt x0.2 (lLen x)) (bAnd (bNot (bNot (Br (2,(lGet x (iNat x0.2) (0,0,0)).2.1,(lGet x (iNat x0.2) (0,0,0)).2.2,0)))) (bSel (bOr (iEq (lGet x (iNat x0.2) (0,0,0)).1 0) (iEq (lGet x (iNat x0.2) (0,0,0)).1 1)) (bNot (iGe (Bf (x0.1,(lGet x (iNat x0.2) (0,0,0)).2.1,(lGet x (iNat x0.2) (0,0,0)).2.2)) 0)) (bAnd (iEq (lGet x (iNat x0.2) (0,0,0)).1 2) (bNot (iLt (Bf (x0.1,(lGet x (iNat x0.2) (0,0,0)).2.1,(lGet x (iNat x0.2) (0,0,0)).2.2)) 0))))))) (fun(x0:IG)=>((bSel (bOr (iEq (lGet x (iNat x0.2) (0,0,0)).1 0) (iEq (lGet x (iNat x0.2) (0,0,0)).1 1)) (bSel (iEq (lGet x (iNat x0.2) (0,0,0)).1 1) (lApp x0.1 [((lGet x (iNat x0.2) (0,0,0)).2.1,(lGet x (iNat x0.2) (0,0,0)).2.2)]) x0.1) (lApp (lTake x0.1 (lN (lSub x0.1 0 (iNat (Bf (x0.1,(lGet x (iNat x0.2) (0,0,0)).2.1,(lGet x (iNat x0.2) (0,0,0)).2.2)))))) (lSub x0.1 (iNat (iAdd .i64 (Bf (x0.1,(lGet x (iNat x0.2) (0,0,0)).2.1,(lGet x (iNat x0.2) (0,0,0)).2.2)) 1)) (lN x0.1)))),(iAdd .i64 x0.2 1))) ([],0)).1) 0))):=(Kg.v x).trans (by kernel_rfl)
theorem qC (x):N1 x=(((iGt (lLen x) 8)=true->True)/\((iGt (lLen x) 8)=false->(LoopOk (fun(x0:IG)=>(bAnd (iLt x0.2 (lLen x)) (bAnd (bNot (bNot (Br (2,(lGet x (iNat x0.2) (0,0,0)).2.1,(lGet x (iNat x0.2) (0,0,0)).2.2,0)))) (bSel (bOr (iEq (lGet x (iNat x0.2) (0,0,0)).1 0) (iEq (lGet x (iNat x0.2) (0,0,0)).1 1)) (bNot (iGe (Bf (x0.1,(lGet x (iNat x0.2) (0,0,0)).2.1,(lGet x (iNat x0.2) (0,0,0)).2.2)) 0)) (bAnd (iEq (lGet x (iNat x0.2) (0,0,0)).1 2) (bNot (iLt (Bf (x0.1,(lGet x (iNat x0.2) (0,0,0)).2.1,(lGet x (iNat x0.2) (0,0,0)).2.2)) 0))))))) (fun(x0:IG)=>((bSel (bOr (iEq (lGet x (iNat x0.2) (0,0,0)).1 0) (iEq (lGet x (iNat x0.2) (0,0,0)).1 1)) (bSel (iEq (lGet x (iNat x0.2) (0,0,0)).1 1) (lApp x0.1 [((lGet x (iNat x0.2) (0,0,0)).2.1,(lGet x (iNat x0.2) (0,0,0)).2.2)]) x0.1) (lApp (lTake x0.1 (lN (lSub x0.1 0 (iNat (Bf (x0.1,(lGet x (iNat x0.2) (0,0,0)).2.1,(lGet x (iNat x0.2) (0,0,0)).2.2)))))) (lSub x0.1 (iNat (iAdd .i64 (Bf (x0.1,(lGet x (iNat x0.2) (0,0,0)).2.1,(lGet x (iNat x0.2) (0,0,0)).2.2)) 1)) (lN x0.1)))),(iAdd .i64 x0.2 1))) (fun(x0:IG)=>(((iLt x0.2 (lLen x))=true->((((0:Int)<=x0.2)/\(x0.2<(((List.length x):Int))))/\(((iNat x0.2)<(List.length x))/\((Og (x0.1,(lGet x (iNat x0.2) (0,0,0)).2.1,(lGet x (iNat x0.2) (0,0,0)).2.2))/\((Mo (2,(lGet x (iNat x0.2) (0,0,0)).2.1,(lGet x (iNat x0.2) (0,0,0)).2.2,0))/\(((bNot (Br (2,(lGet x (iNat x0.2) (0,0,0)).2.1,(lGet x (iNat x0.2) (0,0,0)).2.2,0)))=true->True)/\((bNot (Br (2,(lGet x (iNat x0.2) (0,0,0)).2.1,(lGet x (iNat x0.2) (0,0,0)).2.2,0)))=false->(((bOr (iEq (lGet x (iNat x0.2) (0,0,0)).1 0) (iEq (lGet x (iNat x0.2) (0,0,0)).1 1))=true->(((iGe (Bf (x0.1,(lGet x (iNat x0.2) (0,0,0)).2.1,(lGet x (iNat x0.2) (0,0,0)).2.2)) 0)=true->True)/\((iGe (Bf (x0.1,(lGet x (iNat x0.2) (0,0,0)).2.1,(lGet x (iNat x0.2) (0,0,0)).2.2)) 0)=false->(((iEq (lGet x (iNat x0.2) (0,0,0)).1 1)=true->(As (((List.length x0.1)+(List.length [((lGet x (iNat x0.2) (0,0,0)).2.1,(lGet x (iNat x0.2) (0,0,0)).2.2)]))*2)))/\((iEq (lGet x (iNat x0.2) (0,0,0)).1 1)=false->True)))))/\((bOr (iEq (lGet x (iNat x0.2) (0,0,0)).1 0) (iEq (lGet x (iNat x0.2) (0,0,0)).1 1))=false->(((iEq (lGet x (iNat x0.2) (0,0,0)).1 2)=true->(((iLt (Bf (x0.1,(lGet x (iNat x0.2) (0,0,0)).2.1,(lGet x (iNat x0.2) (0,0,0)).2.2)) 0)=true->True)/\((iLt (Bf (x0.1,(lGet x (iNat x0.2) (0,0,0)).2.1,(lGet x (iNat x0.2) (0,0,0)).2.2)) 0)=false->((((0:Int)<=(Bf (x0.1,(lGet x (iNat x0.2) (0,0,0)).2.1,(lGet x (iNat x0.2) (0,0,0)).2.2)))/\((0<=(iNat (Bf (x0.1,(lGet x (iNat x0.2) (0,0,0)).2.1,(lGet x (iNat x0.2) (0,0,0)).2.2))))/\(((iNat (Bf (x0.1,(lGet x (iNat x0.2) (0,0,0)).2.1,(lGet x (iNat x0.2) (0,0,0)).2.2)))<=(List.length x0.1))/\(0<(List.length x0.1)))))/\((((0:Int)<=(iAdd .i64 (Bf (x0.1,(lGet x (iNat x0.2) (0,0,0)).2.1,(lGet x (iNat x0.2) (0,0,0)).2.2)) 1))/\(((iNat (iAdd .i64 (Bf (x0.1,(lGet x (iNat x0.2) (0,0,0)).2.1,(lGet x (iNat x0.2) (0,0,0)).2.2)) 1))<=(lN x0.1))/\(((lN x0.1)<=(List.length x0.1))/\(0<(List.length x0.1)))))/\((0<(List.length x0.1))/\(((List.length (lSub x0.1 0 (iNat (Bf (x0.1,(lGet x (iNat x0.2) (0,0,0)).2.1,(lGet x (iNat x0.2) (0,0,0)).2.2)))))<=(List.length x0.1))/\(As (((List.length (lSub x0.1 0 (iNat (Bf (x0.1,(lGet x (iNat x0.2) (0,0,0)).2.1,(lGet x (iNat x0.2) (0,0,0)).2.2)))))+(List.length (lSub x0.1 (iNat (iAdd .i64 (Bf (x0.1,(lGet x (iNat x0.2) (0,0,0)).2.1,(lGet x (iNat x0.2) (0,0,0)).2.2)) 1)) (lN x0.1))))*2)))))))))/\((iEq (lGet x (iNat x0.2) (0,0,0)).1 2)=false->True)))))))))))/\((iLt x0.2 (lLen x))=false->True))) ([],0)))):=(Kg.o x).trans (by kernel_rfl)
attribute [irreducible] B5 Mw AX Qj Dk Mm F5 N3 Bf Og H6 N1
end
section
set_option maxRecDepth 8000
def pj:DCode:=(.seq [0] (.region [oa 0 2 (.mv (.c .nils))]) (.seq [2] (.region [on 0 3 0,oa 1 4 (.app 1 (.c .nils) (.t 3)),om 2 2 4]) .ret))
def J5:Fn:=⟨⟨1,5,0,false,[.tmp 2],pj⟩,[.one .frz (.sl (.one (.int .i64)))],.one (.one .own (.sl (.one (.int .i64))))⟩
theorem pT:J5.A:=A8 trivial
def C5:A5->List (Int):=J5.V
def Qc:A5->Prop:=J5.O
theorem pc:J5.B:=Ba trivial (by kernel_rfl) (λ x=>by kernel_rfl)
end
section
set_option maxRecDepth 100000
theorem TI (x):C5 x=x:=(J5.v x).trans (by kernel_rfl)
theorem dG (x):Qc x=(As ((List.length x)*1)):=(J5.o x).trans (by kernel_rfl)
attribute [irreducible] C5 Qc
end
open Go.Sort
def Dp(l:A5):List Int:=l.mergeSort λ x y=>decide (x<=y)
theorem ZE(l:A5):(Dp l).length=l.length:=List.length_mergeSort l
def DE(l:A5):List V:=l.map λ n=>.int .i64 n
def MB:Bc:=λ args h Q=>match args with
 |[.nils]=>Q .undef h
 |[.slice l 0 n]=>∃ (b:Blk) (zs:A5),h[l]?=some b/\b.k= .own/\zs.length=n/\0<n/\n<4611686018427387904/\b.cs=DE zs++b.cs.drop n/\Q .undef (h.set l { b with cs:=DE (Dp zs)++b.cs.drop n })
 |_=>False
def yq(P:Program)(g:FuncId):Prop:=
 (∀ (blk off cap:Nat) (zs:A5) (w:World),Holds (Value.int .i64) w blk off zs.toArray->blk<w.heap.size->zs.length<4611686018427387904 ->
  Calls P g #[.slice (some ⟨blk,off,none⟩) zs.length cap] w λ e w'=>e= .returned (.tuple #[])/\∃ n os,w'=grow (putRow (Value.int .i64) (Sort.ahead w n) blk off (zs.mergeSort λ x y=>decide (x<=y)).toArray) os) /\
 ∀ (p:Option Addr) (cap:Nat) (w:World),Calls P g #[.slice p 0 cap] w λ e w'=>e= .returned (.tuple #[])/\w'=w
theorem xR {ι:Ay} {k:Ad} {w w':World} {l:Nat} {blk:Blk} {cs':List V} {arr':Array Value} {e:TypeId} (H:HRel ι k w) (hb:k[l]?=some blk) (k1:blk.k= .own) (hl:cs'.length=blk.cs.length) (hsize:w.heap.size<=w'.heap.size)
 (hoth:∀ j,j<w.heap.size->j≠(ι l).b->w'.heap[j]?=w.heap[j]?) (hrow:w'.heap[(ι l).b]?=some (.cells arr' e (0,0))) (hsz:arr'.size=(ι l).c) (hcells:∀ (i:Nat) u,cs'[i]?=some u->u.cell=true/\∃ z,arr'[i]?=some z/\∀ β,Rel ι k β u z)
 (ho:w'.os=w.os) (hout:w'.output=w.output) (ht:w'.tape=w.tape):HRel ι (k.set l { blk with cs:=cs' }) w'/\Step ι k w ι (k.set l { blk with cs:=cs' }) w':=by
 have K:=VI ι k l blk { blk with cs:=cs' } hb rfl
 have hset:∀ (j:Nat) (b:Blk),(k.set l { blk with cs:=cs' })[j]?=some b->(j=l/\b={ blk with cs:=cs' })\/(j≠l/\k[j]?=some b):=by
  intro j b hj;rcases Ht hj with⟨h1,h2,_⟩|h
  . exact .inl ⟨h1,h2⟩
  . exact .inr h
 obtain⟨z0,g2,_⟩:=H.own l blk hb k1
 have hfar:∀ (j:Nat) (b:Blk),j≠l->k[j]?=some b->b.k≠.dead->w'.heap[(ι j).b]?=w.heap[(ι j).b]?:=λ j b hjl hj hbk=>hoth _ (H.there j b hj hbk) λ g=>H.apart l j blk b (Hy hjl) hb hj k1 hbk g.symm
 refine⟨⟨λ j b hj hbk i u hu=>?_,λ j b hj hbk=>?_,λ j j' b b' hne hj hj' hbk hbk'=>?_,λ j b hj hbk=>?_⟩,{ keeps:=K,kinds:=λ j b b' hj hj'=>?_,fresh:=λ j b' hle' hj hbk=>?_,frame:=λ b hb' hf=>hoth b hb' λ g=>hf l blk hb k1 g.symm,size:=hsize,os:=ho,output:=hout,tape:=ht }⟩
 . rcases hset j b hj with⟨rfl,rfl⟩|⟨hjl,hj⟩
   . obtain⟨g1,z,g2,g3⟩:=hcells i u hu;refine⟨g1,z,?_,λ β=>(g3 β).cellMono K g1⟩;rw[z0,Cs];simp only[World.cell?,hrow];exact g2
   . obtain⟨g1,z,g2,g3⟩:=H.cells j b hj hbk i u hu;exact⟨g1,z,by rw[Wt (w:=w) (hfar j b hjl hj hbk)];exact g2,λ β=>(g3 β).cellMono K g1⟩
 . rcases hset j b hj with⟨rfl,rfl⟩|⟨hjl,hj⟩
   . exact⟨z0,by simp only;omega,_,e,hrow,hsz⟩
   . obtain⟨g1,g2,arr',e',g3,g4⟩:=H.own j b hj hbk;exact⟨g1,g2,arr',e',by rw[hfar j b hjl hj (by rw[hbk];decide)];exact g3,g4⟩
 . rcases hset j b hj with⟨rfl,rfl⟩|⟨hjl,hg⟩<;>rcases hset j' b' hj' with⟨rfl,rfl⟩|⟨hjl',hg'⟩
   . exact absurd rfl hne
   . exact H.apart _ _ _ _ hne hb hg' k1 hbk'
   . exact H.apart _ _ _ _ hne hg hb hbk (by rw[k1];decide)
   . exact H.apart j j' b b' hne hg hg' hbk hbk'
 . refine KE ?_ hsize
   rcases hset j b hj with⟨rfl,rfl⟩|⟨hjl,hj⟩
   . exact H.there _ _ hb hbk
   . exact H.there j b hj hbk
 . rcases hset j b' hj' with⟨rfl,rfl⟩|⟨hjl,hj'⟩
   . rw[hb] at hj;cases hj;exact .inl rfl
   . rw[hj] at hj';cases hj';exact .inl rfl
 . rcases hset j b' hj with⟨rfl,rfl⟩|⟨hjl,hj⟩
   . have:=Cc hb;omega
   . have:=Cc hj;omega
theorem vK{P:Program}{g:FuncId}(hs:yq P g):AB P g MB:=by
 intro Φ ι σ w args xs Q hΦ H hargs hsem _;have hlen:=hargs.1;unfold MB at hsem;split at hsem
 . match xs,hlen with
   | [x],_=>
     have hr:=hargs.2 0 _ _ rfl rfl (λ _=>0);obtain⟨a,rfl⟩:=O1 hr;refine(hs.2 a 0 w).mono ?_;rintro e w' ⟨rfl,rfl⟩;exact⟨_,.undef,σ,ι,rfl,hsem,hΦ,λ β=>.undef _,H,.refl _ _ _⟩
 . rename_i l n
   match xs,hlen with
   | [x],_=>
     have hr:=hargs.2 0 _ _ rfl rfl (λ _=>0);obtain⟨b,zs,hb,hk,hz,hn0,hn,hcs,hQ⟩:=hsem;have hl:Φ l=none:=(aY hr).1 l 0 n rfl
     have hb':(kill Φ σ)[l]?=some b:=by rw[Pd hl];exact hb
     obtain⟨b1,g1,hc⟩:=GO hr;rw[hb'] at g1;cases g1;rcases hc with⟨c,rfl,c1,c2⟩|⟨rfl,_⟩
     . obtain⟨z0,arr,el,harr,hsz,hrc⟩:=H.ownCells hb' hk;rw[z0,G3]
       have hle:b.cs.length<=arr.size:=by simpa using hrc.1
       have hcl:n<=b.cs.length:=by rw[hcs,Cz];simp[DE];omega
       have hcell:∀ j (hj:j<n),arr[j]?=some (.int .i64 (zs[j]'(by omega))):=by
        intro j hj
        have hcj:b.cs[j]?=some (.int .i64 (zs[j]'(by omega))):=by
         rw[hcs,Bz (by simp[DE];omega)];simp[DE,Bg (show j<zs.length by omega)]
        obtain⟨_,z,q1,q2⟩:=hrc.2 j _ hcj;have:=EU (q2 (λ _=>0));subst this;simpa using q1
       have hH:Holds (Value.int .i64) w (ι l).b 0 zs.toArray:=by
        intro j hj
        have hj:j<n:=by simpa [hz] using hj
        refine⟨?_,?_⟩
        . simp only[World.cell?,harr,Cs,hcell j hj];rw[getElem!_pos _ j (by simp;omega)];simp
        . simp only[World.frozen?,harr];simp
       have hcall:=hs.1 (ι l).b 0 c zs w hH (H.there l b hb' (by rw[hk];decide)) (by omega);rw[hz] at hcall;refine hcall.mono ?_;rintro e w' ⟨rfl,m,os,rfl⟩;have hblt:=H.there l b hb' (by rw[hk];decide);have hsl:=ZE zs;have heap:(grow (putRow (Value.int .i64) (Sort.ahead w m) (ι l).b 0 (Dp zs).toArray) os).heap=w.heap.modify (ι l).b (onCells (putCells (Value.int .i64) 0 (Dp zs).toArray))++os:=rfl
       have W:=xR (w':=grow (putRow (Value.int .i64) (Sort.ahead w m) (ι l).b 0 (Dp zs).toArray) os) (cs':=DE (Dp zs)++b.cs.drop n) (arr':=putCells (Value.int .i64) 0 (Dp zs).toArray arr) (e:=el) H hb' hk
        (by simp[DE,hsl];omega) (by rw[heap];simp) (λ j hj hne=>by
         rw[heap,Array.getElem?_append_left (by simpa using hj),Array.getElem?_modify,Af (Hy hne)]) (by
         rw[heap,Array.getElem?_append_left (by simpa using hblt),Array.getElem?_modify,Ac rfl,harr];rfl) (by simp[putCells,hsz]) (λ i u hu=>by
         have hpi:(putCells (Value.int .i64) 0 (Dp zs).toArray arr)[i]?=(arr[i]?).map λ x=>if i<n then .int .i64 ((Dp zs).toArray)[i]! else x:=by
          simp[putCells,Array.getElem?_mapIdx,hsl,hz]
         rw[hpi];by_cases hi:i<n
         . rw[Bz (by simp[DE,hsl];omega)] at hu;simp only[DE,Hx,Bg (show i<(Dp zs).length by omega),Cq,Ak] at hu;subst hu;refine⟨rfl,_,by rw[hcell i hi];rfl,λ β=>?_⟩;simp only[Ac hi];rw[getElem!_pos _ i (by simp;omega)];simpa using Rel.int .i64 _
         . rw[Dd (by simp[DE,hsl];omega)] at hu
           have hu':b.cs[i]?=some u:=by
            rw[LL] at hu;rw[<- hu];congr 1;simp[DE,hsl];omega
           obtain⟨q0,z,q1,q2⟩:=hrc.2 i u hu';refine⟨q0,z,?_,q2⟩
           have:arr[i]?=some z:=by simpa using q1
           rw[this,Cq,Af hi]) rfl rfl rfl
       refine⟨_,.undef,_,ι,rfl,hQ,hΦ.set hl _,λ β=>.undef _,?_,?_⟩
       . rw[VO hl];exact W.1
       . rw[VO hl];exact W.2
     . omega
 . exact hsem.elim
@[irreducible] def DZ(x:A5)(m:Int):A5×Int:=(shut fun(x:A5) (m:Int)=>(Dp x,m)).1 x m
@[irreducible] def UI(x:A5):Prop:=(shut fun(x:A5)=>x.length<4611686018427387904).1 x
theorem fA:DZ=λ x m=>(Dp x,m):=by unfold DZ;exact(shut _).2
theorem e9:UI=λ x=>x.length<4611686018427387904:=by unfold UI;exact(shut _).2
def Zb:DMk:=⟨.one (.sl (.one (.int .i64))),false,UI,DZ,true⟩
def Fv(l:A5):List (List PV):=l.map λ n=>[.fl (.int .i64 n)]
theorem vP(l:A5):(Fv l).flatten=l.map λ n=>.fl (.int .i64 n):=by
 induction l with
 |nil=>rfl
 |cons n r ih=>simpa [Fv] using ih
theorem iB{l:List Int}{k:Nat}(h:k<l.length):Aa (Fv l).flatten k= .fl (.int .i64 (l[k])):=by
 rw[vP,FU,Hx,Bg h];rfl
theorem tE:WW MB (DMk.P Zb):=by
 unfold Zb;rw[e9,fA];rintro h ω hd P b AA us u m K Q hinj hu hl hr ⟨(x:A5),rfl,hok,hK⟩ hQ;have hu:us=[u]:=hu;subst hu;have hr0:RC h ω (.inn hd (P++[b+0])) (.sl .own (Fv x)) u:=hr 0 (by exact Nat.one_pos)
 have hQ:=λ h' hO (hrc:RC h' ω (.inn hd (P++[b+0])) (.sl .own (Fv (Dp x))) u)=>hQ _ m h' hK rfl hO λ c hc=>by
  have hc:c<1:=hc
  have:c=0:=by omega
  subst this;exact hrc
 show MB [u] h Q;have hok:x.length<4611686018427387904:=hok;have hsl:=ZE x;generalize hes:Fv x=es at hr0
 cases hr0 with
 | nil=>
   have:x=[]:=by
    cases x with
    |nil=>rfl
    |cons=>cases hes
   subst this
   have e0:Fv (Dp [])=[]:=by rw[EH hsl];rfl
   rw[e0] at hQ;exact hQ h (Only.refl _ _) (.nil _ _)
 | sl _ _ _ l o n blk hb hk hc hne hn hw hle hcell=>
   subst hes;obtain⟨hω,rfl,hown⟩:=hc
   have hx:x≠[]:=λ e=>by subst e;exact hne rfl (.inl rfl) rfl
   obtain⟨y,ys,rfl⟩:=List.exists_cons_of_ne_nil hx;generalize hzs:y::ys=zs at *
   have hpos:0<zs.length:=by rw[<- hzs];simp
   have hlen:(Fv zs).length=zs.length:=by simp[Fv]
   have hbw:blk.w=1:=by
    have:=hw [.fl (.int .i64 y)] (by rw[<- hzs];simp[Fv]);simpa using this.symm
   rw[hlen] at hn hle hcell;rw[hbw,Pq,Cs] at hle;rw[hbw,Pq] at hcell
   have hget:∀ k (hk:k<zs.length),blk.cs[k]?=some (.int .i64 (zs[k])):=by
    intro k hk;have r:=hcell k hk;rw[Cs,iB hk] at r
    have e:get blk.cs k= .int .i64 (zs[k]):=by
     generalize get blk.cs k=z at r
     cases r with
     |v=>rfl
    rw[Dm,Bg (show k<blk.cs.length by omega)] at e;rw[Bg (show k<blk.cs.length by omega)];simpa using e
   have hcs:blk.cs=DE zs++blk.cs.drop n:=by
    apply Iy;intro k;by_cases hk:k<zs.length
    . rw[Bz (by simp[DE];omega),hget k hk];simp[DE,Bg hk]
    . rw[Dd (by simp[DE];omega),LL];congr 1;simp[DE];omega
   have hlt:=Cc hb
   have hnl:(DE (Dp zs)++blk.cs.drop n).length=blk.cs.length:=by simp[DE,hsl];omega
   refine⟨blk,zs,hb,hown,hn.symm,by omega,by omega,hcs,?_⟩;refine hQ _ ⟨by simp,λ j hj=>?_,λ j c hj=>?_⟩ (.sl _ _ _ _ _ _ { blk with cs:=DE (Dp zs)++blk.cs.drop n } (by simp[hlt]) hk ⟨hω,rfl,hown⟩ (λ _ _ e=>?_) ?_ ?_ ?_ ?_)
   . rw[GY,Af];intro e;subst e;exact hj ⟨0,Fv zs,[],Nat.one_pos,rfl,by simpa using hω⟩
   . rw[GY];by_cases e:l=j
     . subst e;rw[hb] at hj;cases hj;exact⟨{ blk with cs:=DE (Dp zs)++blk.cs.drop n },by simp[hlt],rfl,rfl,hnl⟩
     . exact⟨c,by rw[Af e];exact hj,rfl,rfl,rfl⟩
   . have:=congrArg List.length e;simp[Fv,hsl] at this;rw[this] at hpos;simp at hpos
   . rw[hn];simp[Fv,hsl]
   . intro e he;simp only[Fv,List.mem_map] at he;obtain⟨_,_,rfl⟩:=he;simp[hbw]
   . simp only[Fv,A6,hsl,hbw,hnl];omega
   . intro k hk;simp only[Fv,A6,hsl,hbw,Pq] at hk
     have hk':k<(Dp zs).length:=by omega
     rw[Cs,iB hk']
     have:get (DE (Dp zs)++blk.cs.drop n) k= .int .i64 ((Dp zs)[k]):=by
      rw[Dm,Bz (by simp[DE];omega)];simp[DE,Bg hk']
     simp only[this];exact .v _ _ rfl
section
set_option maxRecDepth 8000
def qb:DCode:=(.seq [2,0] (.region [oa 0 2 (.allocB 0 [Ab,.nils])]) (.seq [3,2,0] (.region [⟨0,some 7,.a false (.litSlice 1 0 [] []) (some (.one (.int .i64))),none,[]⟩,oa 1 8 (.build [Ab,.nils] [(1,1,(.t 7))]),oa 2 3 (.allocB 1 [Ab,.nils]),os 3 (.storeB 1 2 (.t 3) (.t 8))]) (.seq [3,2,0] (.seq [11,3,2,0] (.region [on 0 9 0,oF 1 10 En [(.t 9)],oa 2 11 (.un .not (.t 10))]) (.cond (.t 11) (.seq [2] (.region [ob 0 12 (.loadB 1 (some 2) (.t 3)),os 1 (.storeB 0 2 (.t 2) (.t 12))]) .ret) .skip)) (.seq [3,2,0] (.seq [4,3,2,0] (.region [oi 0 4 0]) (.block 0 (.loop [0,2,3,4] 1 (.seq [4,3,2,0] (.seq [16,4,3,2,0] (.region [om 0 13 4,on 1 14 0,oa 2 15 (.len (.t 14)),oa 3 16 (.bin .lss (.t 13) (.t 15))]) (.cond (.t 16) .skip (.exit 0))) (.seq [4,3,2,0] (.block 1 (.seq [34,4,3,2,0] (.region [on 0 19 0,om 1 20 4,oa 2 21 (.indexA 5 (.t 19) (.t 20)),oa 3 22 (.fieldA 1 (.t 21)),oa 4 23 (.fieldA 0 (.t 22)),oa 5 24 (.loadH none (.t 23)),oa 6 25 (.bin .eql (.t 24) (.c (.int .i64 2))),om 7 26 25,⟨8,some 27,.a true (.mv (.t 0)) none,(some (26,false)),[]⟩,og 9 28 (.mv (.t 4)) 26 false,og 10 29 (.indexA 5 (.t 27) (.t 28)) 26 false,og 11 30 (.fieldA 1 (.t 29)) 26 false,og 12 31 (.fieldA 0 (.t 30)) 26 false,og 13 32 (.loadH none (.t 31)) 26 false,og 14 33 (.bin .eql (.t 32) (.c (.int .i64 8))) 26 false,oa 15 34 (.pick (.t 26) A7 (.t 33))]) (.cond (.t 34) (.region [oa 0 35 (.fieldA 0 (.t 3)),xA 1 36 (.loadB 1 none (.t 35)) (rg 1),on 2 37 0,om 3 38 4,xA 4 39 (.indexA 5 (.t 37) (.t 38)) [2,3],xA 5 40 (.fieldA 1 (.t 39)) [2,3,4],xA 6 41 (.fieldA 2 (.t 40)) [2,3,4,5],xA 7 42 (.loadH none (.t 41)) [2,3,4,5,6],xA 8 43 (.bin .or (.t 36) (.t 42)) (rg 8),xA 9 44 (.fieldA 0 (.t 3)) (rg 9),xS 10 (.storeB 1 1 (.t 44) (.t 43)) (rg 10)]) .skip))) (.region [om 0 17 4,oa 1 18 (.bin .add (.t 17) Av),om 2 4 18])))))) (.seq [3,2] (.seq [5,3,2,0] (.region [oi 0 5 1]) (.block 2 (.loop [0,2,3,5] 1 (.seq [5,3,2,0] (.seq [46,5,3,2,0] (.region [om 0 45 5,oa 1 46 (.bin .leq (.t 45) (.c (.int .i64 56)))]) (.cond (.t 46) .skip (.exit 2))) (.seq [5,3,2,0] (.block 3 (.seq [6,5,3,2,0] (.region [oi 0 6 0]) (.block 4 (.loop [0,2,3,5,6] 1 (.seq [6,5,3,2,0] (.seq [52,6,5,3,2,0] (.region [om 0 49 6,on 1 50 0,oa 2 51 (.len (.t 50)),oa 3 52 (.bin .lss (.t 49) (.t 51))]) (.cond (.t 52) .skip (.exit 4))) (.seq [6,5,3,2,0] (.block 5 (.seq [62,6,5,3,2,0] (.region [on 0 55 0,om 1 56 6,oa 2 57 (.indexA 5 (.t 55) (.t 56)),oa 3 58 (.fieldA 1 (.t 57)),oa 4 59 (.fieldA 1 (.t 58)),oa 5 60 (.loadH none (.t 59)),om 6 61 5,oa 7 62 (.bin .eql (.t 60) (.t 61))]) (.cond (.t 62) (.seq [5,3,2,0] (.region [oa 0 63 (.fieldA 1 (.t 3)),ob 1 64 (.loadB 1 none (.t 63)),om 2 65 5,⟨3,some 66,.a false (.litSlice 1 1 [Ab] [(0,1,(.t 65))]) (some (.one (.int .i64))),none,[]⟩,oa 4 67 (.app 1 (.t 64) (.t 66)),oa 5 68 (.fieldA 1 (.t 3)),os 6 (.storeB 1 1 (.t 68) (.t 67))]) (.exit 4)) .skip))) (.region [om 0 53 6,oa 1 54 (.bin .add (.t 53) Av),om 2 6 54]))))))) (.region [om 0 47 5,oa 1 48 (.bin .add (.t 47) Av),om 2 5 48])))))) (.seq [2] (.region [ob 0 69 (.loadB 1 (some 2) (.t 3)),os 1 (.storeB 0 2 (.t 2) (.t 69))]) .ret))))))
def EO:Fn:=⟨⟨1,70,2,false,[.cell 2 (some 2)],qb⟩,[.one .frz (.sl BE)],.one (.agg [Au,(.own,.sl (.one (.int .i64)))])⟩
theorem Qe:EO.A:=A8 ⟨Ue,trivial⟩
def Bb:Bv->Int×List (Int):=EO.V
def Lb:Bv->Prop:=EO.O
theorem Qh:EO.B:=Ba ⟨Un,trivial⟩ (by kernel_rfl) (λ x=>by kernel_rfl)
def sS:DCode:=(.seq [1,0] (.region [oa 0 4 (.mv Ar)]) (.seq [] (.seq [9,8,7,1] (.region [on 0 7 0,oa 1 8 (.len (.t 7)),oi 2 9 0]) (.block 0 (.loop [1,7,8,9] 1 (.seq [10,9,8,7,1] (.region [oa 0 10 (.bin .lss (.t 9) (.t 8))]) (.seq [9,8,7,1] (.cond (.t 10) .skip (.exit 0)) (.seq [9,8,7,1] (.block 1 (.seq [9,8,7,6,1] (.region [oa 0 11 (.indexA 1 (.t 7) (.t 9)),oa 1 12 (.loadH none (.t 11)),om 2 6 12]) (.seq [15,9,8,7,1] (.region [om 0 13 6,om 1 14 1,oa 2 15 (.bin .eql (.t 13) (.t 14))]) (.cond (.t 15) (.seq [4] (.region [oa 0 4 (.mv A7)]) .ret) .skip)))) (.region [oa 0 16 (.bin .add (.t 9) Av),om 1 9 16]))))))) (.seq [4] (.region [oa 0 4 (.mv Ar)]) .ret)))
def H8:Fn:=⟨⟨2,17,0,true,[.tmp 4],sS⟩,[.one .frz (.sl (.one (.int .i64))),.one .frz (.int .i64)],.one (.one .own (.bool))⟩
theorem rL:H8.A:=A8 trivial
def Ox:Eh->Bool:=H8.V
def Uf:Eh->Prop:=H8.O
theorem rB:H8.B:=Ba trivial (by kernel_rfl) (λ x=>by kernel_rfl)
def qU:DCode:=(.seq [0] (.region [oa 0 2 (.mv (.c .nils))]) (.seq [3] (.region [on 0 7 0,oF 1 8 J5 [(.t 7)],om 2 3 8]) (.seq [3] (.region [on 0 9 3,⟨1,some 10,.mark MB Zb (.t 9) AE,none,[]⟩]) (.seq [4,3] (.region [oa 0 4 (.mv (.c .nils))]) (.seq [4] (.seq [13,12,11,4] (.region [on 0 11 3,oa 1 12 (.len (.t 11)),oi 2 13 0]) (.block 0 (.loop [4,11,12,13] 1 (.seq [14,13,12,11,4] (.region [oa 0 14 (.bin .lss (.t 13) (.t 12))]) (.seq [13,12,11,4] (.cond (.t 14) .skip (.exit 0)) (.seq [13,12,11,4] (.block 1 (.seq [13,12,11,6,4] (.region [oa 0 15 (.indexA 1 (.t 11) (.t 13)),ob 1 16 (.loadH none (.t 15)),om 2 6 16]) (.seq [24,13,12,11,6,4] (.region [om 0 17 6,oa 1 18 (.bin .neq (.t 17) AE),om 2 19 18,⟨3,some 20,.a true (.mv (.t 4)) none,(some (19,true)),[]⟩,og 4 21 (.mv (.t 6)) 19 true,⟨5,some 22,.call false H8.S H8.P H8.D [(.t 20),(.t 21)],(some (19,true)),[]⟩,og 6 23 (.un .not (.t 22)) 19 true,oa 7 24 (.pick (.t 19) (.t 23) Ar)]) (.cond (.t 24) (.region [om 0 25 4,om 1 26 6,⟨2,some 27,.a false (.litSlice 1 1 [Ab] [(0,1,(.t 26))]) (some (.one (.int .i64))),none,[]⟩,oa 3 28 (.app 1 (.t 25) (.t 27)),om 4 4 28]) .skip)))) (.region [oa 0 29 (.bin .add (.t 13) Av),om 1 13 29]))))))) (.seq [2] (.region [om 0 30 4,om 1 2 30]) .ret))))))
def Kb:Fn:=⟨⟨1,31,0,false,[.tmp 2],qU⟩,[.one .frz (.sl (.one (.int .i64)))],.one (.one .own (.sl (.one (.int .i64))))⟩
theorem qP:Kb.A:=A8 ⟨pT,tE,rL,trivial⟩
def Le:A5->List (Int):=Kb.V
def Qt:A5->Prop:=Kb.O
theorem rf:Kb.B:=Ba ⟨pc,rB,trivial⟩ (by kernel_rfl) (λ x=>by kernel_rfl)
def pO:DCode:=(.seq [2,0] (.region [oa 0 2 (.allocB 0 [Ab,.nils])]) (.seq [2,0] (.seq [9,2,0] (.region [on 0 7 0,oF 1 8 FO [(.t 7)],oa 2 9 (.un .not (.t 8))]) (.cond (.t 9) (.seq [2] (.region [oa 0 10 (.build [Ab,.nils] []),os 1 (.storeB 0 2 (.t 2) (.t 10))]) .ret) .skip)) (.seq [3,2,0] (.region [oa 0 3 (.allocB 1 [Ab,.nils])]) (.seq [4,3,2,0] (.region [oa 0 4 (.mv (.c .nils))]) (.seq [4,3,2] (.seq [13,12,11,4,3,2] (.region [on 0 11 0,oa 1 12 (.len (.t 11)),oi 2 13 0]) (.block 0 (.loop [2,3,4,11,12,13] 1 (.seq [14,13,12,11,4,3,2] (.region [oa 0 14 (.bin .lss (.t 13) (.t 12))]) (.seq [13,12,11,4,3,2] (.cond (.t 14) .skip (.exit 0)) (.seq [13,12,11,4,3,2] (.block 1 (.seq [13,12,11,6,4,3,2] (.region [oa 0 15 (.indexA 5 (.t 11) (.t 13)),ob 1 16 (.loadH (some 5) (.t 15)),oa 2 6 (.allocB 2 [Ab,Ab,Ab,Ab,Ab]),os 3 (.storeB 2 5 (.t 6) (.t 16))]) (.seq [13,12,11,6,4,3,2] (.seq [26,13,12,11,6,4,3,2] (.region [oa 0 17 (.fieldA 1 (.t 6)),oa 1 18 (.fieldA 0 (.t 17)),oa 2 19 (.loadB 2 none (.t 18)),oa 3 20 (.bin .eql (.t 19) (.c (.int .i64 2))),om 4 21 20,og 5 22 (.fieldA 1 (.t 6)) 21 false,og 6 23 (.fieldA 0 (.t 22)) 21 false,og 7 24 (.loadB 2 none (.t 23)) 21 false,og 8 25 (.bin .eql (.t 24) (.c (.int .i64 8))) 21 false,oa 9 26 (.pick (.t 21) A7 (.t 25))]) (.cond (.t 26) (.region [oa 0 27 (.fieldA 0 (.t 3)),oa 1 28 (.loadB 1 none (.t 27)),oa 2 29 (.fieldA 1 (.t 6)),oa 3 30 (.fieldA 2 (.t 29)),oa 4 31 (.loadB 2 none (.t 30)),oa 5 32 (.bin .or (.t 28) (.t 31)),oa 6 33 (.fieldA 0 (.t 3)),os 7 (.storeB 1 1 (.t 33) (.t 32))]) .skip)) (.region [om 0 34 4,oa 1 35 (.fieldA 1 (.t 6)),oa 2 36 (.fieldA 1 (.t 35)),ob 3 37 (.loadB 2 none (.t 36)),⟨4,some 38,.a false (.litSlice 1 1 [Ab] [(0,1,(.t 37))]) (some (.one (.int .i64))),none,[]⟩,oa 5 39 (.app 1 (.t 34) (.t 38)),om 6 4 39])))) (.region [oa 0 40 (.bin .add (.t 13) Av),om 1 13 40]))))))) (.seq [3,2] (.region [on 0 41 4,oF 1 42 Kb [(.t 41)],oa 2 43 (.fieldA 1 (.t 3)),os 3 (.storeB 1 1 (.t 43) (.t 42))]) (.seq [2] (.region [ob 0 44 (.loadB 1 (some 2) (.t 3)),os 1 (.storeB 0 2 (.t 2) (.t 44))]) .ret)))))))
def GD:Fn:=⟨⟨1,45,3,false,[.cell 2 (some 2)],pO⟩,[.one .frz (.sl BE)],.one (.agg [Au,(.own,.sl (.one (.int .i64)))])⟩
theorem Yo:GD.A:=A8 ⟨YG,qP,trivial⟩
def BL:Bv->Int×List (Int):=GD.V
def JY:Bv->Prop:=GD.O
theorem Yl:GD.B:=Ba ⟨YK,rf,trivial⟩ (by kernel_rfl) (λ x=>by kernel_rfl)
end
section
set_option maxRecDepth 100000
def JP(x:Bv)(x0:A0):Bool:=(iLt x0.1 (lLen x))
def NF(x:Bv)(x0:A0):A0:=((iAdd .i64 x0.1 1),(bSel (bOr (iEq (lGet x (iNat x0.1) (0,0,0,0,0)).2.1 2) (iEq (lGet x (iNat x0.1) (0,0,0,0,0)).2.1 8)) (iOr .i64 x0.2 (lGet x (iNat x0.1) (0,0,0,0,0)).2.2.2.1) x0.2))
def Hh(x0:Dt):Bool:=(iLe x0.1 56)
def K3(x:Bv)(x0:Dt)(x1:Int):Bool:=(bAnd (iLt x1 (lLen x)) (bNot (iEq (lGet x (iNat x1) (0,0,0,0,0)).2.2.1 x0.1)))
def NI(x1:Int):Int:=(iAdd .i64 x1 1)
def IW(x:Bv)(x0:Dt):Dt:=((iAdd .i64 x0.1 1),(bSel (iLt (Al (K3 x x0) NI 0) (lLen x)) (lApp x0.2 [x0.1]) x0.2))
def Tm(x:Bv)(x0:A0):Prop:=(((iLt x0.1 (lLen x))=true->(((((0:Int)<=x0.1)/\(x0.1<(((List.length x):Int))))/\(((iNat x0.1)<(List.length x))/\(((iEq (lGet x (iNat x0.1) (0,0,0,0,0)).2.1 2)=true->True)/\((iEq (lGet x (iNat x0.1) (0,0,0,0,0)).2.1 2)=false->((((0:Int)<=x0.1)/\(x0.1<(((List.length x):Int))))/\((iNat x0.1)<(List.length x)))))))/\(((bOr (iEq (lGet x (iNat x0.1) (0,0,0,0,0)).2.1 2) (iEq (lGet x (iNat x0.1) (0,0,0,0,0)).2.1 8))=true->((((0:Int)<=x0.1)/\(x0.1<(((List.length x):Int))))/\((iNat x0.1)<(List.length x))))/\((bOr (iEq (lGet x (iNat x0.1) (0,0,0,0,0)).2.1 2) (iEq (lGet x (iNat x0.1) (0,0,0,0,0)).2.1 8))=false->True))))/\((iLt x0.1 (lLen x))=false->True))
def Tq(x:Bv)(x0:Dt)(x1:Int):Prop:=(((iLt x1 (lLen x))=true->((((0:Int)<=x1)/\(x1<(((List.length x):Int))))/\(((iNat x1)<(List.length x))/\(((iEq (lGet x (iNat x1) (0,0,0,0,0)).2.2.1 x0.1)=true->(As (((List.length x0.2)+(List.length [x0.1]))*1)))/\((iEq (lGet x (iNat x1) (0,0,0,0,0)).2.2.1 x0.1)=false->True)))))/\((iLt x1 (lLen x))=false->True))
def XM(x:Bv)(x0:Dt):Prop:=(((iLe x0.1 56)=true->(LoopOk (K3 x x0) NI (Tq x x0) 0))/\((iLe x0.1 56)=false->True))
theorem Yc (x):Bb x=(bSel (bNot (EE x)) (0,[]) ((Al (JP x) (NF x) (0,0)).2,(Al Hh (IW x) (1,[])).2)):=(EO.v x).trans (by kernel_rfl)
theorem o6 (x):Lb x=((Mx x)/\(((bNot (EE x))=true->True)/\((bNot (EE x))=false->((LoopOk (JP x) (NF x) (Tm x) (0,0))/\(LoopOk Hh (IW x) (XM x) (1,[])))))):=(EO.o x).trans (by kernel_rfl)
def TA(x:Eh)(x0:Int):Bool:=(bAnd (iLt x0 (lLen x.1)) (bNot (iEq (lGet x.1 (iNat x0) 0) x.2)))
def Yh(x0:Int):Int:=(iAdd .i64 x0 1)
def Yg(x:Eh)(x0:Int):Prop:=(((iLt x0 (lLen x.1))=true->((((0:Int)<=x0)/\(x0<(((List.length x.1):Int))))/\((iNat x0)<(List.length x.1))))/\((iLt x0 (lLen x.1))=false->True))
theorem rR (x):Ox x=(iLt (Al (TA x) Yh 0) (lLen x.1)):=(H8.v x).trans (by kernel_rfl)
theorem sA (x):Uf x=(LoopOk (TA x) Yh (Yg x) 0):=(H8.o x).trans (by kernel_rfl)
def P8(x:A5)(x0:Eh):Bool:=(iLt x0.2 (lLen (DZ (C5 x) 0).1))
def Tv(x:A5)(x0:Eh):Eh:=((bSel (bAnd (iNe (lGet (DZ (C5 x) 0).1 (iNat x0.2) 0) 0) (bNot (Ox (x0.1,(lGet (DZ (C5 x) 0).1 (iNat x0.2) 0))))) (lApp x0.1 [(lGet (DZ (C5 x) 0).1 (iNat x0.2) 0)]) x0.1),(iAdd .i64 x0.2 1))
def XW(x:A5)(x0:Eh):Prop:=(((iLt x0.2 (lLen (DZ (C5 x) 0).1))=true->((((0:Int)<=x0.2)/\(x0.2<(((List.length (DZ (C5 x) 0).1):Int))))/\(((iNat x0.2)<(List.length (DZ (C5 x) 0).1))/\((((iNe (lGet (DZ (C5 x) 0).1 (iNat x0.2) 0) 0)=true->(Uf (x0.1,(lGet (DZ (C5 x) 0).1 (iNat x0.2) 0))))/\((iNe (lGet (DZ (C5 x) 0).1 (iNat x0.2) 0) 0)=false->True))/\(((bAnd (iNe (lGet (DZ (C5 x) 0).1 (iNat x0.2) 0) 0) (bNot (Ox (x0.1,(lGet (DZ (C5 x) 0).1 (iNat x0.2) 0)))))=true->(As (((List.length x0.1)+(List.length [(lGet (DZ (C5 x) 0).1 (iNat x0.2) 0)]))*1)))/\((bAnd (iNe (lGet (DZ (C5 x) 0).1 (iNat x0.2) 0) 0) (bNot (Ox (x0.1,(lGet (DZ (C5 x) 0).1 (iNat x0.2) 0)))))=false->True))))))/\((iLt x0.2 (lLen (DZ (C5 x) 0).1))=false->True))
theorem qE (x):Le x=(Al (P8 x) (Tv x) ([],0)).1:=(Kb.v x).trans (by kernel_rfl)
theorem qM (x):Qt x=((Qc x)/\((((List.length (C5 x))=(List.length (C5 x)))/\(DMk.ok (DMk.mk (RT.one (CT.sl (RT.one (CT.int IntKind.i64)))) false UI DZ true) (C5 x)))/\(LoopOk (P8 x) (Tv x) (XW x) ([],0)))):=(Kb.o x).trans (by kernel_rfl)
def JN(x:Bv)(x0:CB):Bool:=(iLt x0.2.1 (lLen x))
def JQ(x:Bv)(x0:CB):CB:=((lApp x0.1 [(lGet x (iNat x0.2.1) (0,0,0,0,0)).2.2.1]),(iAdd .i64 x0.2.1 1),(bSel (bOr (iEq (lGet x (iNat x0.2.1) (0,0,0,0,0)).2.1 2) (iEq (lGet x (iNat x0.2.1) (0,0,0,0,0)).2.1 8)) (iOr .i64 x0.2.2 (lGet x (iNat x0.2.1) (0,0,0,0,0)).2.2.2.1) x0.2.2))
def Tl(x:Bv)(x0:CB):Prop:=(((iLt x0.2.1 (lLen x))=true->((((0:Int)<=x0.2.1)/\(x0.2.1<(((List.length x):Int))))/\(((iNat x0.2.1)<(List.length x))/\(As (((List.length x0.1)+(List.length [(lGet x (iNat x0.2.1) (0,0,0,0,0)).2.2.1]))*1)))))/\((iLt x0.2.1 (lLen x))=false->True))
theorem pX (x):BL x=(bSel (bNot (Cu x)) (0,[]) ((Al (JN x) (JQ x) ([],0,0)).2.2,(Le (Al (JN x) (JQ x) ([],0,0)).1))):=(GD.v x).trans (by kernel_rfl)
theorem pI (x):JY x=((Mv x)/\(((bNot (Cu x))=true->True)/\((bNot (Cu x))=false->((LoopOk (JN x) (JQ x) (Tl x) ([],0,0))/\(Qt (Al (JN x) (JQ x) ([],0,0)).1))))):=(GD.o x).trans (by kernel_rfl)
attribute [irreducible] Bb Lb Ox Uf Le Qt BL JY
end
section
set_option maxRecDepth 8000
def sV:DCode:=(.seq [2,1] (.region [oa 0 1 (.boxB 0 2 (.t 0)),oa 1 2 (.allocB 1 [Ab,.nils])]) (.seq [3,2,1] (.region [oa 0 5 (.fieldA 0 (.t 1)),ob 1 6 (.loadB 0 none (.t 5)),oa 2 7 (.build [Ab,.nils] [(0,1,(.t 6))]),oa 3 3 (.allocB 2 [Ab,.nils]),os 4 (.storeB 2 2 (.t 3) (.t 7))]) (.seq [3,2] (.seq [4,3,2,1] (.region [oi 0 4 0]) (.block 0 (.loop [1,2,3,4] 1 (.seq [4,3,2,1] (.seq [12,4,3,2,1] (.region [om 0 8 4,oa 1 9 (.fieldA 1 (.t 1)),oa 2 10 (.loadB 0 none (.t 9)),oa 3 11 (.len (.t 10)),oa 4 12 (.bin .lss (.t 8) (.t 11))]) (.cond (.t 12) .skip (.exit 0))) (.seq [4,3,2,1] (.block 1 (.region [oa 0 15 (.fieldA 1 (.t 3)),xB 1 16 (.loadB 2 none (.t 15)) (rg 1),oa 3 18 (.fieldA 1 (.t 1)),xA 4 19 (.loadB 0 none (.t 18)) [3],om 5 20 4,xA 6 21 (.indexA 1 (.t 19) (.t 20)) [3,4,5],xA 7 22 (.loadH none (.t 21)) [3,4,5,6],⟨2,some 17,.a false (.litSlice 4 0 [] []) (some BS),none,[]⟩,xA 8 23 (.app 4 (.t 17) (.t 22)) [2,3,4,5,6,7],⟨9,some 24,.a false (.litSlice 1 1 [.nils] [(0,1,(.t 23))]) (some (.one (.sl BS))),none,[2,3,4,5,6,7,8]⟩,xA 10 25 (.app 1 (.t 16) (.t 24)) (rg 10),xA 11 26 (.fieldA 1 (.t 3)) (rg 11),xS 12 (.storeB 2 1 (.t 26) (.t 25)) (rg 12)])) (.region [om 0 13 4,oa 1 14 (.bin .add (.t 13) Av),om 2 4 14])))))) (.seq [2] (.region [ob 0 27 (.loadB 2 (some 2) (.t 3)),os 1 (.storeB 1 2 (.t 2) (.t 27))]) .ret))))
def Kk:Fn:=⟨⟨1,28,3,false,[.cell 2 (some 2)],sV⟩,[.agg [AD,(.frz,.sl (.one (.sl BS)))]],.one (.agg [Au,(.own,.sl (.one (.sl BS)))])⟩
theorem sP:Kk.A:=A8 trivial
def QK:CV->Int×DW:=Kk.V
def Ua:CV->Prop:=Kk.O
theorem rC:Kk.B:=Ba trivial (by kernel_rfl) (λ x=>by kernel_rfl)
def nR:DCode:=(.seq [2,1] (.region [oa 0 1 (.boxB 0 2 (.t 0)),oa 1 2 (.allocB 1 [Ab,.nils])]) (.seq [3,2,1] (.region [oa 0 6 (.fieldA 0 (.t 1)),ob 1 7 (.loadB 0 none (.t 6)),oa 2 8 (.build [Ab,.nils] [(0,1,(.t 7))]),oa 3 3 (.allocB 2 [Ab,.nils]),os 4 (.storeB 2 2 (.t 3) (.t 8))]) (.seq [3,2] (.seq [12,11,10,3,2] (.region [oa 0 9 (.fieldA 1 (.t 1)),oa 1 10 (.loadB 0 none (.t 9)),oa 2 11 (.len (.t 10)),oi 3 12 0]) (.block 0 (.loop [2,3,10,11,12] 1 (.seq [13,12,11,10,3,2] (.region [oa 0 13 (.bin .lss (.t 12) (.t 11))]) (.seq [12,11,10,3,2] (.cond (.t 13) .skip (.exit 0)) (.seq [12,11,10,3,2] (.block 1 (.seq [12,11,10,5,3,2] (.region [oa 0 14 (.indexA 1 (.t 10) (.t 12)),oa 1 15 (.loadH none (.t 14)),on 2 5 15]) (.region [oa 0 16 (.fieldA 1 (.t 3)),xB 1 17 (.loadB 2 none (.t 16)) (rg 1),on 2 18 5,xA 3 19 (.app 4 (.c .nils) (.t 18)) [2],⟨4,some 20,.a false (.litSlice 1 1 [.nils] [(0,1,(.t 19))]) (some (.one (.sl BS))),none,[2,3]⟩,xA 5 21 (.app 1 (.t 17) (.t 20)) (rg 5),xA 6 22 (.fieldA 1 (.t 3)) (rg 6),xS 7 (.storeB 2 1 (.t 22) (.t 21)) (rg 7)]))) (.region [oa 0 23 (.bin .add (.t 12) Av),om 1 12 23]))))))) (.seq [2] (.region [ob 0 24 (.loadB 2 (some 2) (.t 3)),os 1 (.storeB 1 2 (.t 2) (.t 24))]) .ret))))
def JX:Fn:=⟨⟨1,25,3,false,[.cell 2 (some 2)],nR⟩,[.agg [AD,(.frz,.sl (.one (.sl BS)))]],.one (.agg [Au,(.own,.sl (.one (.sl BS)))])⟩
theorem nU:JX.A:=A8 trivial
def HQ:CV->Int×DW:=JX.V
def P3:CV->Prop:=JX.O
theorem oe:JX.B:=Ba trivial (by kernel_rfl) (λ x=>by kernel_rfl)
end
section
set_option maxRecDepth 100000
def TS(x:CV)(x0:CV):Bool:=(iLt x0.1 (lLen x.2))
def TL(x:CV)(x0:CV):CV:=((iAdd .i64 x0.1 1),(lApp x0.2 [(lApp [] (lGet x.2 (iNat x0.1) []))]))
def Yj(x:CV)(x0:CV):Prop:=(((iLt x0.1 (lLen x.2))=true->((((0:Int)<=x0.1)/\(x0.1<(((List.length x.2):Int))))/\(((iNat x0.1)<(List.length x.2))/\((As (((List.length ([]:List CI))+(List.length (lGet x.2 (iNat x0.1) [])))*4))/\(As (((List.length x0.2)+(List.length [(lApp [] (lGet x.2 (iNat x0.1) []))]))*1))))))/\((iLt x0.1 (lLen x.2))=false->True))
theorem rQ (x):QK x=(x.1,(Al (TS x) (TL x) (0,[])).2):=(Kk.v x).trans (by kernel_rfl)
theorem sQ (x):Ua x=(LoopOk (TS x) (TL x) (Yj x) (0,[])):=(Kk.o x).trans (by kernel_rfl)
def Td(x:CV)(x0:CV):Bool:=(iLt x0.1 (lLen x.2))
def Ta(x:CV)(x0:CV):CV:=((iAdd .i64 x0.1 1),(lApp x0.2 [(lGet x.2 (iNat x0.1) [])]))
def XH(x:CV)(x0:CV):Prop:=(((iLt x0.1 (lLen x.2))=true->((((0:Int)<=x0.1)/\(x0.1<(((List.length x.2):Int))))/\(((iNat x0.1)<(List.length x.2))/\((As ((List.length (lGet x.2 (iNat x0.1) []))*4))/\(As (((List.length x0.2)+(List.length [(lGet x.2 (iNat x0.1) [])]))*1))))))/\((iLt x0.1 (lLen x.2))=false->True))
theorem nD (x):HQ x=(x.1,(Al (Td x) (Ta x) (0,[])).2):=(JX.v x).trans (by kernel_rfl)
theorem nG (x):P3 x=(LoopOk (Td x) (Ta x) (XH x) (0,[])):=(JX.o x).trans (by kernel_rfl)
attribute [irreducible] QK Ua HQ P3
end
section
set_option maxRecDepth 8000
def qc:DCode:=(.seq [1] (.region [oa 0 1 (.boxB 0 7 (.t 0)),oa 1 2 (.mv Ar)]) (.seq [1] (.seq [20,1] (.region [oa 0 5 (.fieldA 0 (.t 1)),oa 1 6 (.loadB 0 (some 2) (.t 5)),oF 2 7 H4 [(.t 6)],oa 3 8 (.un .not (.t 7)),om 4 9 8,og 5 10 (.fieldA 2 (.t 1)) 9 false,og 6 11 (.loadB 0 none (.t 10)) 9 false,og 7 12 (.len (.t 11)) 9 false,og 8 13 (.bin .gtr (.t 12) (.c (.int .i64 4))) 9 false,oa 9 14 (.pick (.t 9) A7 (.t 13)),om 10 15 14,og 11 16 (.fieldA 4 (.t 1)) 15 false,og 12 17 (.loadB 0 none (.t 16)) 15 false,⟨13,some 18,.call false En.S En.P En.D [(.t 17)],(some (15,false)),[]⟩,og 14 19 (.un .not (.t 18)) 15 false,oa 15 20 (.pick (.t 15) A7 (.t 19))]) (.cond (.t 20) (.seq [2] (.region [oa 0 2 (.mv Ar)]) .ret) .skip)) (.seq [1] (.seq [3,1] (.region [oi 0 3 0]) (.block 0 (.loop [1,3] 1 (.seq [3,1] (.seq [25,3,1] (.region [om 0 21 3,oa 1 22 (.fieldA 2 (.t 1)),oa 2 23 (.loadB 0 none (.t 22)),oa 3 24 (.len (.t 23)),oa 4 25 (.bin .lss (.t 21) (.t 24))]) (.cond (.t 25) .skip (.exit 0))) (.seq [3,1] (.block 1 (.seq [34,3,1] (.region [oa 0 28 (.fieldA 2 (.t 1)),oa 1 29 (.loadB 0 none (.t 28)),om 2 30 3,oa 3 31 (.indexA 1 (.t 29) (.t 30)),oa 4 32 (.loadH none (.t 31)),oF 5 33 GH [(.t 32)],oa 6 34 (.un .not (.t 33))]) (.cond (.t 34) (.seq [2] (.region [oa 0 2 (.mv Ar)]) .ret) .skip))) (.region [om 0 26 3,oa 1 27 (.bin .add (.t 26) Av),om 2 3 27])))))) (.seq [1] (.seq [4,1] (.region [oi 0 4 0]) (.block 2 (.loop [1,4] 1 (.seq [4,1] (.seq [39,4,1] (.region [om 0 35 4,oa 1 36 (.fieldA 4 (.t 1)),oa 2 37 (.loadB 0 none (.t 36)),oa 3 38 (.len (.t 37)),oa 4 39 (.bin .lss (.t 35) (.t 38))]) (.cond (.t 39) .skip (.exit 2))) (.seq [4,1] (.block 3 (.seq [75,4,1] (.region [oa 0 42 (.fieldA 4 (.t 1)),xA 1 43 (.loadB 0 none (.t 42)) (rg 1),om 2 44 4,xA 3 45 (.indexA 5 (.t 43) (.t 44)) (rg 3),xA 4 46 (.fieldA 0 (.t 45)) (rg 4),xA 5 47 (.loadH none (.t 46)) (rg 5),oa 6 48 (.fieldA 0 (.t 1)),xA 7 49 (.fieldA 0 (.t 48)) [6],xA 8 50 (.loadB 0 none (.t 49)) [6,7],xA 9 51 (.bin .geq (.t 47) (.t 50)) (rg 9),xA 10 52 (.mv (.t 51)) (rg 10),⟨11,some 53,.a false (.fieldA 4 (.t 1)) none,(some (52,false)),[0,1,2,3,4,5,6,7,8,9,10]⟩,⟨12,some 54,.a false (.loadB 0 none (.t 53)) none,(some (52,false)),[0,1,2,3,4,5,6,7,8,9,10,11]⟩,⟨13,some 55,.a false (.mv (.t 4)) none,(some (52,false)),[0,1,2,3,4,5,6,7,8,9,10]⟩,⟨14,some 56,.a false (.indexA 5 (.t 54) (.t 55)) none,(some (52,false)),[0,1,2,3,4,5,6,7,8,9,10,11,12,13]⟩,⟨15,some 57,.a false (.fieldA 1 (.t 56)) none,(some (52,false)),[0,1,2,3,4,5,6,7,8,9,10,11,12,13,14]⟩,⟨16,some 58,.a false (.fieldA 0 (.t 57)) none,(some (52,false)),[0,1,2,3,4,5,6,7,8,9,10,11,12,13,14,15]⟩,⟨17,some 59,.a false (.loadH none (.t 58)) none,(some (52,false)),[0,1,2,3,4,5,6,7,8,9,10,11,12,13,14,15,16]⟩,⟨18,some 60,.a false (.bin .neq (.t 59) (.c (.int .i64 9))) none,(some (52,false)),[0,1,2,3,4,5,6,7,8,9,10,11,12,13,14,15,16,17]⟩,⟨19,some 61,.a false (.mv (.t 60)) none,(some (52,false)),[0,1,2,3,4,5,6,7,8,9,10,11,12,13,14,15,16,17,18]⟩,⟨20,some 62,.a false (.fieldA 4 (.t 1)) none,(some (61,true)),[0,1,2,3,4,5,6,7,8,9,10,11,12,13,14,15,16,17,18,19]⟩,⟨21,some 63,.a false (.loadB 0 none (.t 62)) none,(some (61,true)),[0,1,2,3,4,5,6,7,8,9,10,11,12,13,14,15,16,17,18,19,20]⟩,⟨22,some 64,.a false (.mv (.t 4)) none,(some (61,true)),[0,1,2,3,4,5,6,7,8,9,10,11,12,13,14,15,16,17,18,19]⟩,⟨23,some 65,.a false (.indexA 5 (.t 63) (.t 64)) none,(some (61,true)),[0,1,2,3,4,5,6,7,8,9,10,11,12,13,14,15,16,17,18,19,20,21,22]⟩,⟨24,some 66,.a false (.fieldA 1 (.t 65)) none,(some (61,true)),[0,1,2,3,4,5,6,7,8,9,10,11,12,13,14,15,16,17,18,19,20,21,22,23]⟩,⟨25,some 67,.a false (.fieldA 3 (.t 66)) none,(some (61,true)),[0,1,2,3,4,5,6,7,8,9,10,11,12,13,14,15,16,17,18,19,20,21,22,23,24]⟩,⟨26,some 68,.a false (.loadH none (.t 67)) none,(some (61,true)),[0,1,2,3,4,5,6,7,8,9,10,11,12,13,14,15,16,17,18,19,20,21,22,23,24,25]⟩,⟨27,some 69,.a false (.fieldA 0 (.t 1)) none,(some (61,true)),[0,1,2,3,4,5,6,7,8,9,10,11,12,13,14,15,16,17,18,19]⟩,⟨28,some 70,.a false (.fieldA 1 (.t 69)) none,(some (61,true)),[0,1,2,3,4,5,6,7,8,9,10,11,12,13,14,15,16,17,18,19,27]⟩,⟨29,some 71,.a false (.loadB 0 none (.t 70)) none,(some (61,true)),[0,1,2,3,4,5,6,7,8,9,10,11,12,13,14,15,16,17,18,19,27,28]⟩,⟨30,some 72,.a false (.len (.t 71)) none,(some (61,true)),[0,1,2,3,4,5,6,7,8,9,10,11,12,13,14,15,16,17,18,19,27,28,29]⟩,⟨31,some 73,.a false (.bin .geq (.t 68) (.t 72)) none,(some (61,true)),[0,1,2,3,4,5,6,7,8,9,10,11,12,13,14,15,16,17,18,19,20,21,22,23,24,25,26,27,28,29,30]⟩,⟨32,some 74,.a false (.pick (.t 61) (.t 73) Ar) none,(some (52,false)),[0,1,2,3,4,5,6,7,8,9,10,11,12,13,14,15,16,17,18,19,20,21,22,23,24,25,26,27,28,29,30,31]⟩,xA 33 75 (.pick (.t 52) A7 (.t 74)) (rg 33)]) (.cond (.t 75) (.seq [2] (.region [oa 0 2 (.mv Ar)]) .ret) .skip))) (.region [om 0 40 4,oa 1 41 (.bin .add (.t 40) Av),om 2 4 41])))))) (.seq [2] (.region [oa 0 76 (.fieldA 3 (.t 1)),xA 1 77 (.loadB 0 none (.t 76)) (rg 1),oa 2 78 (.fieldA 0 (.t 1)),xA 3 79 (.fieldA 1 (.t 78)) [2],xA 4 80 (.loadB 0 none (.t 79)) [2,3],xA 5 81 (.len (.t 80)) [2,3,4],xA 6 82 (.bin .shl Av (.t 81)) [2,3,4,5],xA 7 83 (.bin .sub (.t 82) Av) [2,3,4,5,6],xF 8 84 BF [(.t 77),AE,(.t 83)] (rg 8),xA 9 85 (.mv (.t 84)) (rg 9),⟨10,some 86,.a false (.fieldA 3 (.t 1)) none,(some (85,true)),[0,1,2,3,4,5,6,7,8,9]⟩,⟨11,some 87,.a false (.loadB 0 none (.t 86)) none,(some (85,true)),[0,1,2,3,4,5,6,7,8,9,10]⟩,⟨12,some 88,.a false (.bin .rem (.t 87) (.c (.int .i64 2))) none,(some (85,true)),[0,1,2,3,4,5,6,7,8,9,10,11]⟩,⟨13,some 89,.a false (.bin .eql (.t 88) AE) none,(some (85,true)),[0,1,2,3,4,5,6,7,8,9,10,11,12]⟩,xA 14 90 (.pick (.t 85) (.t 89) Ar) (rg 14),xA 15 91 (.mv (.t 90)) (rg 15),⟨16,some 92,.a false (.fieldA 5 (.t 1)) none,(some (91,true)),[0,1,2,3,4,5,6,7,8,9,10,11,12,13,14,15]⟩,⟨17,some 93,.a false (.loadB 0 none (.t 92)) none,(some (91,true)),[0,1,2,3,4,5,6,7,8,9,10,11,12,13,14,15,16]⟩,⟨18,some 94,.call false BF.S BF.P BF.D [(.t 93),AE,(.c (.int .i64 15))],(some (91,true)),[0,1,2,3,4,5,6,7,8,9,10,11,12,13,14,15,16,17]⟩,xA 19 95 (.pick (.t 91) (.t 94) Ar) (rg 19),xA 20 2 (.mv (.t 95)) (rg 20)]) .ret)))))
def GG:Fn:=⟨⟨1,96,1,true,[.tmp 2],qc⟩,[.agg [AD,(.frz,.sl (.one (.sl BS))),(.frz,.sl (.one (.sl BV))),AD,(.frz,.sl BE),AD,(.frz,.bool)]],.one (.one .own (.bool))⟩
theorem Yk:GG.A:=A8 ⟨dQ,Ue,dT,F6,F6,trivial⟩
def F4:B8->Bool:=GG.V
def NU:B8->Prop:=GG.O
theorem Yd:GG.B:=Ba ⟨dP,Un,dW,F8,F8,trivial⟩ (by kernel_rfl) (λ x=>by kernel_rfl)
def pf:DCode:=(.seq [1] (.region [oa 0 1 (.boxB 0 7 (.t 0)),oa 1 2 (.mv Ar)]) (.seq [1] (.seq [33,1] (.region [oa 0 8 (.fieldA 0 (.t 1)),oa 1 9 (.loadB 0 (some 2) (.t 8)),oF 2 10 J3 [(.t 9)],oa 3 11 (.un .not (.t 10)),om 4 12 11,og 5 13 (.fieldA 2 (.t 1)) 12 false,og 6 14 (.loadB 0 none (.t 13)) 12 false,og 7 15 (.len (.t 14)) 12 false,og 8 16 (.bin .gtr (.t 15) (.c (.int .i64 4))) 12 false,oa 9 17 (.pick (.t 12) A7 (.t 16)),om 10 18 17,og 11 19 (.fieldA 4 (.t 1)) 18 false,og 12 20 (.loadB 0 none (.t 19)) 18 false,⟨13,some 21,.call false FO.S FO.P FO.D [(.t 20)],(some (18,false)),[]⟩,og 14 22 (.un .not (.t 21)) 18 false,oa 15 23 (.pick (.t 18) A7 (.t 22)),om 16 24 23,og 17 25 (.fieldA 5 (.t 1)) 24 false,og 18 26 (.loadB 0 none (.t 25)) 24 false,og 19 27 (.bin .lss (.t 26) AE) 24 false,oa 20 28 (.pick (.t 24) A7 (.t 27)),om 21 29 28,og 22 30 (.fieldA 5 (.t 1)) 29 false,og 23 31 (.loadB 0 none (.t 30)) 29 false,og 24 32 (.bin .gtr (.t 31) (.c (.int .i64 15))) 29 false,oa 25 33 (.pick (.t 29) A7 (.t 32))]) (.cond (.t 33) (.seq [2] (.region [oa 0 2 (.mv Ar)]) .ret) .skip)) (.seq [1] (.seq [37,36,35,1] (.region [oa 0 34 (.fieldA 2 (.t 1)),oa 1 35 (.loadB 0 none (.t 34)),oa 2 36 (.len (.t 35)),oi 3 37 0]) (.block 0 (.loop [1,35,36,37] 1 (.seq [38,37,36,35,1] (.region [oa 0 38 (.bin .lss (.t 37) (.t 36))]) (.seq [37,36,35,1] (.cond (.t 38) .skip (.exit 0)) (.seq [37,36,35,1] (.block 1 (.seq [37,36,35,4,1] (.region [oa 0 39 (.indexA 1 (.t 35) (.t 37)),oa 1 40 (.loadH none (.t 39)),on 2 4 40]) (.seq [43,37,36,35,1] (.region [on 0 41 4,oF 1 42 Kg [(.t 41)],oa 2 43 (.un .not (.t 42))]) (.cond (.t 43) (.seq [2] (.region [oa 0 2 (.mv Ar)]) .ret) .skip)))) (.region [oa 0 44 (.bin .add (.t 37) Av),om 1 37 44]))))))) (.seq [5,1] (.region [oa 0 45 (.fieldA 0 (.t 1)),oa 1 46 (.fieldA 1 (.t 45)),oa 2 47 (.loadB 0 none (.t 46)),oa 3 48 (.len (.t 47)),om 4 5 48]) (.seq [5,1] (.seq [52,51,50,5,1] (.region [oa 0 49 (.fieldA 4 (.t 1)),oa 1 50 (.loadB 0 none (.t 49)),oa 2 51 (.len (.t 50)),oi 3 52 0]) (.block 2 (.loop [1,5,50,51,52] 1 (.seq [53,52,51,50,5,1] (.region [oa 0 53 (.bin .lss (.t 52) (.t 51))]) (.seq [52,51,50,5,1] (.cond (.t 53) .skip (.exit 2)) (.seq [52,51,50,5,1] (.block 3 (.seq [52,51,50,7,5,1] (.region [oa 0 54 (.indexA 5 (.t 50) (.t 52)),ob 1 55 (.loadH (some 5) (.t 54)),oa 2 7 (.allocB 1 [Ab,Ab,Ab,Ab,Ab]),os 3 (.storeB 1 5 (.t 7) (.t 55))]) (.seq [74,52,51,50,5,1] (.region [oa 0 56 (.fieldA 0 (.t 7)),oa 1 57 (.loadB 1 none (.t 56)),oa 2 58 (.fieldA 0 (.t 1)),oa 3 59 (.fieldA 0 (.t 58)),oa 4 60 (.loadB 0 none (.t 59)),oa 5 61 (.bin .geq (.t 57) (.t 60)),om 6 62 61,og 7 63 (.fieldA 1 (.t 7)) 62 false,og 8 64 (.fieldA 0 (.t 63)) 62 false,og 9 65 (.loadB 1 none (.t 64)) 62 false,og 10 66 (.bin .neq (.t 65) (.c (.int .i64 9))) 62 false,og 11 67 (.mv (.t 66)) 62 false,og 12 68 (.fieldA 1 (.t 7)) 67 true,og 13 69 (.fieldA 3 (.t 68)) 67 true,og 14 70 (.loadB 1 none (.t 69)) 67 true,og 15 71 (.mv (.t 5)) 67 true,og 16 72 (.bin .geq (.t 70) (.t 71)) 67 true,og 17 73 (.pick (.t 67) (.t 72) Ar) 62 false,oa 18 74 (.pick (.t 62) A7 (.t 73))]) (.cond (.t 74) (.seq [2] (.region [oa 0 2 (.mv Ar)]) .ret) .skip)))) (.region [oa 0 75 (.bin .add (.t 52) Av),om 1 52 75]))))))) (.seq [2] (.region [oa 0 76 (.fieldA 3 (.t 1)),xA 1 77 (.loadB 0 none (.t 76)) (rg 1),xA 2 78 (.bin .geq (.t 77) AE) (rg 2),xA 3 79 (.mv (.t 78)) (rg 3),⟨4,some 80,.a false (.fieldA 3 (.t 1)) none,(some (79,true)),[0,1,2,3]⟩,⟨5,some 81,.a false (.loadB 0 none (.t 80)) none,(some (79,true)),[0,1,2,3,4]⟩,⟨6,some 82,.a false (.bin .rem (.t 81) (.c (.int .i64 2))) none,(some (79,true)),[0,1,2,3,4,5]⟩,⟨7,some 83,.a false (.bin .eql (.t 82) AE) none,(some (79,true)),[0,1,2,3,4,5,6]⟩,xA 8 84 (.pick (.t 79) (.t 83) Ar) (rg 8),xA 9 85 (.mv (.t 84)) (rg 9),⟨10,some 86,.a false (.fieldA 3 (.t 1)) none,(some (85,true)),[0,1,2,3,4,5,6,7,8,9]⟩,⟨11,some 87,.a false (.loadB 0 none (.t 86)) none,(some (85,true)),[0,1,2,3,4,5,6,7,8,9,10]⟩,⟨12,some 88,.a false (.mv (.t 5)) none,(some (85,true)),[0,1,2,3,4,5,6,7,8,9]⟩,⟨13,some 89,.a false (.bin .shl Av (.t 88)) none,(some (85,true)),[0,1,2,3,4,5,6,7,8,9,12]⟩,⟨14,some 90,.a false (.bin .lss (.t 87) (.t 89)) none,(some (85,true)),[0,1,2,3,4,5,6,7,8,9,10,11,12,13]⟩,xA 15 91 (.pick (.t 85) (.t 90) Ar) (rg 15),xA 16 2 (.mv (.t 91)) (rg 16)]) .ret))))))
def J2:Fn:=⟨⟨1,92,2,true,[.tmp 2],pf⟩,[.agg [AD,(.frz,.sl (.one (.sl BS))),(.frz,.sl (.one (.sl BV))),AD,(.frz,.sl BE),AD,(.frz,.bool)]],.one (.one .own (.bool))⟩
theorem pM:J2.A:=A8 ⟨pW,YG,qT,trivial⟩
def Ea:B8->Bool:=J2.V
def NV:B8->Prop:=J2.O
theorem pS:J2.B:=Ba ⟨pK,YK,qq,trivial⟩ (by kernel_rfl) (λ x=>by kernel_rfl)
def rH:DCode:=(.seq [2,1] (.region [oa 0 1 (.boxB 0 7 (.t 0)),oa 1 2 (.allocB 1 [Ab,.nils,.nils,Ab,.nils,Ab,CW])]) (.seq [3,2,1] (.region [ob 0 5 (.loadB 0 (some 7) (.t 1)),oa 1 3 (.allocB 2 [Ab,.nils,.nils,Ab,.nils,Ab,CW]),os 2 (.storeB 2 7 (.t 3) (.t 5))]) (.seq [3,2,1] (.region [oa 0 6 (.fieldA 0 (.t 1)),oa 1 7 (.loadB 0 (some 2) (.t 6)),oF 2 8 Kk [(.t 7)],oa 3 9 (.fieldA 0 (.t 3)),os 4 (.storeB 2 2 (.t 9) (.t 8))]) (.seq [3,2,1] (.region [⟨0,some 10,.a false (.litSlice 1 0 [] []) (some (.one (.sl BV))),none,[]⟩,oa 1 11 (.fieldA 2 (.t 3)),os 2 (.storeB 2 1 (.t 11) (.t 10))]) (.seq [3,2,1] (.seq [4,3,2,1] (.region [oi 0 4 0]) (.block 0 (.loop [1,2,3,4] 1 (.seq [4,3,2,1] (.seq [16,4,3,2,1] (.region [om 0 12 4,oa 1 13 (.fieldA 2 (.t 1)),oa 2 14 (.loadB 0 none (.t 13)),oa 3 15 (.len (.t 14)),oa 4 16 (.bin .lss (.t 12) (.t 15))]) (.cond (.t 16) .skip (.exit 0))) (.seq [4,3,2,1] (.block 1 (.region [oa 0 19 (.fieldA 2 (.t 3)),xB 1 20 (.loadB 2 none (.t 19)) (rg 1),oa 3 22 (.fieldA 2 (.t 1)),xA 4 23 (.loadB 0 none (.t 22)) [3],om 5 24 4,xA 6 25 (.indexA 1 (.t 23) (.t 24)) [3,4,5],xA 7 26 (.loadH none (.t 25)) [3,4,5,6],⟨2,some 21,.a false (.litSlice 3 0 [] []) (some BV),none,[]⟩,xA 8 27 (.app 3 (.t 21) (.t 26)) [2,3,4,5,6,7],⟨9,some 28,.a false (.litSlice 1 1 [.nils] [(0,1,(.t 27))]) (some (.one (.sl BV))),none,[2,3,4,5,6,7,8]⟩,xA 10 29 (.app 1 (.t 20) (.t 28)) (rg 10),xA 11 30 (.fieldA 2 (.t 3)) (rg 11),xS 12 (.storeB 2 1 (.t 30) (.t 29)) (rg 12)])) (.region [om 0 17 4,oa 1 18 (.bin .add (.t 17) Av),om 2 4 18])))))) (.seq [3,2] (.region [⟨0,some 31,.a false (.litSlice 5 0 [] []) (some BE),none,[]⟩,oa 1 32 (.fieldA 4 (.t 1)),oa 2 33 (.loadB 0 none (.t 32)),oa 3 34 (.app 5 (.t 31) (.t 33)),oa 4 35 (.fieldA 4 (.t 3)),os 5 (.storeB 2 1 (.t 35) (.t 34))]) (.seq [2] (.region [ob 0 36 (.loadB 2 (some 7) (.t 3)),os 1 (.storeB 1 7 (.t 2) (.t 36))]) .ret)))))))
def GK:Fn:=⟨⟨1,37,3,false,[.cell 2 (some 7)],rH⟩,[.agg [AD,(.frz,.sl (.one (.sl BS))),(.frz,.sl (.one (.sl BV))),AD,(.frz,.sl BE),AD,(.frz,.bool)]],.one (.agg [Au,(.own,.sl (.one (.sl BS))),(.own,.sl (.one (.sl BV))),Au,(.own,.sl BE),Au,(.own,.bool)])⟩
theorem YM:GK.A:=A8 ⟨sP,trivial⟩
def DI:B8->Int×DW×Df×Int×Bv×Int×Bool:=GK.V
def Oc:B8->Prop:=GK.O
theorem YF:GK.B:=Ba ⟨rC,trivial⟩ (by kernel_rfl) (λ x=>by kernel_rfl)
def oy:DCode:=(.seq [4,2,1] (.region [oa 0 2 (.boxB 0 2 (.t 0)),oa 1 4 (.allocB 1 [Ab,.nils,.nils,Ab,.nils,Ab,CW]),oa 2 5 (.mv Ar)]) (.seq [6,4] (.region [ob 0 7 (.loadB 0 (some 2) (.t 2)),om 1 8 1,oa 2 9 (.build [Ab,.nils,.nils,Ab,.nils,Ab,CW] [(0,2,(.t 7)),(2,1,(.t 8))]),oa 3 6 (.allocB 2 [Ab,.nils,.nils,Ab,.nils,Ab,CW]),os 4 (.storeB 2 7 (.t 6) (.t 9))]) (.seq [6,4] (.seq [12,6,4] (.region [oa 0 10 (.loadB 2 (some 7) (.t 6)),oF 1 11 GG [(.t 10)],oa 2 12 (.un .not (.t 11))]) (.cond (.t 12) (.seq [5,4] (.region [oa 0 13 (.build [Ab,.nils,.nils,Ab,.nils,Ab,CW] []),os 1 (.storeB 1 7 (.t 4) (.t 13)),oa 2 5 (.mv Ar)]) .ret) .skip)) (.seq [5,4] (.region [oa 0 14 (.loadB 2 (some 7) (.t 6)),oF 1 15 GK [(.t 14)],os 2 (.storeB 1 7 (.t 4) (.t 15)),oa 3 5 (.mv A7)]) .ret))))
def J0:Fn:=⟨⟨2,16,3,false,[.cell 4 (some 7),.tmp 5],oy⟩,[.agg [AD,(.frz,.sl (.one (.sl BS)))],.one .frz (.sl (.one (.sl BV)))],.tup [.agg [Au,(.own,.sl (.one (.sl BS))),(.own,.sl (.one (.sl BV))),Au,(.own,.sl BE),Au,(.own,.bool)],.one .own (.bool)]⟩
theorem oC:J0.A:=A8 ⟨Yk,YM,trivial⟩
def NX:Xd->B8×Bool:=J0.V
def Tu:Xd->Prop:=J0.O
theorem oL:J0.B:=Ba ⟨Yd,YF,trivial⟩ (by kernel_rfl) (λ x=>by kernel_rfl)
def oq:DCode:=(.seq [0] (.region [oa 0 2 (.mv (.c .nils))]) (.seq [3,0] (.region [oa 0 3 (.mv (.c .nils))]) (.seq [3] (.seq [8,7,6,3] (.region [on 0 6 0,oa 1 7 (.len (.t 6)),oi 2 8 0]) (.block 0 (.loop [3,6,7,8] 1 (.seq [9,8,7,6,3] (.region [oa 0 9 (.bin .lss (.t 8) (.t 7))]) (.seq [8,7,6,3] (.cond (.t 9) .skip (.exit 0)) (.seq [8,7,6,3] (.block 1 (.seq [8,7,6,5,3] (.region [oa 0 10 (.indexA 1 (.t 6) (.t 8)),oa 1 11 (.loadH none (.t 10)),on 2 5 11]) (.region [om 0 12 3,on 1 13 5,oa 2 14 (.app 3 (.c .nils) (.t 13)),⟨3,some 15,.a false (.litSlice 1 1 [.nils] [(0,1,(.t 14))]) (some (.one (.sl BV))),none,[]⟩,oa 4 16 (.app 1 (.t 12) (.t 15)),om 5 3 16]))) (.region [oa 0 17 (.bin .add (.t 8) Av),om 1 8 17]))))))) (.seq [2] (.region [om 0 18 3,om 1 2 18]) .ret))))
def JW:Fn:=⟨⟨1,19,0,false,[.tmp 2],oq⟩,[.one .frz (.sl (.one (.sl BV)))],.one (.one .own (.sl (.one (.sl BV))))⟩
theorem nM:JW.A:=A8 trivial
def Mn:Df->List CU:=JW.V
def P6:Df->Prop:=JW.O
theorem nC:JW.B:=Ba trivial (by kernel_rfl) (λ x=>by kernel_rfl)
end
section
set_option maxRecDepth 100000
def Mk(x:B8)(x0:Int):Bool:=(bAnd (iLt x0 (lLen x.2.2.1)) (bNot (bNot (F5 (lGet x.2.2.1 (iNat x0) [])))))
def HP(x0:Int):Int:=(iAdd .i64 x0 1)
def NJ(x:B8)(x0:Int):Bool:=(bAnd (iLt x0 (lLen x.2.2.2.2.1)) (bNot (bOr (iGe (lGet x.2.2.2.2.1 (iNat x0) (0,0,0,0,0)).1 x.1) (bAnd (iNe (lGet x.2.2.2.2.1 (iNat x0) (0,0,0,0,0)).2.1 9) (iGe (lGet x.2.2.2.2.1 (iNat x0) (0,0,0,0,0)).2.2.2.2 (lLen x.2.1))))))
def XR(x:B8)(x0:Int):Prop:=(((iLt x0 (lLen x.2.2.1))=true->((((0:Int)<=x0)/\(x0<(((List.length x.2.2.1):Int))))/\(((iNat x0)<(List.length x.2.2.1))/\(N3 (lGet x.2.2.1 (iNat x0) [])))))/\((iLt x0 (lLen x.2.2.1))=false->True))
def XQ(x:B8)(x0:Int):Prop:=(((iLt x0 (lLen x.2.2.2.2.1))=true->((((0:Int)<=x0)/\(x0<(((List.length x.2.2.2.2.1):Int))))/\(((iNat x0)<(List.length x.2.2.2.2.1))/\(((iGe (lGet x.2.2.2.2.1 (iNat x0) (0,0,0,0,0)).1 x.1)=true->True)/\((iGe (lGet x.2.2.2.2.1 (iNat x0) (0,0,0,0,0)).1 x.1)=false->((((0:Int)<=x0)/\(x0<(((List.length x.2.2.2.2.1):Int))))/\(((iNat x0)<(List.length x.2.2.2.2.1))/\(((iNe (lGet x.2.2.2.2.1 (iNat x0) (0,0,0,0,0)).2.1 9)=true->((((0:Int)<=x0)/\(x0<(((List.length x.2.2.2.2.1):Int))))/\((iNat x0)<(List.length x.2.2.2.2.1))))/\((iNe (lGet x.2.2.2.2.1 (iNat x0) (0,0,0,0,0)).2.1 9)=false->True)))))))))/\((iLt x0 (lLen x.2.2.2.2.1))=false->True))
theorem ph (x):F4 x=(bAnd (bNot (bOr (bNot (GF (x.1,x.2.1))) (bOr (iGt (lLen x.2.2.1) 4) (bNot (EE x.2.2.2.2.1))))) (bAnd (bNot (iLt (Al (Mk x) HP 0) (lLen x.2.2.1))) (bAnd (bNot (iLt (Al (NJ x) HP 0) (lLen x.2.2.2.2.1))) (bAnd (BD (x.2.2.2.1,0,(iSub .i64 (iShl .i64 1 (lLen x.2.1)) 1))) (bAnd (iEq (iRem x.2.2.2.1 2) 0) (BD (x.2.2.2.2.2.1,0,15))))))):=(GG.v x).trans (by kernel_rfl)
theorem qg (x):NU x=(((Qg (x.1,x.2.1))/\(((bNot (GF (x.1,x.2.1)))=true->True)/\((bNot (GF (x.1,x.2.1)))=false->(((iGt (lLen x.2.2.1) 4)=true->True)/\((iGt (lLen x.2.2.1) 4)=false->(Mx x.2.2.2.2.1))))))/\(((bOr (bNot (GF (x.1,x.2.1))) (bOr (iGt (lLen x.2.2.1) 4) (bNot (EE x.2.2.2.2.1))))=true->True)/\((bOr (bNot (GF (x.1,x.2.1))) (bOr (iGt (lLen x.2.2.1) 4) (bNot (EE x.2.2.2.2.1))))=false->((LoopOk (Mk x) HP (XR x) 0)/\(((iLt (Al (Mk x) HP 0) (lLen x.2.2.1))=true->True)/\((iLt (Al (Mk x) HP 0) (lLen x.2.2.1))=false->((LoopOk (NJ x) HP (XQ x) 0)/\(((iLt (Al (NJ x) HP 0) (lLen x.2.2.2.2.1))=true->True)/\((iLt (Al (NJ x) HP 0) (lLen x.2.2.2.2.1))=false->(((0:Int)<=(lLen x.2.1))/\((Ec (x.2.2.2.1,0,(iSub .i64 (iShl .i64 1 (lLen x.2.1)) 1)))/\(((BD (x.2.2.2.1,0,(iSub .i64 (iShl .i64 1 (lLen x.2.1)) 1)))=true->(((2:Int)≠0)/\(((iEq (iRem x.2.2.2.1 2) 0)=true->(Ec (x.2.2.2.2.2.1,0,15)))/\((iEq (iRem x.2.2.2.1 2) 0)=false->True))))/\((BD (x.2.2.2.1,0,(iSub .i64 (iShl .i64 1 (lLen x.2.1)) 1)))=false->True))))))))))))):=(GG.o x).trans (by kernel_rfl)
def JO(x:B8)(x0:Int):Bool:=(bAnd (iLt x0 (lLen x.2.2.1)) (bNot (bNot (H6 (lGet x.2.2.1 (iNat x0) [])))))
def HO(x0:Int):Int:=(iAdd .i64 x0 1)
def K4(x:B8)(x0:Int):Bool:=(bAnd (iLt x0 (lLen x.2.2.2.2.1)) (bNot (bOr (iGe (lGet x.2.2.2.2.1 (iNat x0) (0,0,0,0,0)).1 x.1) (bAnd (iNe (lGet x.2.2.2.2.1 (iNat x0) (0,0,0,0,0)).2.1 9) (iGe (lGet x.2.2.2.2.1 (iNat x0) (0,0,0,0,0)).2.2.2.2 (lLen x.2.1))))))
def XN(x:B8)(x0:Int):Prop:=(((iLt x0 (lLen x.2.2.1))=true->((((0:Int)<=x0)/\(x0<(((List.length x.2.2.1):Int))))/\(((iNat x0)<(List.length x.2.2.1))/\(N1 (lGet x.2.2.1 (iNat x0) [])))))/\((iLt x0 (lLen x.2.2.1))=false->True))
def XO(x:B8)(x0:Int):Prop:=(((iLt x0 (lLen x.2.2.2.2.1))=true->((((0:Int)<=x0)/\(x0<(((List.length x.2.2.2.2.1):Int))))/\((iNat x0)<(List.length x.2.2.2.2.1))))/\((iLt x0 (lLen x.2.2.2.2.1))=false->True))
theorem dJ (x):Ea x=(bAnd (bNot (bOr (bNot (D9 (x.1,x.2.1))) (bOr (iGt (lLen x.2.2.1) 4) (bOr (bNot (Cu x.2.2.2.2.1)) (bOr (iLt x.2.2.2.2.2.1 0) (iGt x.2.2.2.2.2.1 15)))))) (bAnd (bNot (iLt (Al (JO x) HO 0) (lLen x.2.2.1))) (bAnd (bNot (iLt (Al (K4 x) HO 0) (lLen x.2.2.2.2.1))) (bAnd (iGe x.2.2.2.1 0) (bAnd (iEq (iRem x.2.2.2.1 2) 0) (iLt x.2.2.2.1 (iShl .i64 1 (lLen x.2.1)))))))):=(J2.v x).trans (by kernel_rfl)
theorem pt (x):NV x=(((Qf (x.1,x.2.1))/\(((bNot (D9 (x.1,x.2.1)))=true->True)/\((bNot (D9 (x.1,x.2.1)))=false->(((iGt (lLen x.2.2.1) 4)=true->True)/\((iGt (lLen x.2.2.1) 4)=false->(Mv x.2.2.2.2.1))))))/\(((bOr (bNot (D9 (x.1,x.2.1))) (bOr (iGt (lLen x.2.2.1) 4) (bOr (bNot (Cu x.2.2.2.2.1)) (bOr (iLt x.2.2.2.2.2.1 0) (iGt x.2.2.2.2.2.1 15)))))=true->True)/\((bOr (bNot (D9 (x.1,x.2.1))) (bOr (iGt (lLen x.2.2.1) 4) (bOr (bNot (Cu x.2.2.2.2.1)) (bOr (iLt x.2.2.2.2.2.1 0) (iGt x.2.2.2.2.2.1 15)))))=false->((LoopOk (JO x) HO (XN x) 0)/\(((iLt (Al (JO x) HO 0) (lLen x.2.2.1))=true->True)/\((iLt (Al (JO x) HO 0) (lLen x.2.2.1))=false->((LoopOk (K4 x) HO (XO x) 0)/\(((iLt (Al (K4 x) HO 0) (lLen x.2.2.2.2.1))=true->True)/\((iLt (Al (K4 x) HO 0) (lLen x.2.2.2.2.1))=false->(((iGe x.2.2.2.1 0)=true->(((2:Int)≠0)/\(((iEq (iRem x.2.2.2.1 2) 0)=true->((0:Int)<=(lLen x.2.1)))/\((iEq (iRem x.2.2.2.1 2) 0)=false->True))))/\((iGe x.2.2.2.1 0)=false->True))))))))))):=(J2.o x).trans (by kernel_rfl)
def TB(x:B8)(x0:Int×Df):Bool:=(iLt x0.1 (lLen x.2.2.1))
def TF(x:B8)(x0:Int×Df):(Int×Df):=((iAdd .i64 x0.1 1),(lApp x0.2 [(lApp [] (lGet x.2.2.1 (iNat x0.1) []))]))
def Yn(x:B8)(x0:Int×Df):Prop:=(((iLt x0.1 (lLen x.2.2.1))=true->((((0:Int)<=x0.1)/\(x0.1<(((List.length x.2.2.1):Int))))/\(((iNat x0.1)<(List.length x.2.2.1))/\((As (((List.length ([]:List CR))+(List.length (lGet x.2.2.1 (iNat x0.1) [])))*3))/\(As (((List.length x0.2)+(List.length [(lApp [] (lGet x.2.2.1 (iNat x0.1) []))]))*1))))))/\((iLt x0.1 (lLen x.2.2.1))=false->True))
theorem ss (x):DI x=((QK (x.1,x.2.1)).1,(QK (x.1,x.2.1)).2,(Al (TB x) (TF x) (0,[])).2,x.2.2.2.1,(lApp [] x.2.2.2.2.1),x.2.2.2.2.2):=(GK.v x).trans (by kernel_rfl)
theorem rW (x):Oc x=((Ua (x.1,x.2.1))/\((LoopOk (TB x) (TF x) (Yn x) (0,[]))/\(As (((List.length ([]:List E0))+(List.length x.2.2.2.2.1))*5)))):=(GK.o x).trans (by kernel_rfl)
theorem dD (x):NX x=(bSel (bNot (F4 (x.1.1,x.1.2,x.2,0,[],0,false))) ((0,[],[],0,[],0,false),false) ((DI (x.1.1,x.1.2,x.2,0,[],0,false)),true)):=(J0.v x).trans (by kernel_rfl)
theorem oA (x):Tu x=((NU (x.1.1,x.1.2,x.2,0,[],0,false))/\(((bNot (F4 (x.1.1,x.1.2,x.2,0,[],0,false)))=true->True)/\((bNot (F4 (x.1.1,x.1.2,x.2,0,[],0,false)))=false->(Oc (x.1.1,x.1.2,x.2,0,[],0,false))))):=(J0.o x).trans (by kernel_rfl)
def Tc(x:Df)(x0:Xq):Bool:=(iLt x0.2 (lLen x))
def Tb(x:Df)(x0:Xq):Xq:=((lApp x0.1 [(lGet x (iNat x0.2) [])]),(iAdd .i64 x0.2 1))
def XG(x:Df)(x0:Xq):Prop:=(((iLt x0.2 (lLen x))=true->((((0:Int)<=x0.2)/\(x0.2<(((List.length x):Int))))/\(((iNat x0.2)<(List.length x))/\((As ((List.length (lGet x (iNat x0.2) []))*3))/\(As (((List.length x0.1)+(List.length [(lGet x (iNat x0.2) [])]))*1))))))/\((iLt x0.2 (lLen x))=false->True))
theorem nz (x):Mn x=(Al (Tc x) (Tb x) ([],0)).1:=(JW.v x).trans (by kernel_rfl)
theorem nO (x):P6 x=(LoopOk (Tc x) (Tb x) (XG x) ([],0)):=(JW.o x).trans (by kernel_rfl)
@[irreducible] def dN(x:Xd):B8×Bool:=(bSel (bNot (Ea ((HQ x.1).1,(HQ x.1).2,(Mn x.2),0,[],0,false))) ((0,[],[],0,[],0,false),false) (((HQ x.1).1,(HQ x.1).2,(Mn x.2),0,[],0,false),true))
@[irreducible] def dA(x:Xd):Prop:=((P3 x.1)/\((P6 x.2)/\(NV ((HQ x.1).1,(HQ x.1).2,(Mn x.2),0,[],0,false))))
attribute [irreducible] F4 NU Ea NV DI Oc NX Tu Mn P6
end
section
set_option maxRecDepth 8000
def pN:DCode:=(.seq [4,1,0] (.region [oa 0 4 (.allocB 0 [Ab,.nils])]) (.seq [5,4,1] (.region [on 0 12 0,oF 1 13 EO [(.t 12)],oa 2 5 (.allocB 1 [Ab,.nils]),os 3 (.storeB 1 2 (.t 5) (.t 13))]) (.seq [5,4,1] (.seq [6,5,4,1] (.region [oi 0 6 0]) (.block 0 (.loop [1,4,5,6] 1 (.seq [6,5,4,1] (.seq [17,6,5,4,1] (.region [om 0 14 6,on 1 15 1,oa 2 16 (.len (.t 15)),oa 3 17 (.bin .lss (.t 14) (.t 16))]) (.cond (.t 17) .skip (.exit 0))) (.seq [6,5,4,1] (.block 1 (.region [oa 0 20 (.fieldA 0 (.t 5)),xA 1 21 (.loadB 1 none (.t 20)) (rg 1),on 2 22 1,om 3 23 6,xA 4 24 (.indexA 5 (.t 22) (.t 23)) [2,3],xA 5 25 (.fieldA 1 (.t 24)) [2,3,4],xA 6 26 (.fieldA 2 (.t 25)) [2,3,4,5],xA 7 27 (.loadH none (.t 26)) [2,3,4,5,6],xA 8 28 (.bin .or (.t 21) (.t 27)) (rg 8),xA 9 29 (.fieldA 0 (.t 5)) (rg 9),xS 10 (.storeB 1 1 (.t 29) (.t 28)) (rg 10)])) (.region [om 0 18 6,oa 1 19 (.bin .add (.t 18) Av),om 2 6 19])))))) (.seq [7,5,4,1] (.region [⟨0,some 30,.a false (.litSlice 1 0 [] []) (some (.one (.int .i64))),none,[]⟩,om 1 7 30]) (.seq [7,5,4] (.seq [8,7,5,4,1] (.region [oi 0 8 1]) (.block 2 (.loop [1,4,5,7,8] 1 (.seq [8,7,5,4,1] (.seq [32,8,7,5,4,1] (.region [om 0 31 8,oa 1 32 (.bin .leq (.t 31) (.c (.int .i64 56)))]) (.cond (.t 32) .skip (.exit 2))) (.seq [8,7,5,4,1] (.block 3 (.seq [9,8,7,5,4,1] (.region [oa 0 9 (.mv Ar)]) (.seq [9,8,7,5,4,1] (.seq [10,9,8,7,5,4,1] (.region [oi 0 10 0]) (.block 4 (.loop [1,4,5,7,8,9,10] 1 (.seq [10,9,8,7,5,4,1] (.seq [39,10,9,8,7,5,4,1] (.region [om 0 35 10,oa 1 36 (.fieldA 1 (.t 5)),oa 2 37 (.loadB 1 none (.t 36)),oa 3 38 (.len (.t 37)),oa 4 39 (.bin .lss (.t 35) (.t 38))]) (.cond (.t 39) .skip (.exit 4))) (.seq [10,9,8,7,5,4,1] (.block 5 (.region [om 0 42 9,om 1 43 42,og 2 44 (.fieldA 1 (.t 5)) 43 false,og 3 45 (.loadB 1 none (.t 44)) 43 false,og 4 46 (.mv (.t 10)) 43 false,og 5 47 (.indexA 1 (.t 45) (.t 46)) 43 false,og 6 48 (.loadH none (.t 47)) 43 false,og 7 49 (.mv (.t 8)) 43 false,og 8 50 (.bin .eql (.t 48) (.t 49)) 43 false,oa 9 51 (.pick (.t 43) A7 (.t 50)),om 10 9 51])) (.region [om 0 40 10,oa 1 41 (.bin .add (.t 40) Av),om 2 10 41])))))) (.seq [9,8,7,5,4,1] (.seq [11,9,8,7,5,4,1] (.region [oi 0 11 0]) (.block 6 (.loop [1,4,5,7,8,9,11] 1 (.seq [11,9,8,7,5,4,1] (.seq [55,11,9,8,7,5,4,1] (.region [om 0 52 11,on 1 53 1,oa 2 54 (.len (.t 53)),oa 3 55 (.bin .lss (.t 52) (.t 54))]) (.cond (.t 55) .skip (.exit 6))) (.seq [11,9,8,7,5,4,1] (.block 7 (.region [om 0 58 9,om 1 59 58,⟨2,some 60,.a true (.mv (.t 1)) none,(some (59,false)),[]⟩,og 3 61 (.mv (.t 11)) 59 false,og 4 62 (.indexA 5 (.t 60) (.t 61)) 59 false,og 5 63 (.fieldA 1 (.t 62)) 59 false,og 6 64 (.fieldA 1 (.t 63)) 59 false,og 7 65 (.loadH none (.t 64)) 59 false,og 8 66 (.mv (.t 8)) 59 false,og 9 67 (.bin .eql (.t 65) (.t 66)) 59 false,oa 10 68 (.pick (.t 59) A7 (.t 67)),om 11 9 68])) (.region [om 0 56 11,oa 1 57 (.bin .add (.t 56) Av),om 2 11 57])))))) (.seq [69,8,7,5,4,1] (.region [om 0 69 9]) (.cond (.t 69) (.region [om 0 70 7,om 1 71 8,⟨2,some 72,.a false (.litSlice 1 1 [Ab] [(0,1,(.t 71))]) (some (.one (.int .i64))),none,[]⟩,oa 3 73 (.app 1 (.t 70) (.t 72)),om 4 7 73]) .skip)))))) (.region [om 0 33 8,oa 1 34 (.bin .add (.t 33) Av),om 2 8 34])))))) (.seq [5,4] (.region [om 0 74 7,oa 1 75 (.fieldA 1 (.t 5)),os 2 (.storeB 1 1 (.t 75) (.t 74))]) (.seq [4] (.region [ob 0 76 (.loadB 1 (some 2) (.t 5)),os 1 (.storeB 0 2 (.t 4) (.t 76))]) .ret)))))))
def HY:Fn:=⟨⟨2,77,2,false,[.cell 4 (some 2)],pN⟩,[.one .frz (.sl BE),.one .frz (.sl BE)],.one (.agg [Au,(.own,.sl (.one (.int .i64)))])⟩
theorem dR:HY.A:=A8 ⟨Qe,trivial⟩
def Ff:G7->Int×List (Int):=HY.V
def NW:G7->Prop:=HY.O
theorem dM:HY.B:=Ba ⟨Qh,trivial⟩ (by kernel_rfl) (λ x=>by kernel_rfl)
def nr:DCode:=(.seq [1,0] (.region [oa 0 4 (.mv (.c .nils))]) (.seq [5,1,0] (.region [⟨0,some 9,.a false (.litSlice 2 0 [] []) (some (.cons (.int .i64) (.one (.sl (.one (.int .i64)))))),none,[]⟩,om 1 5 9]) (.seq [6,5,1,0] (.region [⟨0,some 10,.a false (.litSlice 5 0 [] []) (some BE),none,[]⟩,om 1 6 10]) (.seq [6,5,1,0] (.seq [18,6,5,1,0] (.region [on 0 11 0,oF 1 12 En [(.t 11)],oa 2 13 (.un .not (.t 12)),om 3 14 13,⟨4,some 15,.a true (.mv (.t 1)) none,(some (14,false)),[]⟩,⟨5,some 16,.call false GH.S GH.P GH.D [(.t 15)],(some (14,false)),[]⟩,og 6 17 (.un .not (.t 16)) 14 false,oa 7 18 (.pick (.t 14) A7 (.t 17))]) (.cond (.t 18) (.seq [4] (.region [om 0 19 5,om 1 4 19]) .ret) .skip)) (.seq [5] (.seq [7,6,5,1,0] (.region [oi 0 7 0]) (.block 0 (.loop [0,1,5,6,7] 1 (.seq [7,6,5,1,0] (.seq [23,7,6,5,1,0] (.region [om 0 20 7,on 1 21 1,oa 2 22 (.len (.t 21)),oa 3 23 (.bin .lss (.t 20) (.t 22))]) (.cond (.t 23) .skip (.exit 0))) (.seq [7,6,5,1,0] (.block 1 (.seq [8,7,6,5,1,0] (.region [on 0 26 1,om 1 27 7,oa 2 28 (.indexA 3 (.t 26) (.t 27)),ob 3 29 (.loadH (some 3) (.t 28)),oa 4 8 (.allocB 0 [Ab,Ab,Ab]),os 5 (.storeB 0 3 (.t 8) (.t 29))]) (.seq [8,7,6,5,1,0] (.seq [32,8,7,6,5,1,0] (.region [oa 0 30 (.fieldA 0 (.t 8)),oa 1 31 (.loadB 0 none (.t 30)),oa 2 32 (.bin .neq (.t 31) (.c (.int .i64 2)))]) (.cond (.t 32) (.seq [8,7,6,5,1,0] (.region [om 0 33 6,oa 1 34 (.loadB 0 (some 3) (.t 8)),oF 2 35 FK [(.t 34)],oa 3 36 (.build [Ab,Ab,Ab,Ab,Ab] [(1,4,(.t 35))]),⟨4,some 37,.a false (.litSlice 5 1 [Ab,Ab,Ab,Ab,Ab] [(0,5,(.t 36))]) (some BE),none,[]⟩,oa 5 38 (.app 5 (.t 33) (.t 37)),om 6 6 38]) (.region [om 0 39 5,on 1 40 0,on 2 41 6,oF 3 42 HY [(.t 40),(.t 41)],⟨4,some 43,.a false (.litSlice 2 1 [Ab,.nils] [(0,2,(.t 42))]) (some (.cons (.int .i64) (.one (.sl (.one (.int .i64)))))),none,[]⟩,oa 5 44 (.app 2 (.t 39) (.t 43)),om 6 5 44])) .skip)) (.seq [47,8,7,6,5,1,0] (.region [oa 0 45 (.fieldA 0 (.t 8)),oa 1 46 (.loadB 0 none (.t 45)),oa 2 47 (.bin .neq (.t 46) Av)]) (.cond (.t 47) (.seq [7,6,5,1,0] (.region [on 0 48 6,on 1 49 6,oa 2 50 (.loadB 0 (some 3) (.t 8)),oF 3 51 Ia [(.t 49),(.t 50)],oF 4 52 GC [(.t 48),(.t 51)],om 5 6 52]) (.region [om 0 53 5,on 1 54 0,on 2 55 6,oF 3 56 HY [(.t 54),(.t 55)],⟨4,some 57,.a false (.litSlice 2 1 [Ab,.nils] [(0,2,(.t 56))]) (some (.cons (.int .i64) (.one (.sl (.one (.int .i64)))))),none,[]⟩,oa 5 58 (.app 2 (.t 53) (.t 57)),om 6 5 58])) .skip))))) (.region [om 0 24 7,oa 1 25 (.bin .add (.t 24) Av),om 2 7 25])))))) (.seq [4] (.region [om 0 59 5,om 1 4 59]) .ret))))))
def JM:Fn:=⟨⟨2,60,1,false,[.tmp 4],nr⟩,[.one .frz (.sl BE),.one .frz (.sl BV)],.one (.one .own (.sl (.cons (.int .i64) (.one (.sl (.one (.int .i64)))))))⟩
theorem nj:JM.A:=A8 ⟨Ue,dT,X9,dR,eH,XX,dR,trivial⟩
def Fe:Jv->List Dt:=JM.V
def NC:Jv->Prop:=JM.O
theorem nt:JM.B:=Ba ⟨Un,dW,X7,dM,eK,XT,dM,trivial⟩ (by kernel_rfl) (λ x=>by kernel_rfl)
end
section
set_option maxRecDepth 100000
def Th(x:G7)(x0:A0):Bool:=(iLt x0.1 (lLen x.2))
def To(x:G7)(x0:A0):A0:=((iAdd .i64 x0.1 1),(iOr .i64 x0.2 (lGet x.2 (iNat x0.1) (0,0,0,0,0)).2.2.2.1))
def NH(x0:Eh):Bool:=(iLe x0.2 56)
def K6(x:G7)(x1:L6):Bool:=(iLt x1.2 (lLen x.2))
def K5(x:G7)(x0:Eh)(x1:L6):L6:=((bOr x1.1 (iEq (lGet x.2 (iNat x1.2) (0,0,0,0,0)).2.2.1 x0.2)),(iAdd .i64 x1.2 1))
def IU(x:G7)(x1:L6):Bool:=(iLt x1.2 (lLen (Bb x.1).2))
def IV(x:G7)(x0:Eh)(x1:L6):L6:=((bOr x1.1 (iEq (lGet (Bb x.1).2 (iNat x1.2) 0) x0.2)),(iAdd .i64 x1.2 1))
def P5(x:G7)(x0:Eh):Eh:=((bSel (Al (K6 x) (K5 x x0) ((Al (IU x) (IV x x0) (false,0)).1,0)).1 (lApp x0.1 [x0.2]) x0.1),(iAdd .i64 x0.2 1))
def XJ(x:G7)(x0:A0):Prop:=(((iLt x0.1 (lLen x.2))=true->((((0:Int)<=x0.1)/\(x0.1<(((List.length x.2):Int))))/\((iNat x0.1)<(List.length x.2))))/\((iLt x0.1 (lLen x.2))=false->True))
def Tj(x:G7)(x1:L6):Prop:=(((iLt x1.2 (lLen (Bb x.1).2))=true->((x1.1=true->True)/\(x1.1=false->((((0:Int)<=x1.2)/\(x1.2<(((List.length (Bb x.1).2):Int))))/\((iNat x1.2)<(List.length (Bb x.1).2))))))/\((iLt x1.2 (lLen (Bb x.1).2))=false->True))
def Ts(x:G7)(x1:L6):Prop:=(((iLt x1.2 (lLen x.2))=true->((x1.1=true->True)/\(x1.1=false->((((0:Int)<=x1.2)/\(x1.2<(((List.length x.2):Int))))/\((iNat x1.2)<(List.length x.2))))))/\((iLt x1.2 (lLen x.2))=false->True))
def dw(x:G7)(x0:Eh):Prop:=(((iLe x0.2 56)=true->((LoopOk (IU x) (IV x x0) (Tj x) (false,0))/\((LoopOk (K6 x) (K5 x x0) (Ts x) ((Al (IU x) (IV x x0) (false,0)).1,0))/\(((Al (K6 x) (K5 x x0) ((Al (IU x) (IV x x0) (false,0)).1,0)).1=true->(As (((List.length x0.1)+(List.length [x0.2]))*1)))/\((Al (K6 x) (K5 x x0) ((Al (IU x) (IV x x0) (false,0)).1,0)).1=false->True)))))/\((iLe x0.2 56)=false->True))
theorem pE (x):Ff x=((Al (Th x) (To x) (0,(Bb x.1).1)).2,(Al NH (P5 x) ([],1)).1):=(HY.v x).trans (by kernel_rfl)
theorem p6 (x):NW x=((Lb x.1)/\((LoopOk (Th x) (To x) (XJ x) (0,(Bb x.1).1))/\(LoopOk NH (P5 x) (dw x) ([],1)))):=(HY.o x).trans (by kernel_rfl)
def NB(x:Jv)(x0:E3×G8):Bool:=(iLt x0.2.2 (lLen x.2))
def S0(x:Jv)(x0:E3×G8):(E3×G8):=((bSel (iNe (lGet x.2 (iNat x0.2.2) (0,0,0)).1 1) (lApp (bSel (iNe (lGet x.2 (iNat x0.2.2) (0,0,0)).1 2) (lApp x0.1 [(Ff (x.1,(lApp x0.2.1 [(0,(AX (lGet x.2 (iNat x0.2.2) (0,0,0))))])))]) x0.1) [(Ff (x.1,(Dk ((bSel (iNe (lGet x.2 (iNat x0.2.2) (0,0,0)).1 2) (lApp x0.2.1 [(0,(AX (lGet x.2 (iNat x0.2.2) (0,0,0))))]) x0.2.1),(B5 ((bSel (iNe (lGet x.2 (iNat x0.2.2) (0,0,0)).1 2) (lApp x0.2.1 [(0,(AX (lGet x.2 (iNat x0.2.2) (0,0,0))))]) x0.2.1),(lGet x.2 (iNat x0.2.2) (0,0,0))))))))]) (bSel (iNe (lGet x.2 (iNat x0.2.2) (0,0,0)).1 2) (lApp x0.1 [(Ff (x.1,(lApp x0.2.1 [(0,(AX (lGet x.2 (iNat x0.2.2) (0,0,0))))])))]) x0.1)),(bSel (iNe (lGet x.2 (iNat x0.2.2) (0,0,0)).1 1) (Dk ((bSel (iNe (lGet x.2 (iNat x0.2.2) (0,0,0)).1 2) (lApp x0.2.1 [(0,(AX (lGet x.2 (iNat x0.2.2) (0,0,0))))]) x0.2.1),(B5 ((bSel (iNe (lGet x.2 (iNat x0.2.2) (0,0,0)).1 2) (lApp x0.2.1 [(0,(AX (lGet x.2 (iNat x0.2.2) (0,0,0))))]) x0.2.1),(lGet x.2 (iNat x0.2.2) (0,0,0)))))) (bSel (iNe (lGet x.2 (iNat x0.2.2) (0,0,0)).1 2) (lApp x0.2.1 [(0,(AX (lGet x.2 (iNat x0.2.2) (0,0,0))))]) x0.2.1)),(iAdd .i64 x0.2.2 1))
def S7(x:Jv)(x0:E3×G8):Prop:=(((iLt x0.2.2 (lLen x.2))=true->((((0:Int)<=x0.2.2)/\(x0.2.2<(((List.length x.2):Int))))/\(((iNat x0.2.2)<(List.length x.2))/\((((iNe (lGet x.2 (iNat x0.2.2) (0,0,0)).1 2)=true->((Qj (lGet x.2 (iNat x0.2.2) (0,0,0)))/\((As (((List.length x0.2.1)+(List.length [(0,(AX (lGet x.2 (iNat x0.2.2) (0,0,0))))]))*5))/\((NW (x.1,(lApp x0.2.1 [(0,(AX (lGet x.2 (iNat x0.2.2) (0,0,0))))])))/\(As (((List.length x0.1)+(List.length [(Ff (x.1,(lApp x0.2.1 [(0,(AX (lGet x.2 (iNat x0.2.2) (0,0,0))))])))]))*2))))))/\((iNe (lGet x.2 (iNat x0.2.2) (0,0,0)).1 2)=false->True))/\(((iNe (lGet x.2 (iNat x0.2.2) (0,0,0)).1 1)=true->((Mw ((bSel (iNe (lGet x.2 (iNat x0.2.2) (0,0,0)).1 2) (lApp x0.2.1 [(0,(AX (lGet x.2 (iNat x0.2.2) (0,0,0))))]) x0.2.1),(lGet x.2 (iNat x0.2.2) (0,0,0))))/\((Mm ((bSel (iNe (lGet x.2 (iNat x0.2.2) (0,0,0)).1 2) (lApp x0.2.1 [(0,(AX (lGet x.2 (iNat x0.2.2) (0,0,0))))]) x0.2.1),(B5 ((bSel (iNe (lGet x.2 (iNat x0.2.2) (0,0,0)).1 2) (lApp x0.2.1 [(0,(AX (lGet x.2 (iNat x0.2.2) (0,0,0))))]) x0.2.1),(lGet x.2 (iNat x0.2.2) (0,0,0))))))/\((NW (x.1,(Dk ((bSel (iNe (lGet x.2 (iNat x0.2.2) (0,0,0)).1 2) (lApp x0.2.1 [(0,(AX (lGet x.2 (iNat x0.2.2) (0,0,0))))]) x0.2.1),(B5 ((bSel (iNe (lGet x.2 (iNat x0.2.2) (0,0,0)).1 2) (lApp x0.2.1 [(0,(AX (lGet x.2 (iNat x0.2.2) (0,0,0))))]) x0.2.1),(lGet x.2 (iNat x0.2.2) (0,0,0))))))))/\(As (((List.length (bSel (iNe (lGet x.2 (iNat x0.2.2) (0,0,0)).1 2) (lApp x0.1 [(Ff (x.1,(lApp x0.2.1 [(0,(AX (lGet x.2 (iNat x0.2.2) (0,0,0))))])))]) x0.1))+(List.length [(Ff (x.1,(Dk ((bSel (iNe (lGet x.2 (iNat x0.2.2) (0,0,0)).1 2) (lApp x0.2.1 [(0,(AX (lGet x.2 (iNat x0.2.2) (0,0,0))))]) x0.2.1),(B5 ((bSel (iNe (lGet x.2 (iNat x0.2.2) (0,0,0)).1 2) (lApp x0.2.1 [(0,(AX (lGet x.2 (iNat x0.2.2) (0,0,0))))]) x0.2.1),(lGet x.2 (iNat x0.2.2) (0,0,0))))))))]))*2))))))/\((iNe (lGet x.2 (iNat x0.2.2) (0,0,0)).1 1)=false->True))))))/\((iLt x0.2.2 (lLen x.2))=false->True))
theorem nq (x):Fe x=(bSel (bOr (bNot (EE x.1)) (bNot (F5 x.2))) [] (Al (NB x) (S0 x) ([],[],0)).1):=(JM.v x).trans (by kernel_rfl)
theorem nk (x):NC x=(((Mx x.1)/\(((bNot (EE x.1))=true->True)/\((bNot (EE x.1))=false->(N3 x.2))))/\(((bOr (bNot (EE x.1)) (bNot (F5 x.2)))=true->True)/\((bOr (bNot (EE x.1)) (bNot (F5 x.2)))=false->(LoopOk (NB x) (S0 x) (S7 x) ([],[],0))))):=(JM.o x).trans (by kernel_rfl)
def Mj(x:Se)(x0:CB):Bool:=(iLt x0.2.1 (lLen x.2))
def ND(x:Se)(x0:CB):CB:=((lApp x0.1 [(lGet x.2 (iNat x0.2.1) (0,0)).1]),(iAdd .i64 x0.2.1 1),(iOr .i64 x0.2.2 (lGet x.2 (iNat x0.2.1) (0,0)).2))
def Tg(x:Se)(x0:CB):Prop:=(((iLt x0.2.1 (lLen x.2))=true->((((0:Int)<=x0.2.1)/\(x0.2.1<(((List.length x.2):Int))))/\(((iNat x0.2.1)<(List.length x.2))/\(As (((List.length x0.1)+(List.length [(lGet x.2 (iNat x0.2.1) (0,0)).1]))*1)))))/\((iLt x0.2.1 (lLen x.2))=false->True))
@[irreducible] def La(x:Se):Int×List (Int):=((Al (Mj x) (ND x) ((C5 x.1.2),0,x.1.1)).2.2,(Le (Al (Mj x) (ND x) ((C5 x.1.2),0,x.1.1)).1))
@[irreducible] def P7(x:Se):Prop:=((Qc x.1.2)/\((LoopOk (Mj x) (ND x) (Tg x) ((C5 x.1.2),0,x.1.1))/\(Qt (Al (Mj x) (ND x) ((C5 x.1.2),0,x.1.1)).1)))
def S6(x:Jv)(x0:E3×IG):Bool:=(iLt x0.2.2 (lLen x.2))
def S8(x:Jv)(x0:E3×IG):(E3×IG):=((lApp (bSel (iEq (lGet x.2 (iNat x0.2.2) (0,0,0)).1 0) (lApp x0.1 [(La ((BL x.1),(lApp x0.2.1 [(lGet x.2 (iNat x0.2.2) (0,0,0)).2])))]) x0.1) [(La ((BL x.1),(bSel (iEq (lGet x.2 (iNat x0.2.2) (0,0,0)).1 0) x0.2.1 (bSel (iEq (lGet x.2 (iNat x0.2.2) (0,0,0)).1 1) (lApp x0.2.1 [(lGet x.2 (iNat x0.2.2) (0,0,0)).2]) (bSel (iEq (lGet x.2 (iNat x0.2.2) (0,0,0)).1 2) (lApp (lTake x0.2.1 (lN (lSub x0.2.1 0 (iNat (Bf (x0.2.1,(lGet x.2 (iNat x0.2.2) (0,0,0)).2)))))) (lSub x0.2.1 (iNat (iAdd .i64 (Bf (x0.2.1,(lGet x.2 (iNat x0.2.2) (0,0,0)).2)) 1)) (lN x0.2.1))) x0.2.1)))))]),(bSel (iEq (lGet x.2 (iNat x0.2.2) (0,0,0)).1 0) x0.2.1 (bSel (iEq (lGet x.2 (iNat x0.2.2) (0,0,0)).1 1) (lApp x0.2.1 [(lGet x.2 (iNat x0.2.2) (0,0,0)).2]) (bSel (iEq (lGet x.2 (iNat x0.2.2) (0,0,0)).1 2) (lApp (lTake x0.2.1 (lN (lSub x0.2.1 0 (iNat (Bf (x0.2.1,(lGet x.2 (iNat x0.2.2) (0,0,0)).2)))))) (lSub x0.2.1 (iNat (iAdd .i64 (Bf (x0.2.1,(lGet x.2 (iNat x0.2.2) (0,0,0)).2)) 1)) (lN x0.2.1))) x0.2.1))),(iAdd .i64 x0.2.2 1))
def SZ(x:Jv)(x0:E3×IG):Prop:=(((iLt x0.2.2 (lLen x.2))=true->((((0:Int)<=x0.2.2)/\(x0.2.2<(((List.length x.2):Int))))/\(((iNat x0.2.2)<(List.length x.2))/\((((iEq (lGet x.2 (iNat x0.2.2) (0,0,0)).1 0)=true->((As ((List.length x0.2.1)*2))/\((As (((List.length x0.2.1)+(List.length [(lGet x.2 (iNat x0.2.2) (0,0,0)).2]))*2))/\((P7 ((BL x.1),(lApp x0.2.1 [(lGet x.2 (iNat x0.2.2) (0,0,0)).2])))/\(As (((List.length x0.1)+(List.length [(La ((BL x.1),(lApp x0.2.1 [(lGet x.2 (iNat x0.2.2) (0,0,0)).2])))]))*2))))))/\((iEq (lGet x.2 (iNat x0.2.2) (0,0,0)).1 0)=false->(((iEq (lGet x.2 (iNat x0.2.2) (0,0,0)).1 1)=true->(As (((List.length x0.2.1)+(List.length [(lGet x.2 (iNat x0.2.2) (0,0,0)).2]))*2)))/\((iEq (lGet x.2 (iNat x0.2.2) (0,0,0)).1 1)=false->(((iEq (lGet x.2 (iNat x0.2.2) (0,0,0)).1 2)=true->((Og (x0.2.1,(lGet x.2 (iNat x0.2.2) (0,0,0)).2))/\((((0:Int)<=(Bf (x0.2.1,(lGet x.2 (iNat x0.2.2) (0,0,0)).2)))/\((0<=(iNat (Bf (x0.2.1,(lGet x.2 (iNat x0.2.2) (0,0,0)).2))))/\(((iNat (Bf (x0.2.1,(lGet x.2 (iNat x0.2.2) (0,0,0)).2)))<=(List.length x0.2.1))/\(0<(List.length x0.2.1)))))/\((((0:Int)<=(iAdd .i64 (Bf (x0.2.1,(lGet x.2 (iNat x0.2.2) (0,0,0)).2)) 1))/\(((iNat (iAdd .i64 (Bf (x0.2.1,(lGet x.2 (iNat x0.2.2) (0,0,0)).2)) 1))<=(lN x0.2.1))/\(((lN x0.2.1)<=(List.length x0.2.1))/\(0<(List.length x0.2.1)))))/\((0<(List.length x0.2.1))/\(((List.length (lSub x0.2.1 0 (iNat (Bf (x0.2.1,(lGet x.2 (iNat x0.2.2) (0,0,0)).2)))))<=(List.length x0.2.1))/\(As (((List.length (lSub x0.2.1 0 (iNat (Bf (x0.2.1,(lGet x.2 (iNat x0.2.2) (0,0,0)).2)))))+(List.length (lSub x0.2.1 (iNat (iAdd .i64 (Bf (x0.2.1,(lGet x.2 (iNat x0.2.2) (0,0,0)).2)) 1)) (lN x0.2.1))))*2))))))))/\((iEq (lGet x.2 (iNat x0.2.2) (0,0,0)).1 2)=false->True))))))/\((P7 ((BL x.1),(bSel (iEq (lGet x.2 (iNat x0.2.2) (0,0,0)).1 0) x0.2.1 (bSel (iEq (lGet x.2 (iNat x0.2.2) (0,0,0)).1 1) (lApp x0.2.1 [(lGet x.2 (iNat x0.2.2) (0,0,0)).2]) (bSel (iEq (lGet x.2 (iNat x0.2.2) (0,0,0)).1 2) (lApp (lTake x0.2.1 (lN (lSub x0.2.1 0 (iNat (Bf (x0.2.1,(lGet x.2 (iNat x0.2.2) (0,0,0)).2)))))) (lSub x0.2.1 (iNat (iAdd .i64 (Bf (x0.2.1,(lGet x.2 (iNat x0.2.2) (0,0,0)).2)) 1)) (lN x0.2.1))) x0.2.1)))))/\(As (((List.length (bSel (iEq (lGet x.2 (iNat x0.2.2) (0,0,0)).1 0) (lApp x0.1 [(La ((BL x.1),(lApp x0.2.1 [(lGet x.2 (iNat x0.2.2) (0,0,0)).2])))]) x0.1))+(List.length [(La ((BL x.1),(bSel (iEq (lGet x.2 (iNat x0.2.2) (0,0,0)).1 0) x0.2.1 (bSel (iEq (lGet x.2 (iNat x0.2.2) (0,0,0)).1 1) (lApp x0.2.1 [(lGet x.2 (iNat x0.2.2) (0,0,0)).2]) (bSel (iEq (lGet x.2 (iNat x0.2.2) (0,0,0)).1 2) (lApp (lTake x0.2.1 (lN (lSub x0.2.1 0 (iNat (Bf (x0.2.1,(lGet x.2 (iNat x0.2.2) (0,0,0)).2)))))) (lSub x0.2.1 (iNat (iAdd .i64 (Bf (x0.2.1,(lGet x.2 (iNat x0.2.2) (0,0,0)).2)) 1)) (lN x0.2.1))) x0.2.1)))))]))*2)))))))/\((iLt x0.2.2 (lLen x.2))=false->True))
@[irreducible] def P1(x:Jv):List Dt:=(bSel (bOr (bNot (Cu x.1)) (bNot (H6 x.2))) [] (Al (S6 x) (S8 x) ([],[],0)).1)
@[irreducible] def P0(x:Jv):Prop:=(((Mv x.1)/\(((bNot (Cu x.1))=true->True)/\((bNot (Cu x.1))=false->(N1 x.2))))/\(((bOr (bNot (Cu x.1)) (bNot (H6 x.2)))=true->True)/\((bOr (bNot (Cu x.1)) (bNot (H6 x.2)))=false->((JY x.1)/\(LoopOk (S6 x) (S8 x) (SZ x) ([],[],0))))))
attribute [irreducible] Ff NW Fe NC
end
section
set_option maxRecDepth 8000
def rJ:DCode:=(.seq [2,1] (.region [oa 0 1 (.boxB 0 4 (.t 0)),oa 1 2 (.allocB 1 [Ab,Ab,Ab,Ab])]) (.seq [2,1] (.seq [5,2,1] (.region [oa 0 3 (.loadB 0 (some 4) (.t 1)),oF 1 4 FJ [(.t 3)],oa 2 5 (.un .not (.t 4))]) (.cond (.t 5) (.seq [2] (.region [ob 0 6 (.loadB 0 (some 4) (.t 1)),os 1 (.storeB 1 4 (.t 2) (.t 6))]) .ret) .skip)) (.seq [2,1] (.seq [9,2,1] (.region [oa 0 7 (.fieldA 0 (.t 1)),oa 1 8 (.loadB 0 none (.t 7)),oa 2 9 (.bin .eql (.t 8) (.c (.int .i64 6)))]) (.cond (.t 9) (.seq [2] (.region [oa 0 10 (.fieldA 2 (.t 1)),ob 1 11 (.loadB 0 none (.t 10)),oa 2 12 (.build [Ab,Ab,Ab,Ab] [(0,1,(.c (.int .i64 2))),(2,1,(.t 11))]),os 3 (.storeB 1 4 (.t 2) (.t 12))]) .ret) .skip)) (.seq [2] (.region [oa 0 13 (.fieldA 3 (.t 1)),ob 1 14 (.loadB 0 none (.t 13)),oa 2 15 (.build [Ab,Ab,Ab,Ab] [(0,1,(.c (.int .i64 3))),(3,1,(.t 14))]),os 3 (.storeB 1 4 (.t 2) (.t 15))]) .ret))))
def Ki:Fn:=⟨⟨1,16,2,true,[.cell 2 (some 4)],rJ⟩,[.agg [AD,AD,AD,AD]],.one (.agg [Au,Au,Au,Au])⟩
theorem sI:Ki.A:=A8 ⟨X3,trivial⟩
def DH:CI->Int×Int×Int×Int:=Ki.V
def Uo:CI->Prop:=Ki.O
theorem sj:Ki.B:=Ba ⟨XV,trivial⟩ (by kernel_rfl) (λ x=>by kernel_rfl)
def tn:DCode:=(.seq [2,1] (.region [oa 0 1 (.boxB 0 4 (.t 0)),oa 1 2 (.allocB 1 [Ab,Ab,Ab,Ab])]) (.seq [2,1] (.seq [5,2,1] (.region [oa 0 3 (.loadB 0 (some 4) (.t 1)),oF 1 4 FJ [(.t 3)],oa 2 5 (.un .not (.t 4))]) (.cond (.t 5) (.seq [2] (.region [ob 0 6 (.loadB 0 (some 4) (.t 1)),os 1 (.storeB 1 4 (.t 2) (.t 6))]) .ret) .skip)) (.seq [2] (.region [oa 0 7 (.fieldA 1 (.t 1)),ob 1 8 (.loadB 0 none (.t 7)),oa 2 9 (.build [Ab,Ab,Ab,Ab] [(0,1,(.c (.int .i64 2))),(1,1,(.t 8))]),os 3 (.storeB 1 4 (.t 2) (.t 9))]) .ret)))
def Ko:Fn:=⟨⟨1,10,2,true,[.cell 2 (some 4)],tn⟩,[.agg [AD,AD,AD,AD]],.one (.agg [Au,Au,Au,Au])⟩
theorem td:Ko.A:=A8 ⟨X3,trivial⟩
def DJ:CI->Int×Int×Int×Int:=Ko.V
def UC:CI->Prop:=Ko.O
theorem ta:Ko.B:=Ba ⟨XV,trivial⟩ (by kernel_rfl) (λ x=>by kernel_rfl)
end
section
set_option maxRecDepth 100000
@[irreducible] def TE(x:CI):Bool:=(bAnd (Br x) (bOr (iEq x.1 6) (iEq x.1 7)))
@[irreducible] def XS(x:CI):Prop:=(Mo x)
@[irreducible] def Y9(x:CI):Int×Int×Int×Int:=(bSel (bNot (TE x)) x (2,x.2.1,0,0))
@[irreducible] def YN(x:CI):Prop:=(XS x)
@[irreducible] def YY(x:CI):Int×Int×Int×Int:=(bSel (bNot (TE x)) x (bSel (iEq x.1 6) (2,0,x.2.2.1,0) (3,0,0,x.2.2.2)))
@[irreducible] def YH(x:CI):Prop:=(XS x)
theorem eS (x):DH x=(bSel (bNot (JZ x)) x (bSel (iEq x.1 6) (2,0,x.2.2.1,0) (3,0,0,x.2.2.2))):=(Ki.v x).trans (by kernel_rfl)
theorem sJ (x):Uo x=(NN x):=(Ki.o x).trans (by kernel_rfl)
theorem e8 (x):DJ x=(bSel (bNot (JZ x)) x (2,x.2.1,0,0)):=(Ko.v x).trans (by kernel_rfl)
theorem tu (x):UC x=(NN x):=(Ko.o x).trans (by kernel_rfl)
attribute [irreducible] DH Uo DJ UC
end
section
set_option maxRecDepth 8000
def tU:DCode:=(.seq [0] (.region [oa 0 2 (.mv (.c .undef))]) (.seq [3,0] (.region [on 0 5 0,oa 1 6 (.len (.t 5)),oa 2 7 (.bin .add (.c (.int .i64 10729)) (.t 6)),om 3 3 7]) (.seq [3,0] (.seq [4,3,0] (.region [oi 0 4 0]) (.block 0 (.loop [0,3,4] 1 (.seq [4,3,0] (.seq [15,4,3,0] (.region [om 0 8 4,on 1 9 0,oa 2 10 (.len (.t 9)),oa 3 11 (.bin .lss (.t 8) (.t 10)),om 4 12 11,og 5 13 (.mv (.t 4)) 12 true,og 6 14 (.bin .lss (.t 13) (.c (.int .i64 4000))) 12 true,oa 7 15 (.pick (.t 12) (.t 14) Ar)]) (.cond (.t 15) .skip (.exit 0))) (.seq [4,3,0] (.block 1 (.region [om 0 18 3,oa 1 19 (.bin .mul (.t 18) (.c (.int .i64 131))),on 2 20 0,om 3 21 4,oa 4 22 (.indexA 1 (.t 20) (.t 21)),oa 5 23 (.loadH none (.t 22)),oa 6 24 (.conv .i64 (.t 23)),oa 7 25 (.bin .add (.t 19) (.t 24)),oa 8 26 (.bin .add (.t 25) (.c (.int .i64 7))),oa 9 27 (.bin .and (.t 26) (.c (.int .i64 1073741823))),om 10 3 27])) (.region [om 0 16 4,oa 1 17 (.bin .add (.t 16) Av),om 2 4 17])))))) (.seq [2] (.region [om 0 28 0,om 1 29 3,oa 2 30 (.build [.nils,Ab,Ab] [(0,1,(.t 28)),(2,1,(.t 29))]),oa 3 31 (.boxH 3 (.t 30)),om 4 2 31]) .ret))))
def Lm:DFun:=⟨1,32,0,false,[.tmp 2],tU⟩
@[irreducible] def OB:Bc:=EZ Lm.er.er
@[irreducible] def QP:Cf:=Db Lm.er
theorem um:Eg OB QP:=by unfold OB QP;exact Gb (f:=Lm.er) trivial
def Vb:List HT:=[.one .frz (.sl (.one (.int .u8)))]
def U7:List (Ql×CT):=[(.frz,.sl (.one (.int .u8))),Au,Au]
@[irreducible] def Km(x:A5):List (Int)×Int×Int:=(shut λ x=>SC Lm Vb U7 x).1 x
@[irreducible] def Ov(x:A5):Prop:=(shut λ x=>Sj Lm Vb U7 x).1 x
def fR:CO:=Wm Vb U7 Ov Km
theorem uk:D2 QP fR:=by unfold QP;exact gQ (f:=Lm) (hs:=Vb) (cs:=U7) trivial (by kernel_rfl) (λ x=>by kernel_rfl) (λ x h=>by unfold Ov at h;exact Eq.mp (congrFun (shut _).2 x) h) (λ x=>by unfold Km;exact(congrFun (shut _).2 x).symm)
def rS:DCode:=(.seq [0] (.region [oi 0 2 0]) (.seq [0] (.region [om 0 4 0,om 1 5 0,oa 2 6 (.nilck (.t 5)),oa 3 7 (.fieldA 2 (.t 6)),oa 4 8 (.loadH none (.t 7)),oa 5 9 (.bin .mul (.t 8) (.c (.int .i64 6364136223846793005))),oa 6 10 (.bin .add (.t 9) (.c (.int .i64 1442695040888963407))),oa 7 11 (.nilck (.t 4)),oa 8 12 (.fieldA 2 (.t 11)),os 9 (.storeH 1 (.t 12) (.t 10))]) (.seq [3,0] (.region [om 0 13 0,xA 1 14 (.nilck (.t 13)) (rg 1),xA 2 15 (.fieldA 2 (.t 14)) (rg 2),xA 3 16 (.loadH none (.t 15)) (rg 3),xA 4 17 (.bin .shr (.t 16) (.c (.int .u64 33))) (rg 4),om 5 18 0,xA 6 19 (.nilck (.t 18)) [5],xA 7 20 (.fieldA 2 (.t 19)) [5,6],xA 8 21 (.loadH none (.t 20)) [5,6,7],xA 9 22 (.bin .shr (.t 21) (.c (.int .u64 45))) [5,6,7,8],xA 10 23 (.bin .xor (.t 17) (.t 22)) (rg 10),xA 11 24 (.bin .and (.t 23) (.c (.int .i64 255))) (rg 11),xA 12 3 (.mv (.t 24)) (rg 12)]) (.seq [3] (.seq [34,3,0] (.region [om 0 25 0,xA 1 26 (.nilck (.t 25)) (rg 1),xA 2 27 (.fieldA 1 (.t 26)) (rg 2),xA 3 28 (.loadH none (.t 27)) (rg 3),om 4 29 0,xA 5 30 (.nilck (.t 29)) [4],xA 6 31 (.fieldA 0 (.t 30)) [4,5],xA 7 32 (.loadH none (.t 31)) [4,5,6],xA 8 33 (.len (.t 32)) [4,5,6,7],xA 9 34 (.bin .lss (.t 28) (.t 33)) (rg 9)]) (.cond (.t 34) (.seq [3,0] (.region [om 0 35 3,om 1 36 0,xA 2 37 (.nilck (.t 36)) [1],xA 3 38 (.fieldA 0 (.t 37)) [1,2],xA 4 39 (.loadH none (.t 38)) [1,2,3],om 5 40 0,xA 6 41 (.nilck (.t 40)) [5],xA 7 42 (.fieldA 1 (.t 41)) [5,6],xA 8 43 (.loadH none (.t 42)) [5,6,7],xA 9 44 (.indexA 1 (.t 39) (.t 43)) [1,2,3,4,5,6,7,8],xA 10 45 (.loadH none (.t 44)) [1,2,3,4,5,6,7,8,9],xA 11 46 (.conv .i64 (.t 45)) [1,2,3,4,5,6,7,8,9,10],xA 12 47 (.bin .add (.t 35) (.t 46)) (rg 12),xA 13 48 (.bin .and (.t 47) (.c (.int .i64 255))) (rg 13),xA 14 3 (.mv (.t 48)) (rg 14)]) (.region [om 0 49 0,om 1 50 0,oa 2 51 (.nilck (.t 50)),oa 3 52 (.fieldA 1 (.t 51)),oa 4 53 (.loadH none (.t 52)),oa 5 54 (.bin .add (.t 53) Av),oa 6 55 (.nilck (.t 49)),oa 7 56 (.fieldA 1 (.t 55)),os 8 (.storeH 1 (.t 56) (.t 54))])) .skip)) (.seq [2] (.region [om 0 57 3,om 1 2 57]) .ret)))))
def Ka:DFun:=⟨1,58,0,false,[.tmp 2],rS⟩
@[irreducible] def Eo:Bc:=EZ Ka.er.er
@[irreducible] def Fk:Cf:=Db Ka.er
theorem QD:Eg Eo Fk:=by unfold Eo Fk;exact Gb (f:=Ka.er) trivial
def UJ:List HT:=[]
def UF:List (Ql×CT):=[(.frz,.sl (.one (.int .u8))),Au,Au]
def Ux:QT:=.one (.one .own (.int .i64))
@[irreducible] def BW(x:CB):Int×A0:=(shut λ x=>HK Ka UJ UF Ux x).1 x
@[irreducible] def H5(x:CB):Prop:=(shut λ x=>HA Ka UJ UF Ux x).1 x
def Ow:CO:=Im UJ UF Ux H5 BW
theorem QB:D2 Fk Ow:=by unfold Fk;exact Ks (f:=Ka) (hs:=UJ) (cs:=UF) (q:=Ux) trivial (by kernel_rfl) (λ x=>by kernel_rfl) (λ x h=>by unfold H5 at h;exact Eq.mp (congrFun (shut _).2 x) h) (λ x=>by unfold BW;exact(congrFun (shut _).2 x).symm)
def qz:DCode:=(.seq [1,0] (.region [oi 0 4 0]) (.seq [1,0] (.seq [10,1,0] (.region [om 0 9 1,oa 1 10 (.bin .leq (.t 9) AE)]) (.cond (.t 10) (.seq [4] (.region [oi 0 4 0]) .ret) .skip)) (.seq [1,0] (.seq [12,1,0] (.region [om 0 11 1,oa 1 12 (.bin .leq (.t 11) (.c (.int .i64 256)))]) (.cond (.t 12) (.seq [4] (.region [om 0 13 0,op 1 14 Eo Fk Ow [(.t 13)],om 2 15 1,oa 3 16 (.bin .rem (.t 14) (.t 15)),om 4 4 16]) .ret) .skip)) (.seq [5,1,0] (.region [om 0 17 0,op 1 18 Eo Fk Ow [(.t 17)],om 2 5 18]) (.seq [6,5,1,0] (.region [om 0 19 0,op 1 20 Eo Fk Ow [(.t 19)],om 2 6 20]) (.seq [7,6,5,1,0] (.region [om 0 21 0,op 1 22 Eo Fk Ow [(.t 21)],om 2 7 22]) (.seq [8,7,6,5,1] (.region [om 0 23 0,op 1 24 Eo Fk Ow [(.t 23)],om 2 8 24]) (.seq [4] (.region [om 0 25 5,oa 1 26 (.bin .mul (.t 25) (.c (.int .i64 16777216))),om 2 27 6,oa 3 28 (.bin .mul (.t 27) (.c (.int .i64 65536))),oa 4 29 (.bin .add (.t 26) (.t 28)),om 5 30 7,oa 6 31 (.bin .mul (.t 30) (.c (.int .i64 256))),oa 7 32 (.bin .add (.t 29) (.t 31)),om 8 33 8,oa 9 34 (.bin .add (.t 32) (.t 33)),om 10 35 1,oa 11 36 (.bin .rem (.t 34) (.t 35)),om 12 4 36]) .ret))))))))
def J6:DFun:=⟨2,37,0,false,[.tmp 4],qz⟩
@[irreducible] def Cb:Bc:=EZ J6.er.er
@[irreducible] def Dy:Cf:=Db J6.er
theorem Fh:Eg Cb Dy:=by unfold Cb Dy;exact Gb (f:=J6.er) ⟨QD,QD,QD,QD,QD,trivial⟩
def Ud:List HT:=[.one .frz (.int .i64)]
def Uk:List (Ql×CT):=[(.frz,.sl (.one (.int .u8))),Au,Au]
def Uu:QT:=.one (.one .own (.int .i64))
@[irreducible] def Aq(x:Cw):Int×A0:=(shut λ x=>HK J6 Ud Uk Uu x).1 x
@[irreducible] def DY(x:Cw):Prop:=(shut λ x=>HA J6 Ud Uk Uu x).1 x
def EP:CO:=Im Ud Uk Uu DY Aq
theorem Fg:D2 Dy EP:=by unfold Dy;exact Ks (f:=J6) (hs:=Ud) (cs:=Uk) (q:=Uu) ⟨QB,QB,QB,QB,QB,trivial⟩ (by kernel_rfl) (λ x=>by kernel_rfl) (λ x h=>by unfold DY at h;exact Eq.mp (congrFun (shut _).2 x) h) (λ x=>by unfold Aq;exact(congrFun (shut _).2 x).symm)
def sn:DCode:=(.seq [1,0] (.region [oa 0 4 (.mv Ar)]) (.seq [4] (.region [om 0 5 0,om 1 6 1,op 2 7 Cb Dy EP [(.t 5),(.t 6)],oa 3 8 (.bin .eql (.t 7) AE),om 4 4 8]) .ret))
def J9:DFun:=⟨2,9,0,false,[.tmp 4],sn⟩
@[irreducible] def Hj:Bc:=EZ J9.er.er
@[irreducible] def Ja:Cf:=Db J9.er
theorem Ug:Eg Hj Ja:=by unfold Hj Ja;exact Gb (f:=J9.er) ⟨Fh,trivial⟩
def UN:List HT:=[.one .frz (.int .i64)]
def UD:List (Ql×CT):=[(.frz,.sl (.one (.int .u8))),Au,Au]
def UP:QT:=.one (.one .own (.bool))
@[irreducible] def Ct(x:Cw):Bool×A0:=(shut λ x=>HK J9 UN UD UP x).1 x
@[irreducible] def Ke(x:Cw):Prop:=(shut λ x=>HA J9 UN UD UP x).1 x
def UK:CO:=Im UN UD UP Ke Ct
theorem Yz:D2 Ja UK:=by unfold Ja;exact Ks (f:=J9) (hs:=UN) (cs:=UD) (q:=UP) ⟨Fg,trivial⟩ (by kernel_rfl) (λ x=>by kernel_rfl) (λ x h=>by unfold Ke at h;exact Eq.mp (congrFun (shut _).2 x) h) (λ x=>by unfold Ct;exact(congrFun (shut _).2 x).symm)
def oM:DCode:=(.seq [1,0] (.region [oi 0 4 0]) (.seq [4] (.region [on 0 5 1,om 1 6 0,on 2 7 1,oa 3 8 (.len (.t 7)),op 4 9 Cb Dy EP [(.t 6),(.t 8)],oa 5 10 (.indexA 1 (.t 5) (.t 9)),ob 6 11 (.loadH none (.t 10)),om 7 4 11]) .ret))
def K7:DFun:=⟨2,12,0,false,[.tmp 4],oM⟩
@[irreducible] def NY:Bc:=EZ K7.er.er
@[irreducible] def Qm:Cf:=Db K7.er
theorem oH:Eg NY Qm:=by unfold NY Qm;exact Gb (f:=K7.er) ⟨Fh,trivial⟩
def TC:List HT:=[.one .frz (.sl (.one (.int .i64)))]
def Tz:List (Ql×CT):=[(.frz,.sl (.one (.int .u8))),Au,Au]
def TH:QT:=.one (.one .own (.int .i64))
@[irreducible] def Dj(x:mf):Int×A0:=(shut λ x=>HK K7 TC Tz TH x).1 x
@[irreducible] def NK(x:mf):Prop:=(shut λ x=>HA K7 TC Tz TH x).1 x
def dF:CO:=Im TC Tz TH NK Dj
theorem ov:D2 Qm dF:=by unfold Qm;exact Ks (f:=K7) (hs:=TC) (cs:=Tz) (q:=TH) ⟨Fg,trivial⟩ (by kernel_rfl) (λ x=>by kernel_rfl) (λ x h=>by unfold NK at h;exact Eq.mp (congrFun (shut _).2 x) h) (λ x=>by unfold Dj;exact(congrFun (shut _).2 x).symm)
def u6:DCode:=(.seq [0] (.region [oa 0 2 (.mv Ar)]) (.seq [2] (.region [on 0 3 0,oa 1 4 (.len (.t 3)),oa 2 5 (.bin .gtr (.t 4) (.c (.int .i64 1048576))),om 3 2 5]) .ret))
def Kt:Fn:=⟨⟨1,6,0,true,[.tmp 2],u6⟩,[.one .frz (.sl (.one (.int .u8)))],.one (.one .own (.bool))⟩
theorem u5:Kt.A:=A8 trivial
def OK:A5->Bool:=Kt.V
def Vc:A5->Prop:=Kt.O
theorem uU:Kt.B:=Ba trivial (by kernel_rfl) (λ x=>by kernel_rfl)
end
section
set_option maxRecDepth 100000
def Yy(x:A5)(x0:A0):Bool:=(bAnd (iLt x0.2 (lLen x)) (iLt x0.2 4000))
def eu(x:A5)(x0:A0):A0:=((iAnd .i64 (iAdd .i64 (iAdd .i64 (iMul .i64 x0.1 131) (iConv .i64 (lGet x (iNat x0.2) 0))) 7) 1073741823),(iAdd .i64 x0.2 1))
def ew(x:A5)(x0:A0):Prop:=(((bAnd (iLt x0.2 (lLen x)) (iLt x0.2 4000))=true->((((0:Int)<=x0.2)/\(x0.2<(((List.length x):Int))))/\((iNat x0.2)<(List.length x))))/\((bAnd (iLt x0.2 (lLen x)) (iLt x0.2 4000))=false->True))
theorem tz (x):Km x=(x,0,(Al (Yy x) (eu x) ((iAdd .i64 10729 (lLen x)),0)).1):=by unfold Km;exact(congrFun (shut _).2 x).trans (by kernel_rfl)
theorem th (x):Ov x=(LoopOk (Yy x) (eu x) (ew x) ((iAdd .i64 10729 (lLen x)),0)):=by unfold Ov;exact(congrFun (shut _).2 x).trans (by kernel_rfl)
theorem eW (x):BW x=((bSel (iLt x.2.1 (lLen x.1)) (iAnd .i64 (iAdd .i64 (iAnd .i64 (iXor .i64 (iShr .i64 (iAdd .i64 (iMul .i64 x.2.2 6364136223846793005) 1442695040888963407) 33) (iShr .i64 (iAdd .i64 (iMul .i64 x.2.2 6364136223846793005) 1442695040888963407) 45)) 255) (iConv .i64 (lGet x.1 (iNat x.2.1) 0))) 255) (iAnd .i64 (iXor .i64 (iShr .i64 (iAdd .i64 (iMul .i64 x.2.2 6364136223846793005) 1442695040888963407) 33) (iShr .i64 (iAdd .i64 (iMul .i64 x.2.2 6364136223846793005) 1442695040888963407) 45)) 255)),(bSel (iLt x.2.1 (lLen x.1)) (iAdd .i64 x.2.1 1) x.2.1),(iAdd .i64 (iMul .i64 x.2.2 6364136223846793005) 1442695040888963407)):=by unfold BW;exact(congrFun (shut _).2 x).trans (by kernel_rfl)
theorem eT (x):H5 x=(((0:Int)<=33)/\(((0:Int)<=45)/\(((iLt x.2.1 (lLen x.1))=true->((((0:Int)<=x.2.1)/\(x.2.1<(((List.length x.1):Int))))/\((iNat x.2.1)<(List.length x.1))))/\((iLt x.2.1 (lLen x.1))=false->True)))):=by unfold H5;exact(congrFun (shut _).2 x).trans (by kernel_rfl)
theorem ed (x):Aq x=(bSel (iLe x.2 0) (0,x.1.2) (bSel (iLe x.2 256) ((iRem (BW x.1).1 x.2),(BW x.1).2) ((iRem (iAdd .i64 (iAdd .i64 (iAdd .i64 (iMul .i64 (BW x.1).1 16777216) (iMul .i64 (BW (x.1.1,(BW x.1).2)).1 65536)) (iMul .i64 (BW (x.1.1,(BW (x.1.1,(BW x.1).2)).2)).1 256)) (BW (x.1.1,(BW (x.1.1,(BW (x.1.1,(BW x.1).2)).2)).2)).1) x.2),(BW (x.1.1,(BW (x.1.1,(BW (x.1.1,(BW x.1).2)).2)).2)).2))):=by unfold Aq;exact(congrFun (shut _).2 x).trans (by kernel_rfl)
theorem dX (x):DY x=(((iLe x.2 0)=true->True)/\((iLe x.2 0)=false->(((iLe x.2 256)=true->((H5 x.1)/\(x.2≠0)))/\((iLe x.2 256)=false->((H5 x.1)/\((H5 (x.1.1,(BW x.1).2))/\((H5 (x.1.1,(BW (x.1.1,(BW x.1).2)).2))/\((H5 (x.1.1,(BW (x.1.1,(BW (x.1.1,(BW x.1).2)).2)).2))/\(x.2≠0))))))))):=by unfold DY;exact(congrFun (shut _).2 x).trans (by kernel_rfl)
theorem eJ (x):Ct x=((iEq (Aq x).1 0),(Aq x).2):=by unfold Ct;exact(congrFun (shut _).2 x).trans (by kernel_rfl)
theorem eF (x):Ke x=(DY x):=by unfold Ke;exact(congrFun (shut _).2 x).trans (by kernel_rfl)
theorem oD (x):Dj x=((lGet x.2 (iNat (Aq (x.1,(lLen x.2))).1) 0),(Aq (x.1,(lLen x.2))).2):=by unfold Dj;exact(congrFun (shut _).2 x).trans (by kernel_rfl)
theorem oQ (x):NK x=((DY (x.1,(lLen x.2)))/\((((0:Int)<=(Aq (x.1,(lLen x.2))).1)/\((Aq (x.1,(lLen x.2))).1<(((List.length x.2):Int))))/\((iNat (Aq (x.1,(lLen x.2))).1)<(List.length x.2)))):=by unfold NK;exact(congrFun (shut _).2 x).trans (by kernel_rfl)
theorem vf (x):OK x=(iGt (lLen x) 1048576):=(Kt.v x).trans (by kernel_rfl)
theorem vp (x):Vc x=True:=(Kt.o x).trans (by kernel_rfl)
attribute [irreducible] OK Vc
end
def WK:List DC->Bool
 |[]=>true
 |c::r=>!c.d&&WK r
theorem iF:∀ {blk:List DV} {l:List DC},Chg (AA blk) l->WK l=true->l.length=blk.length->l=AA blk
 |[],[],_,_,_=>rfl
 |[],_::_,_,_,h=>by simp at h
 |_::_,[],_,_,h=>by simp at h
 | v::blk,c::l,h,hc,hl=>by
   simp only[WK,Ah,BA] at hc
   have h1:c=⟨false,v⟩:=h.1.resolve_left (by rw[hc.1];simp)
   rw[h1,iF h.2 hc.2 (by simpa using hl)];rfl
def du(n:Nat)(q:QT)(cs:List (Ql×CT))(res:List ARes)(st:DS):Option (q.D×AgX (Dr cs)):=
 match W8 st res with
 | some (v,st')=>if v.ok&&!v.hasPtr then (match st'.hp with
   | [blk,b2]=>if WK b2&&b2.length == n then (match LZ cs blk with
     | some vs=>(match q.of v,E9 (Dr cs) vs with
       |some y,some b=>some (y,b)
       |_,_=>none)
     |none=>none) else none
   |_=>none) else none
 |none=>none
def SS(f:DFun)(hs:List HT)(c2 cs:List (Ql×CT))(q:QT)(x:TuX (.agg cs::.agg c2::hs)):PX×Option (q.D×AgX (Dr cs)):=
 match Dv (.agg cs::.agg c2::hs) x with
 |.agg blk::.agg b2::r=>(dev f.body ⟨news (.ptr 0 0::r)++Fu (f.nslots-f.nparams),Fp f.nbox,[AA blk,AA b2]⟩).valR (du c2.length q cs f.res)
 |_=>(.ff,none)
def Ma(f:DFun)(hs:List HT)(c2 cs:List (Ql×CT))(q:QT)(x:TuX (.agg cs::.agg c2::hs)):q.D×AgX (Dr cs):=(SS f hs c2 cs q x).2.getD (q.dflt,R4 (Dr cs))
def LW(f:DFun)(hs:List HT)(c2 cs:List (Ql×CT))(q:QT)(x:TuX (.agg cs::.agg c2::hs)):Prop:=(SS f hs c2 cs q x).1.den
def b9(f:DFun)(hs:List HT)(c2 cs:List (Ql×CT))(q:QT)(x:TuX (.agg cs::.agg c2::hs)):Bool:=(SS f hs c2 cs q x).2.isSome
def cZ(f:DFun)(hs:List HT)(c2 cs:List (Ql×CT)):Bool:=hs.length+1 == f.nparams&&!f.pure&&Nat.blt 0 cs.length&&Nat.blt 0 c2.length
def MO(hs:List HT)(c2 cs:List (Ql×CT))(q:QT)(ok:TuX (.agg cs::.agg c2::hs)->Prop)(v:TuX (.agg cs::.agg c2::hs)->q.D×AgX (Dr cs)):CO:=λ args b=>match args,b with
 | a::r,[blk,b2]=>if a.isP0 then (match Fw (.agg cs::.agg c2::hs) (.agg blk::.agg b2::r) with
   |some x=>some (.p (ok x),q.dv (v x).1,[F3 cs (B9 (Dr cs) (v x).2)])
   |none=>none) else none
 |_,_=>none
theorem wD(cs c2:List (Ql×CT))(hs:List HT)(x:TuX (.agg cs::.agg c2::hs)):∃ r b b2,Dv (.agg cs::.agg c2::hs) x= .agg (B9 cs b)::.agg (B9 c2 b2)::r:=by
 cases hs with
 |nil=>exact⟨[],x.1,x.2,rfl⟩
 |cons a r=>exact⟨Dv (a::r) x.2.2,x.1,x.2.1,rfl⟩
theorem jI:∀ (l:List DV),(AA l).length=l.length
 |[]=>rfl
 |_::r=>by simp only[AA,AH,jI r]
theorem jm:∀ {l:List DV} {p:List PV},EL (AA l) p->(∀ v∈l,v≠.any)->p=DV.encL l
 |[],[],_,_=>rfl
 |[],_::_,h,_=>h.elim
 |_::_,[],h,_=>h.elim
 | v :: l,x::p,h,hk=>by
   have h1:x=v.enc:=by
    rcases h.1 with h1|h1
    . exact absurd h1 (hk v (GX ..))
    . exact h1
   rw[h1,jm h.2 λ w hw=>hk w (List.mem_cons_of_mem _ hw)];rfl
theorem Q3 {f : DFun} {hs : List HT} {c2 cs:List (Ql×CT)} {q:QT} (ho:AllD f.body.obs) (hst:cZ f hs c2 cs=true) (hc:∀ x,b9 f hs c2 cs q x=true) {ok:TuX (.agg cs::.agg c2::hs)->Prop} {v:TuX (.agg cs::.agg c2::hs)->q.D×AgX (Dr cs)} (hok:∀ x,ok x->LW f hs c2 cs q x) (hv:∀ x,Ma f hs c2 cs q x=v x) :
 D2 (Db f.er) (MO hs c2 cs q ok v):=by
 intro args b g w H Q h hg hQ
 simp only[cZ,Ah,AV,BA] at hst
 unfold MO at h
 split at h
 . rename_i a r blk b2
   split at h
   . rename_i ha
     have ha:a= .ptr 0 0:=by unfold DV.isP0 at ha;split at ha<;>first|rfl|cases ha
     subst ha
     cases hx:Fw (.agg cs::.agg c2::hs) (.agg blk::.agg b2::r) with
     |none=>rw[hx] at h;cases h
     | some x=>
       rw[hx] at h;simp only[Ak,Am] at h;obtain⟨rfl,rfl,rfl⟩:=h;have he:=Pz hx;obtain⟨r',b,b3,hd⟩:=wD cs c2 hs x;rw[hd] at he;simp only[DV.encL,DV.enc,GW,PV.agg.injEq] at he
       have hlr:r'.length=hs.length:=by
        have:=MM (.agg cs::.agg c2::hs) x;rw[hd] at this;simpa using this
       have hc:=hc x;have hok:=hok x hg;unfold b9 at hc;unfold LW at hok;have hvx:=hv x;unfold Ma at hvx;unfold SS at hc hok hvx;rw[hd] at hc hok hvx;simp only at hc hok hvx
       cases hdd:(dev f.body ⟨news (.ptr 0 0::r')++Fu (f.nslots-f.nparams),Fp f.nbox,[AA (B9 cs b),AA (B9 c2 b3)]⟩).valR (du c2.length q cs f.res) with
       | mk g o=>
         rw[hdd] at hc hok hvx
         cases o with
         |none=>cases hc
         | some y=>
           simp only[Hq] at hvx;obtain⟨k1,e,st,k2,k3,k4⟩:=Pr hdd hok;have hchg:ChgS _ st:=RZ (GR f.body _) k2;show Db f.er (PV.ptr 0 0::DV.encL r) [DV.encL blk,DV.encL b2] Q;rw[<- he.1,<- he.2.1,<- he.2.2];refine⟨by simp only[AH,ET,hlr];exact hst.1.1.1,λ hp=>absurd hp (by simp[DFun.er,hst.1.1.2]),?_⟩
           refine FZ f.body ho (d:=⟨news (.ptr 0 0::r')++Fu (f.nslots-f.nparams),Fp f.nbox,[AA (B9 cs b),AA (B9 c2 b3)]⟩) (s:=⟨DV.encL (.ptr 0 0::r')++HC (f.nslots-f.nparams),JA f.nbox,[DV.encL (B9 cs b),DV.encL (B9 c2 b3)]⟩) ⟨(EL.news _).append (O8 _),O5 _,.inr (Wp _),.inr (Wp _),trivial⟩ k1 k2 λ s' hs'=>?_
           unfold du at k4;split at k4
           . rename_i v0 st' hr; split at k4
             . rename_i hv0; simp only[Ah,BA] at hv0;split at k4
               . rename_i blk' b2' hblk;split at k4;rename_i hcl;split at k4
                 . rename_i vs hvs;split at k4
                   . rename_i y0 b0 hy0 hb0;simp only[Ak] at k4;subst k4;obtain⟨⟨s2,e2,e3⟩,hch2⟩:=aT hs' hr hv0.1;have hch:=(hchg.trans hch2).hp;have e4:=e3.hp;rw[hblk] at hch e4
                     cases hp2:s2.hp with
                     |nil=>rw[hp2] at e4;exact e4.elim
                     | cons p l=>
                       rw[hp2] at e4
                       have hl0:∃ p2,l=[p2]:=by
                        cases l with
                        |nil=>exact e4.2.elim
                        | cons p2 l=>cases l with
                          |nil=>exact⟨p2,rfl⟩
                          |cons=>exact e4.2.2.elim
                       obtain⟨p2,rfl⟩:=hl0;obtain⟨kc1,kc2⟩:=Vx c2 b3;simp only[Ah,AV] at hcl;have hb2:=iF hch.2.1 hcl.1 (by rw[hcl.2,kc2]);have hb2e:=e4.2.1;rw[hb2] at hb2e;have hp2e:=jm (hb2e.to (by rw[jI,kc2];exact Dc hst.2)) kc1
                       have hne:0<blk'.length:=by
                        cases blk' with
                        | nil=>cases cs with
                          |nil=>exact absurd hst.1.2 (by decide)
                          |cons a cs=>obtain⟨q0,t0⟩:=a;cases q0<;>cases hvs
                        |cons=>simp
                       have hEL:=e4.1.to hne;obtain⟨kn1,kn2⟩:=OM hb0;obtain⟨kb1,kb2⟩:=Vx cs b;have hpb:=V4 cs hEL hch.1 hvs (Sr hb0) kn1 kn2 kb2 kb1;obtain⟨h1,_⟩:=Xk hy0
                       have hQ':Q (q.dv y0).enc (Gw (IF [blk,b2] [F3 cs (B9 (Dr cs) b0)])):=by
                        have:=hQ;rw[<- hvx] at this;exact this
                       have hmix : DV.encL (D8 (B9 cs b) (F3 cs (B9 (Dr cs) b0)))=DV.encL (D8 blk (F3 cs (B9 (Dr cs) b0))):=by
                        have:∀ (a c l:List DV),DV.encL a=DV.encL c->DV.encL (D8 a l)=DV.encL (D8 c l):=by
                         intro a
                         induction a with
                         | nil=>intro c l h;cases c with
                           |nil=>rfl
                           |cons=>cases h
                         | cons x a ih=>
                           intro c l h
                           cases c with
                           |nil=>cases h
                           | cons z c=>
                             simp only[DV.encL,GW] at h
                             cases l with
                             |nil=>simp only[D8,DV.encL,h.1,h.2]
                             | cons w l=>
                               simp only[D8,DV.encL,ih c l h.2];by_cases hw:w.isAny=true
                               . rw[Ac hw,Ac hw,h.1]
                               . rw[Af hw,Af hw]
                        exact this _ _ _ he.1
                       have fin:(match IE s' f.res with|some (v,st)=>if f.pure=true then v.flt=true/\Q v [] else Q v st.hp|none=>False):=by
                        rw[e2];simp only[hst.1.1.2,AK,AS,hp2];rw[<- h1,hpb,hmix,hp2e,he.2.1];exact hQ'
                       cases e with
                       |normal=>exact fin
                       |ret=>exact fin
                       |exit i=>exact absurd rfl (k3 i)
                   . cases k4
                 . cases k4
                 . cases k4
               . cases k4
             . cases k4
           . cases k4
   . cases h
 . cases h
attribute [irreducible] SS Ma LW b9 cZ
def re:DCode:=(.seq [0] (.region [oi 0 2 0]) (.seq [0] (.region [om 0 4 0,om 1 5 0,oa 2 6 (.nilck (.t 5)),oa 3 7 (.fieldA 2 (.t 6)),oa 4 8 (.loadH none (.t 7)),oa 5 9 (.bin .mul (.t 8) (.c (.int .i64 6364136223846793005))),oa 6 10 (.bin .add (.t 9) (.c (.int .i64 1442695040888963407))),oa 7 11 (.nilck (.t 4)),oa 8 12 (.fieldA 2 (.t 11)),os 9 (.storeH 1 (.t 12) (.t 10))]) (.seq [3,0] (.region [om 0 13 0,xA 1 14 (.nilck (.t 13)) (rg 1),xA 2 15 (.fieldA 2 (.t 14)) (rg 2),xA 3 16 (.loadH none (.t 15)) (rg 3),xA 4 17 (.bin .shr (.t 16) (.c (.int .u64 33))) (rg 4),om 5 18 0,xA 6 19 (.nilck (.t 18)) [5],xA 7 20 (.fieldA 2 (.t 19)) [5,6],xA 8 21 (.loadH none (.t 20)) [5,6,7],xA 9 22 (.bin .shr (.t 21) (.c (.int .u64 45))) [5,6,7,8],xA 10 23 (.bin .xor (.t 17) (.t 22)) (rg 10),xA 11 24 (.bin .and (.t 23) (.c (.int .i64 255))) (rg 11),xA 12 3 (.mv (.t 24)) (rg 12)]) (.seq [3] (.seq [34,3,0] (.region [om 0 25 0,xA 1 26 (.nilck (.t 25)) (rg 1),xA 2 27 (.fieldA 1 (.t 26)) (rg 2),xA 3 28 (.loadH none (.t 27)) (rg 3),om 4 29 0,xA 5 30 (.nilck (.t 29)) [4],xA 6 31 (.fieldA 0 (.t 30)) [4,5],xA 7 32 (.loadH none (.t 31)) [4,5,6],xA 8 33 (.len (.t 32)) [4,5,6,7],xA 9 34 (.bin .lss (.t 28) (.t 33)) (rg 9)]) (.cond (.t 34) (.seq [3,0] (.region [om 0 35 3,om 1 36 0,xA 2 37 (.nilck (.t 36)) [1],xA 3 38 (.fieldA 0 (.t 37)) [1,2],xA 4 39 (.loadH none (.t 38)) [1,2,3],om 5 40 0,xA 6 41 (.nilck (.t 40)) [5],xA 7 42 (.fieldA 1 (.t 41)) [5,6],xA 8 43 (.loadH none (.t 42)) [5,6,7],xA 9 44 (.indexA 1 (.t 39) (.t 43)) [1,2,3,4,5,6,7,8],xA 10 45 (.loadH none (.t 44)) [1,2,3,4,5,6,7,8,9],xA 11 46 (.conv .i64 (.t 45)) [1,2,3,4,5,6,7,8,9,10],xA 12 47 (.bin .add (.t 35) (.t 46)) (rg 12),xA 13 48 (.bin .and (.t 47) (.c (.int .i64 255))) (rg 13),xA 14 3 (.mv (.t 48)) (rg 14)]) (.region [om 0 49 0,om 1 50 0,oa 2 51 (.nilck (.t 50)),oa 3 52 (.fieldA 1 (.t 51)),oa 4 53 (.loadH none (.t 52)),oa 5 54 (.bin .add (.t 53) Av),oa 6 55 (.nilck (.t 49)),oa 7 56 (.fieldA 1 (.t 55)),os 8 (.storeH 1 (.t 56) (.t 54))])) .skip)) (.seq [2] (.region [om 0 57 3,om 1 2 57]) .ret)))))
def TW:DFun:=⟨1,58,0,false,[.tmp 2],re⟩
theorem q8:Ka.er=TW.er:=by kernel_rfl
def Ur:List HT:=[]
def Uj:List (Ql×CT):=[(.frz,.sl (.one (.int .u8))),Au,Au]
def Up:QT:=.one (.one .own (.int .i64))
def T7:List (Ql×CT):=[Au,(.own,.sl (.one (.sl BS))),(.own,.sl (.one (.sl BV))),Au,(.own,.sl BE),Au,(.own,.bool)]
@[irreducible] def C0(x:me):Int×A0:=(shut λ x=>Ma TW Ur T7 Uj Up x).1 x
@[irreducible] def I9(x:me):Prop:=(shut λ x=>LW TW Ur T7 Uj Up x).1 x
def Of:CO:=MO Ur T7 Uj Up I9 C0
theorem Qz:D2 Fk Of:=by unfold Fk;rw[q8];exact Q3 (f:=TW) (hs:=Ur) (c2:=T7) (cs:=Uj) (q:=Up) trivial (by kernel_rfl) (λ x=>by kernel_rfl) (λ x h=>by unfold I9 at h;exact Eq.mp (congrFun (shut _).2 x) h) (λ x=>by unfold C0;exact(congrFun (shut _).2 x).symm)
def qf:DCode:=(.seq [1,0] (.region [oi 0 4 0]) (.seq [1,0] (.seq [10,1,0] (.region [om 0 9 1,oa 1 10 (.bin .leq (.t 9) AE)]) (.cond (.t 10) (.seq [4] (.region [oi 0 4 0]) .ret) .skip)) (.seq [1,0] (.seq [12,1,0] (.region [om 0 11 1,oa 1 12 (.bin .leq (.t 11) (.c (.int .i64 256)))]) (.cond (.t 12) (.seq [4] (.region [om 0 13 0,op 1 14 Eo Fk Of [(.t 13)],om 2 15 1,oa 3 16 (.bin .rem (.t 14) (.t 15)),om 4 4 16]) .ret) .skip)) (.seq [5,1,0] (.region [om 0 17 0,op 1 18 Eo Fk Of [(.t 17)],om 2 5 18]) (.seq [6,5,1,0] (.region [om 0 19 0,op 1 20 Eo Fk Of [(.t 19)],om 2 6 20]) (.seq [7,6,5,1,0] (.region [om 0 21 0,op 1 22 Eo Fk Of [(.t 21)],om 2 7 22]) (.seq [8,7,6,5,1] (.region [om 0 23 0,op 1 24 Eo Fk Of [(.t 23)],om 2 8 24]) (.seq [4] (.region [om 0 25 5,oa 1 26 (.bin .mul (.t 25) (.c (.int .i64 16777216))),om 2 27 6,oa 3 28 (.bin .mul (.t 27) (.c (.int .i64 65536))),oa 4 29 (.bin .add (.t 26) (.t 28)),om 5 30 7,oa 6 31 (.bin .mul (.t 30) (.c (.int .i64 256))),oa 7 32 (.bin .add (.t 29) (.t 31)),om 8 33 8,oa 9 34 (.bin .add (.t 32) (.t 33)),om 10 35 1,oa 11 36 (.bin .rem (.t 34) (.t 35)),om 12 4 36]) .ret))))))))
def Tx:DFun:=⟨2,37,0,false,[.tmp 4],qf⟩
theorem px:J6.er=Tx.er:=by kernel_rfl
def TV:List HT:=[.one .frz (.int .i64)]
def TX:List (Ql×CT):=[(.frz,.sl (.one (.int .u8))),Au,Au]
def T1:QT:=.one (.one .own (.int .i64))
def TO:List (Ql×CT):=[Au,(.own,.sl (.one (.sl BS))),(.own,.sl (.one (.sl BV))),Au,(.own,.sl BE),Au,(.own,.bool)]
@[irreducible] def N2(x:Xp):Int×A0:=(shut λ x=>Ma Tx TV TO TX T1 x).1 x
@[irreducible] def Qo(x:Xp):Prop:=(shut λ x=>LW Tx TV TO TX T1 x).1 x
def dU:CO:=MO TV TO TX T1 Qo N2
theorem o5:D2 Dy dU:=by unfold Dy;rw[px];exact Q3 (f:=Tx) (hs:=TV) (c2:=TO) (cs:=TX) (q:=T1) ⟨Qz,Qz,Qz,Qz,Qz,trivial⟩ (by kernel_rfl) (λ x=>by kernel_rfl) (λ x h=>by unfold Qo at h;exact Eq.mp (congrFun (shut _).2 x) h) (λ x=>by unfold N2;exact(congrFun (shut _).2 x).symm)
def qi:DCode:=(.seq [1,0] (.region [oa 0 4 (.mv Ar)]) (.seq [4] (.region [om 0 5 0,om 1 6 1,op 2 7 Cb Dy dU [(.t 5),(.t 6)],oa 3 8 (.bin .eql (.t 7) AE),om 4 4 8]) .ret))
def T5:DFun:=⟨2,9,0,false,[.tmp 4],qi⟩
theorem qD:J9.er=T5.er:=by kernel_rfl
def Uh:List HT:=[.one .frz (.int .i64)]
def Ui:List (Ql×CT):=[(.frz,.sl (.one (.int .u8))),Au,Au]
def Ut:QT:=.one (.one .own (.bool))
def T4:List (Ql×CT):=[Au,(.own,.sl (.one (.sl BS))),(.own,.sl (.one (.sl BV))),Au,(.own,.sl BE),Au,(.own,.bool)]
@[irreducible] def Oe(x:Xp):Bool×A0:=(shut λ x=>Ma T5 Uh T4 Ui Ut x).1 x
@[irreducible] def NZ(x:Xp):Prop:=(shut λ x=>LW T5 Uh T4 Ui Ut x).1 x
def eX:CO:=MO Uh T4 Ui Ut NZ Oe
theorem ql:D2 Ja eX:=by unfold Ja;rw[qD];exact Q3 (f:=T5) (hs:=Uh) (c2:=T4) (cs:=Ui) (q:=Ut) ⟨o5,trivial⟩ (by kernel_rfl) (λ x=>by kernel_rfl) (λ x h=>by unfold NZ at h;exact Eq.mp (congrFun (shut _).2 x) h) (λ x=>by unfold Oe;exact(congrFun (shut _).2 x).symm)
section
set_option maxRecDepth 100000
theorem qw (x):C0 x=((bSel (iLt x.1.2.1 (lLen x.1.1)) (iAnd .i64 (iAdd .i64 (iAnd .i64 (iXor .i64 (iShr .i64 (iAdd .i64 (iMul .i64 x.1.2.2 6364136223846793005) 1442695040888963407) 33) (iShr .i64 (iAdd .i64 (iMul .i64 x.1.2.2 6364136223846793005) 1442695040888963407) 45)) 255) (iConv .i64 (lGet x.1.1 (iNat x.1.2.1) 0))) 255) (iAnd .i64 (iXor .i64 (iShr .i64 (iAdd .i64 (iMul .i64 x.1.2.2 6364136223846793005) 1442695040888963407) 33) (iShr .i64 (iAdd .i64 (iMul .i64 x.1.2.2 6364136223846793005) 1442695040888963407) 45)) 255)),(bSel (iLt x.1.2.1 (lLen x.1.1)) (iAdd .i64 x.1.2.1 1) x.1.2.1),(iAdd .i64 (iMul .i64 x.1.2.2 6364136223846793005) 1442695040888963407)):=by unfold C0;exact(congrFun (shut _).2 x).trans (by kernel_rfl)
theorem qp (x):I9 x=(((0:Int)<=33)/\(((0:Int)<=45)/\(((iLt x.1.2.1 (lLen x.1.1))=true->((((0:Int)<=x.1.2.1)/\(x.1.2.1<(((List.length x.1.1):Int))))/\((iNat x.1.2.1)<(List.length x.1.1))))/\((iLt x.1.2.1 (lLen x.1.1))=false->True)))):=by unfold I9;exact(congrFun (shut _).2 x).trans (by kernel_rfl)
theorem pz (x):N2 x=(bSel (iLe x.2.2 0) (0,x.1.2) (bSel (iLe x.2.2 256) ((iRem (C0 (x.1,x.2.1)).1 x.2.2),(C0 (x.1,x.2.1)).2) ((iRem (iAdd .i64 (iAdd .i64 (iAdd .i64 (iMul .i64 (C0 (x.1,x.2.1)).1 16777216) (iMul .i64 (C0 ((x.1.1,(C0 (x.1,x.2.1)).2),x.2.1)).1 65536)) (iMul .i64 (C0 ((x.1.1,(C0 ((x.1.1,(C0 (x.1,x.2.1)).2),x.2.1)).2),x.2.1)).1 256)) (C0 ((x.1.1,(C0 ((x.1.1,(C0 ((x.1.1,(C0 (x.1,x.2.1)).2),x.2.1)).2),x.2.1)).2),x.2.1)).1) x.2.2),(C0 ((x.1.1,(C0 ((x.1.1,(C0 ((x.1.1,(C0 (x.1,x.2.1)).2),x.2.1)).2),x.2.1)).2),x.2.1)).2))):=by unfold N2;exact(congrFun (shut _).2 x).trans (by kernel_rfl)
theorem pR (x):Qo x=(((iLe x.2.2 0)=true->True)/\((iLe x.2.2 0)=false->(((iLe x.2.2 256)=true->((I9 (x.1,x.2.1))/\(x.2.2≠0)))/\((iLe x.2.2 256)=false->((I9 (x.1,x.2.1))/\((I9 ((x.1.1,(C0 (x.1,x.2.1)).2),x.2.1))/\((I9 ((x.1.1,(C0 ((x.1.1,(C0 (x.1,x.2.1)).2),x.2.1)).2),x.2.1))/\((I9 ((x.1.1,(C0 ((x.1.1,(C0 ((x.1.1,(C0 (x.1,x.2.1)).2),x.2.1)).2),x.2.1)).2),x.2.1))/\(x.2.2≠0))))))))):=by unfold Qo;exact(congrFun (shut _).2 x).trans (by kernel_rfl)
theorem qI (x):Oe x=((iEq (N2 x).1 0),(N2 x).2):=by unfold Oe;exact(congrFun (shut _).2 x).trans (by kernel_rfl)
theorem qk (x):NZ x=(Qo x):=by unfold NZ;exact(congrFun (shut _).2 x).trans (by kernel_rfl)
end
section
set_option maxRecDepth 8000
def sT:DCode:=(.seq [1,0] (.region [oa 0 4 (.mv (.c .undef))]) (.seq [5,1] (.region [on 0 6 0,op 1 7 OB QP fR [(.t 6)],om 2 5 7]) (.seq [5] (.region [om 0 8 5,om 1 9 5,oa 2 10 (.nilck (.t 9)),oa 3 11 (.fieldA 2 (.t 10)),oa 4 12 (.loadH none (.t 11)),om 5 13 1,oa 6 14 (.bin .mul (.c (.int .i64 7919)) (.t 13)),oa 7 15 (.bin .add (.t 12) (.t 14)),oa 8 16 (.nilck (.t 8)),oa 9 17 (.fieldA 2 (.t 16)),os 10 (.storeH 1 (.t 17) (.t 15))]) (.seq [4] (.region [om 0 18 5,om 1 4 18]) .ret))))
def Li:DFun:=⟨2,19,0,false,[.tmp 4],sT⟩
@[irreducible] def Ll:Bc:=EZ Li.er.er
@[irreducible] def Oq:Cf:=Db Li.er
theorem eP:Eg Ll Oq:=by unfold Ll Oq;exact Gb (f:=Li.er) ⟨um,trivial⟩
def UH:List HT:=[.one .frz (.sl (.one (.int .u8))),.one .frz (.int .i64)]
def UR:List (Ql×CT):=[(.frz,.sl (.one (.int .u8))),Au,Au]
@[irreducible] def Jb(x:Eh):List (Int)×Int×Int:=(shut λ x=>SC Li UH UR x).1 x
@[irreducible] def Mt(x:Eh):Prop:=(shut λ x=>Sj Li UH UR x).1 x
def YS:CO:=Wm UH UR Mt Jb
theorem eC:D2 Oq YS:=by unfold Oq;exact gQ (f:=Li) (hs:=UH) (cs:=UR) ⟨uk,trivial⟩ (by kernel_rfl) (λ x=>by kernel_rfl) (λ x h=>by unfold Mt at h;exact Eq.mp (congrFun (shut _).2 x) h) (λ x=>by unfold Jb;exact(congrFun (shut _).2 x).symm)
def sW:DCode:=(.seq [4,1,0] (.region [oa 0 4 (.allocB 0 [Ab,Ab,Ab,Ab])]) (.seq [5,4,1,0] (.region [om 0 8 0,op 1 9 Cb Dy EP [(.t 8),(.c (.int .i64 56))],oa 2 10 (.bin .add Av (.t 9)),om 3 5 10]) (.seq [6,5,4,1,0] (.region [om 0 11 0,op 1 12 Cb Dy EP [(.t 11),(.c (.int .i64 15))],oa 2 13 (.bin .add Av (.t 12)),om 3 6 13]) (.seq [6,5,4,1,0] (.seq [15,6,5,4,1,0] (.region [om 0 14 0,op 1 15 Hj Ja UK [(.t 14),(.c (.int .i64 2))]]) (.cond (.t 15) (.region [oi 0 6 2]) .skip)) (.seq [7,6,5,4,1,0] (.region [om 0 16 0,om 1 17 1,oa 2 18 (.bin .sub (.t 17) Av),oa 3 19 (.maxI Av (.t 18)),op 4 20 Cb Dy EP [(.t 16),(.t 19)],oa 5 21 (.bin .add Av (.t 20)),om 6 7 21]) (.seq [5,4] (.seq [23,7,6,5,4,1,0] (.region [om 0 22 0,op 1 23 Cb Dy EP [(.t 22),(.c (.int .i64 16))]]) (.block 0 (.seq [24,23,7,6,5,4,1,0] (.region [oa 0 25 (.bin .eql (.t 23) AE),om 1 24 25]) (.cond (.t 24) (.seq [4] (.region [om 0 26 5,om 1 27 6,oa 2 28 (.build [Ab,Ab,Ab,Ab] [(0,1,(.c (.int .i64 2))),(1,1,(.t 26)),(2,1,(.t 27))]),os 3 (.storeB 0 4 (.t 4) (.t 28))]) .ret) (.seq [29,23,7,6,5,4,1,0] (.region [oa 0 30 (.bin .eql (.t 23) Av),om 1 29 30]) (.cond (.t 29) (.seq [4] (.region [om 0 31 6,oa 1 32 (.build [Ab,Ab,Ab,Ab] [(0,1,(.c (.int .i64 2))),(2,1,(.t 31))]),os 2 (.storeB 0 4 (.t 4) (.t 32))]) .ret) (.seq [33,23,7,6,5,4,1,0] (.seq [33,23,7,6,5,4,1,0] (.region [oa 0 34 (.bin .eql (.t 23) (.c (.int .i64 2))),om 1 33 34]) (.cond (.t 33) .skip (.region [oa 0 35 (.bin .eql (.t 23) (.c (.int .i64 3))),om 1 33 35]))) (.cond (.t 33) (.seq [4] (.region [om 0 36 5,om 1 37 6,oa 2 38 (.build [Ab,Ab,Ab,Ab] [(0,1,(.c (.int .i64 6))),(1,1,(.t 36)),(2,1,(.t 37))]),os 3 (.storeB 0 4 (.t 4) (.t 38))]) .ret) (.seq [39,23,7,6,5,4,1,0] (.region [oa 0 40 (.bin .eql (.t 23) (.c (.int .i64 4))),om 1 39 40]) (.cond (.t 39) (.seq [4] (.region [om 0 41 6,oa 1 42 (.build [Ab,Ab,Ab,Ab] [(0,1,(.c (.int .i64 8))),(2,1,(.t 41))]),os 2 (.storeB 0 4 (.t 4) (.t 42))]) .ret) (.seq [43,23,7,5,4,1,0] (.region [oa 0 44 (.bin .eql (.t 23) (.c (.int .i64 5))),om 1 43 44]) (.cond (.t 43) (.seq [4] (.region [om 0 45 0,op 1 46 Cb Dy EP [(.t 45),(.c (.int .i64 4))],oa 2 47 (.build [Ab,Ab,Ab,Ab] [(0,1,(.c (.int .i64 9))),(3,1,(.t 46))]),os 3 (.storeB 0 4 (.t 4) (.t 47))]) .ret) (.seq [48,23,7,5,4,1,0] (.region [oa 0 49 (.bin .eql (.t 23) (.c (.int .i64 6))),om 1 48 49]) (.cond (.t 48) (.seq [4] (.region [oa 0 50 (.build [Ab,Ab,Ab,Ab] [(0,1,(.c (.int .i64 10)))]),os 1 (.storeB 0 4 (.t 4) (.t 50))]) .ret) (.seq [51,23,7,5,4,1,0] (.region [oa 0 52 (.bin .eql (.t 23) (.c (.int .i64 7))),om 1 51 52]) (.cond (.t 51) (.seq [4] (.region [om 0 53 0,om 1 54 1,oa 2 55 (.maxI Av (.t 54)),op 3 56 Cb Dy EP [(.t 53),(.t 55)],oa 4 57 (.build [Ab,Ab,Ab,Ab] [(0,1,(.c (.int .i64 5))),(3,1,(.t 56))]),os 5 (.storeB 0 4 (.t 4) (.t 57))]) .ret) (.seq [58,7,5,4,1,0] (.seq [58,23,7,5,4,1,0] (.region [oa 0 59 (.bin .eql (.t 23) (.c (.int .i64 8))),om 1 58 59]) (.cond (.t 58) .skip (.seq [58,23,7,5,4,1,0] (.region [oa 0 60 (.bin .eql (.t 23) (.c (.int .i64 9))),om 1 58 60]) (.cond (.t 58) .skip (.region [oa 0 61 (.bin .eql (.t 23) (.c (.int .i64 10))),om 1 58 61]))))) (.cond (.t 58) (.seq [63,7,5,4,0] (.region [om 0 62 1,oa 1 63 (.bin .gtr (.t 62) Av)]) (.cond (.t 63) (.seq [4] (.region [om 0 64 7,oa 1 65 (.build [Ab,Ab,Ab,Ab] [(0,1,(.c (.int .i64 3))),(3,1,(.t 64))]),om 2 66 7,oa 3 67 (.build [Ab,Ab,Ab,Ab] [(0,1,(.c (.int .i64 4))),(3,1,(.t 66))]),om 4 68 5,om 5 69 7,oa 6 70 (.build [Ab,Ab,Ab,Ab] [(0,1,(.c (.int .i64 7))),(1,1,(.t 68)),(3,1,(.t 69))]),⟨7,some 71,.a false (.litSlice 4 3 [Ab,Ab,Ab,Ab,Ab,Ab,Ab,Ab,Ab,Ab,Ab,Ab] [(0,4,(.t 65)),(4,4,(.t 67)),(8,4,(.t 70))]) (some BS),none,[]⟩,om 8 72 0,op 9 73 Cb Dy EP [(.t 72),(.c (.int .i64 3))],oa 10 74 (.indexA 4 (.t 71) (.t 73)),ob 11 75 (.loadH (some 4) (.t 74)),os 12 (.storeB 0 4 (.t 4) (.t 75))]) .ret) .skip)) .skip)))))))))))))))))) (.seq [4] (.region [om 0 76 5,oa 1 77 (.build [Ab,Ab,Ab,Ab] [(0,1,(.c (.int .i64 2))),(1,1,(.t 76))]),os 2 (.storeB 0 4 (.t 4) (.t 77))]) .ret)))))))
def Ld:DFun:=⟨2,78,1,false,[.cell 4 (some 4)],sW⟩
@[irreducible] def Ou:Bc:=EZ Ld.er.er
@[irreducible] def QF:Cf:=Db Ld.er
theorem rz:Eg Ou QF:=by unfold Ou QF;exact Gb (f:=Ld.er) ⟨Fh,Fh,Ug,Fh,Fh,Fh,Fh,Fh,trivial⟩
def Uv:List HT:=[.one .frz (.int .i64)]
def UG:List (Ql×CT):=[(.frz,.sl (.one (.int .u8))),Au,Au]
def UY:QT:=.one (.agg [Au,Au,Au,Au])
@[irreducible] def Ck(x:Cw):CI×A0:=(shut λ x=>HK Ld Uv UG UY x).1 x
@[irreducible] def Od(x:Cw):Prop:=(shut λ x=>HA Ld Uv UG UY x).1 x
def fj:CO:=Im Uv UG UY Od Ck
theorem sg:D2 QF fj:=by unfold QF;exact Ks (f:=Ld) (hs:=Uv) (cs:=UG) (q:=UY) ⟨Fg,Fg,Yz,Fg,Fg,Fg,Fg,Fg,trivial⟩ (by kernel_rfl) (λ x=>by kernel_rfl) (λ x h=>by unfold Od at h;exact Eq.mp (congrFun (shut _).2 x) h) (λ x=>by unfold Ck;exact(congrFun (shut _).2 x).symm)
def sK:DCode:=(.seq [4,1,0] (.region [oa 0 4 (.allocB 0 [Ab,.nils])]) (.seq [5,4,1,0] (.region [om 0 11 0,op 1 12 Cb Dy EP [(.t 11),(.c (.int .i64 4))],oa 2 13 (.bin .add Av (.t 12)),om 3 5 13]) (.seq [6,5,4,1,0] (.region [om 0 14 1,oa 1 15 (.build [Ab,.nils] [(0,1,(.t 14))]),oa 2 6 (.allocB 1 [Ab,.nils]),os 3 (.storeB 1 2 (.t 6) (.t 15))]) (.seq [6,4] (.seq [7,6,5,4,1,0] (.region [oi 0 7 0]) (.block 0 (.loop [0,1,4,5,6,7] 1 (.seq [7,6,5,4,1,0] (.seq [18,7,6,5,4,1,0] (.region [om 0 16 7,om 1 17 5,oa 2 18 (.bin .lss (.t 16) (.t 17))]) (.cond (.t 18) .skip (.exit 0))) (.seq [7,6,5,4,1,0] (.block 1 (.seq [8,7,6,5,4,1,0] (.region [⟨0,some 21,.a false (.litSlice 4 0 [] []) (some BS),none,[]⟩,om 1 8 21]) (.seq [8,7,6,5,4,1,0] (.seq [9,8,7,6,5,4,1,0] (.region [oi 0 9 0]) (.block 2 (.loop [0,1,4,5,6,7,8,9] 1 (.seq [9,8,7,6,5,4,1,0] (.seq [24,9,8,7,6,5,4,1,0] (.region [om 0 22 9,om 1 23 1,oa 2 24 (.bin .lss (.t 22) (.t 23))]) (.cond (.t 24) .skip (.exit 2))) (.seq [9,8,7,6,5,4,1,0] (.block 3 (.seq [10,9,8,7,6,5,4,1,0] (.region [om 0 27 0,om 1 28 5,op 2 29 Ou QF fj [(.t 27),(.t 28)],oa 3 10 (.allocB 2 [Ab,Ab,Ab,Ab]),os 4 (.storeB 2 4 (.t 10) (.t 29))]) (.seq [10,9,8,7,6,5,4,1,0] (.seq [35,10,9,8,7,6,5,4,1,0] (.region [om 0 30 7,oa 1 31 (.bin .gtr (.t 30) AE),om 2 32 31,og 3 33 (.mv (.t 0)) 32 true,⟨4,some 34,.callp false Hj Ja UK [(.t 33),(.c (.int .i64 3))],(some (32,true)),[]⟩,oa 5 35 (.pick (.t 32) (.t 34) Ar)]) (.cond (.t 35) (.region [oa 0 36 (.build [Ab,Ab,Ab,Ab] [(0,1,Av)]),os 1 (.storeB 2 4 (.t 10) (.t 36))]) .skip)) (.region [om 0 37 8,ob 1 38 (.loadB 2 (some 4) (.t 10)),⟨2,some 39,.a false (.litSlice 4 1 [Ab,Ab,Ab,Ab] [(0,4,(.t 38))]) (some BS),none,[]⟩,oa 3 40 (.app 4 (.t 37) (.t 39)),om 4 8 40])))) (.region [om 0 25 9,oa 1 26 (.bin .add (.t 25) Av),om 2 9 26])))))) (.region [oa 0 41 (.fieldA 1 (.t 6)),ob 1 42 (.loadB 1 none (.t 41)),om 2 43 8,⟨3,some 44,.a false (.litSlice 1 1 [.nils] [(0,1,(.t 43))]) (some (.one (.sl BS))),none,[]⟩,oa 4 45 (.app 1 (.t 42) (.t 44)),oa 5 46 (.fieldA 1 (.t 6)),os 6 (.storeB 1 1 (.t 46) (.t 45))])))) (.region [om 0 19 7,oa 1 20 (.bin .add (.t 19) Av),om 2 7 20])))))) (.seq [4] (.region [ob 0 47 (.loadB 1 (some 2) (.t 6)),os 1 (.storeB 0 2 (.t 4) (.t 47))]) .ret)))))
def Lh:DFun:=⟨2,48,3,false,[.cell 4 (some 2)],sK⟩
@[irreducible] def On:Bc:=EZ Lh.er.er
@[irreducible] def QM:Cf:=Db Lh.er
theorem rD:Eg On QM:=by unfold On QM;exact Gb (f:=Lh.er) ⟨Fh,rz,Ug,trivial⟩
def UB:List HT:=[.one .frz (.int .i64)]
def UO:List (Ql×CT):=[(.frz,.sl (.one (.int .u8))),Au,Au]
def UM:QT:=.one (.agg [Au,(.own,.sl (.one (.sl BS)))])
@[irreducible] def H7(x:Cw):CV×A0:=(shut λ x=>HK Lh UB UO UM x).1 x
@[irreducible] def N7(x:Cw):Prop:=(shut λ x=>HA Lh UB UO UM x).1 x
def fm:CO:=Im UB UO UM N7 H7
theorem rV:D2 QM fm:=by unfold QM;exact Ks (f:=Lh) (hs:=UB) (cs:=UO) (q:=UM) ⟨Fg,sg,Yz,trivial⟩ (by kernel_rfl) (λ x=>by kernel_rfl) (λ x h=>by unfold N7 at h;exact Eq.mp (congrFun (shut _).2 x) h) (λ x=>by unfold H7;exact(congrFun (shut _).2 x).symm)
def n9:DCode:=(.seq [2,1,0] (.region [oi 0 6 0]) (.seq [6] (.region [on 0 7 0,om 1 8 1,op 2 9 Ll Oq YS [(.t 7),(.t 8)],om 3 10 2,op 4 11 Cb Dy EP [(.t 9),(.t 10)],om 5 6 11]) .ret))
def JS:Fn:=⟨⟨3,12,0,true,[.tmp 6],n9⟩,[.one .frz (.sl (.one (.int .u8))),.one .frz (.int .i64),.one .frz (.int .i64)],.one (.one .own (.int .i64))⟩
theorem oj:JS.A:=A8 ⟨eP,Fh,trivial⟩
def NM:CB->Int:=JS.V
def Tt:CB->Prop:=JS.O
theorem nJ:JS.B:=Ba ⟨eC,Fg,trivial⟩ (by kernel_rfl) (λ x=>by kernel_rfl)
end
section
set_option maxRecDepth 100000
theorem sG (x):Jb x=((Km x.1).1,(Km x.1).2.1,(iAdd .i64 (Km x.1).2.2 (iMul .i64 7919 x.2))):=by unfold Jb;exact(congrFun (shut _).2 x).trans (by kernel_rfl)
theorem rX (x):Mt x=(Ov x.1):=by unfold Mt;exact(congrFun (shut _).2 x).trans (by kernel_rfl)
def Hi(x:Cw):=Aq ((x.1.1,(Aq (x.1,56)).2),15)
def CE(x:Cw):=Ct ((x.1.1,(Hi x).2),2)
def Ej(x:Cw):=Aq ((x.1.1,(bSel (CE x).1 (CE x).2.1 (CE x).2.1),(bSel (CE x).1 (CE x).2.2 (CE x).2.2)),(iMax 1 (iSub .i64 x.2 1)))
def AQ(x:Cw):=Aq ((x.1.1,(Ej x).2),16)
def NP(x:Cw):=Aq ((x.1.1,(AQ x).2),4)
def J1(x:Cw):=Aq ((x.1.1,(AQ x).2),3)
def NR(x:Cw):=Aq ((x.1.1,(AQ x).2),(iMax 1 x.2))
theorem sx (x):Ck x=(bSel (bAnd (bNot (iEq (AQ x).1 0)) (bAnd (bNot (iEq (AQ x).1 1)) (bAnd (bNot (bOr (iEq (AQ x).1 2) (iEq (AQ x).1 3))) (bAnd (bNot (iEq (AQ x).1 4)) (bAnd (bNot (iEq (AQ x).1 5)) (bAnd (bNot (iEq (AQ x).1 6)) (bAnd (bNot (iEq (AQ x).1 7)) (bOr (bNot (bOr (iEq (AQ x).1 8) (bOr (iEq (AQ x).1 9) (iEq (AQ x).1 10)))) (bNot (iGt x.2 1)))))))))) ((2,(iAdd .i64 1 (Aq (x.1,56)).1),0,0),(bSel (bOr (iEq (AQ x).1 8) (bOr (iEq (AQ x).1 9) (iEq (AQ x).1 10))) (AQ x).2.1 (AQ x).2.1),(bSel (bOr (iEq (AQ x).1 8) (bOr (iEq (AQ x).1 9) (iEq (AQ x).1 10))) (AQ x).2.2 (AQ x).2.2)) (bSel (iEq (AQ x).1 0) ((2,(iAdd .i64 1 (Aq (x.1,56)).1),(bSel (CE x).1 2 (iAdd .i64 1 (Hi x).1)),0),(AQ x).2) (bSel (iEq (AQ x).1 1) ((2,0,(bSel (CE x).1 2 (iAdd .i64 1 (Hi x).1)),0),(AQ x).2) (bSel (bOr (iEq (AQ x).1 2) (iEq (AQ x).1 3)) ((6,(iAdd .i64 1 (Aq (x.1,56)).1),(bSel (CE x).1 2 (iAdd .i64 1 (Hi x).1)),0),(AQ x).2) (bSel (iEq (AQ x).1 4) ((8,0,(bSel (CE x).1 2 (iAdd .i64 1 (Hi x).1)),0),(AQ x).2) (bSel (iEq (AQ x).1 5) ((9,0,0,(NP x).1),(NP x).2) (bSel (iEq (AQ x).1 6) ((10,0,0,0),(AQ x).2) (bSel (iEq (AQ x).1 7) ((5,0,0,(NR x).1),(NR x).2) ((lGet [(3,0,0,(iAdd .i64 1 (Ej x).1)),(4,0,0,(iAdd .i64 1 (Ej x).1)),(7,(iAdd .i64 1 (Aq (x.1,56)).1),0,(iAdd .i64 1 (Ej x).1))] (iNat (J1 x).1) (0,0,0,0)),(J1 x).2))))))))):=by unfold Ck;exact(congrFun (shut _).2 x).trans (by kernel_rfl)
theorem sv (x):Od x=((DY (x.1,56))/\((DY ((x.1.1,(Aq (x.1,56)).2),15))/\((Ke ((x.1.1,(Hi x).2),2))/\((DY ((x.1.1,(bSel (CE x).1 (CE x).2.1 (CE x).2.1),(bSel (CE x).1 (CE x).2.2 (CE x).2.2)),(iMax 1 (iSub .i64 x.2 1))))/\((DY ((x.1.1,(Ej x).2),16))/\(((iEq (AQ x).1 0)=true->True)/\((iEq (AQ x).1 0)=false->(((iEq (AQ x).1 1)=true->True)/\((iEq (AQ x).1 1)=false->(((bOr (iEq (AQ x).1 2) (iEq (AQ x).1 3))=true->True)/\((bOr (iEq (AQ x).1 2) (iEq (AQ x).1 3))=false->(((iEq (AQ x).1 4)=true->True)/\((iEq (AQ x).1 4)=false->(((iEq (AQ x).1 5)=true->(DY ((x.1.1,(AQ x).2),4)))/\((iEq (AQ x).1 5)=false->(((iEq (AQ x).1 6)=true->True)/\((iEq (AQ x).1 6)=false->(((iEq (AQ x).1 7)=true->(DY ((x.1.1,(AQ x).2),(iMax 1 x.2))))/\((iEq (AQ x).1 7)=false->(((bOr (iEq (AQ x).1 8) (bOr (iEq (AQ x).1 9) (iEq (AQ x).1 10)))=true->(((iGt x.2 1)=true->((DY ((x.1.1,(AQ x).2),3))/\((((0:Int)<=(J1 x).1)/\((J1 x).1<(((List.length [(3,0,0,(iAdd .i64 1 (Ej x).1)),(4,0,0,(iAdd .i64 1 (Ej x).1)),(7,(iAdd .i64 1 (Aq (x.1,56)).1),0,(iAdd .i64 1 (Ej x).1))]):Int))))/\((iNat (J1 x).1)<(List.length [(3,0,0,(iAdd .i64 1 (Ej x).1)),(4,0,0,(iAdd .i64 1 (Ej x).1)),(7,(iAdd .i64 1 (Aq (x.1,56)).1),0,(iAdd .i64 1 (Ej x).1))])))))/\((iGt x.2 1)=false->True)))/\((bOr (iEq (AQ x).1 8) (bOr (iEq (AQ x).1 9) (iEq (AQ x).1 10)))=false->True))))))))))))))))))))):=by unfold Od;exact(congrFun (shut _).2 x).trans (by kernel_rfl)
def Mq(x:Cw)(x0:Ng):Bool:=(iLt x0.1 (iAdd .i64 1 (Aq (x.1,4)).1))
def HV(x:Cw)(x1:G5×CR):Bool:=(iLt x1.2.1 x.2)
def IY(x:Cw)(x0:Ng)(x1:G5×CR):(G5×CR):=((lApp x1.1 [((bSel (bAnd (iGt x0.1 0) (Ct ((x.1.1,(Ck ((x.1.1,x1.2.2),(iAdd .i64 1 (Aq (x.1,4)).1))).2),3)).1) 1 (Ck ((x.1.1,x1.2.2),(iAdd .i64 1 (Aq (x.1,4)).1))).1.1),(bSel (bAnd (iGt x0.1 0) (Ct ((x.1.1,(Ck ((x.1.1,x1.2.2),(iAdd .i64 1 (Aq (x.1,4)).1))).2),3)).1) 0 (Ck ((x.1.1,x1.2.2),(iAdd .i64 1 (Aq (x.1,4)).1))).1.2.1),(bSel (bAnd (iGt x0.1 0) (Ct ((x.1.1,(Ck ((x.1.1,x1.2.2),(iAdd .i64 1 (Aq (x.1,4)).1))).2),3)).1) 0 (Ck ((x.1.1,x1.2.2),(iAdd .i64 1 (Aq (x.1,4)).1))).1.2.2.1),(bSel (bAnd (iGt x0.1 0) (Ct ((x.1.1,(Ck ((x.1.1,x1.2.2),(iAdd .i64 1 (Aq (x.1,4)).1))).2),3)).1) 0 (Ck ((x.1.1,x1.2.2),(iAdd .i64 1 (Aq (x.1,4)).1))).1.2.2.2))]),(iAdd .i64 x1.2.1 1),(bSel (bAnd (iGt x0.1 0) (Ct ((x.1.1,(Ck ((x.1.1,x1.2.2),(iAdd .i64 1 (Aq (x.1,4)).1))).2),3)).1) (bSel (iGt x0.1 0) (Ct ((x.1.1,(Ck ((x.1.1,x1.2.2),(iAdd .i64 1 (Aq (x.1,4)).1))).2),3)).2.1 (Ck ((x.1.1,x1.2.2),(iAdd .i64 1 (Aq (x.1,4)).1))).2.1) (bSel (iGt x0.1 0) (Ct ((x.1.1,(Ck ((x.1.1,x1.2.2),(iAdd .i64 1 (Aq (x.1,4)).1))).2),3)).2.1 (Ck ((x.1.1,x1.2.2),(iAdd .i64 1 (Aq (x.1,4)).1))).2.1)),(bSel (bAnd (iGt x0.1 0) (Ct ((x.1.1,(Ck ((x.1.1,x1.2.2),(iAdd .i64 1 (Aq (x.1,4)).1))).2),3)).1) (bSel (iGt x0.1 0) (Ct ((x.1.1,(Ck ((x.1.1,x1.2.2),(iAdd .i64 1 (Aq (x.1,4)).1))).2),3)).2.2 (Ck ((x.1.1,x1.2.2),(iAdd .i64 1 (Aq (x.1,4)).1))).2.2) (bSel (iGt x0.1 0) (Ct ((x.1.1,(Ck ((x.1.1,x1.2.2),(iAdd .i64 1 (Aq (x.1,4)).1))).2),3)).2.2 (Ck ((x.1.1,x1.2.2),(iAdd .i64 1 (Aq (x.1,4)).1))).2.2)))
def NT(x:Cw)(x0:Ng):Ng:=((iAdd .i64 x0.1 1),(lApp x0.2.1 [(Al (HV x) (IY x x0) ([],0,x0.2.2)).1]),(Al (HV x) (IY x x0) ([],0,x0.2.2)).2.2)
def TD(x:Cw)(x0:Ng)(x1:G5×CR):Prop:=(((iLt x1.2.1 x.2)=true->((Od ((x.1.1,x1.2.2),(iAdd .i64 1 (Aq (x.1,4)).1)))/\((((iGt x0.1 0)=true->(Ke ((x.1.1,(Ck ((x.1.1,x1.2.2),(iAdd .i64 1 (Aq (x.1,4)).1))).2),3)))/\((iGt x0.1 0)=false->True))/\(As (((List.length x1.1)+(List.length [((bSel (bAnd (iGt x0.1 0) (Ct ((x.1.1,(Ck ((x.1.1,x1.2.2),(iAdd .i64 1 (Aq (x.1,4)).1))).2),3)).1) 1 (Ck ((x.1.1,x1.2.2),(iAdd .i64 1 (Aq (x.1,4)).1))).1.1),(bSel (bAnd (iGt x0.1 0) (Ct ((x.1.1,(Ck ((x.1.1,x1.2.2),(iAdd .i64 1 (Aq (x.1,4)).1))).2),3)).1) 0 (Ck ((x.1.1,x1.2.2),(iAdd .i64 1 (Aq (x.1,4)).1))).1.2.1),(bSel (bAnd (iGt x0.1 0) (Ct ((x.1.1,(Ck ((x.1.1,x1.2.2),(iAdd .i64 1 (Aq (x.1,4)).1))).2),3)).1) 0 (Ck ((x.1.1,x1.2.2),(iAdd .i64 1 (Aq (x.1,4)).1))).1.2.2.1),(bSel (bAnd (iGt x0.1 0) (Ct ((x.1.1,(Ck ((x.1.1,x1.2.2),(iAdd .i64 1 (Aq (x.1,4)).1))).2),3)).1) 0 (Ck ((x.1.1,x1.2.2),(iAdd .i64 1 (Aq (x.1,4)).1))).1.2.2.2))]))*4)))))/\((iLt x1.2.1 x.2)=false->True))
def Ye(x:Cw)(x0:Ng):Prop:=(((iLt x0.1 (iAdd .i64 1 (Aq (x.1,4)).1))=true->((LoopOk (HV x) (IY x x0) (TD x x0) ([],0,x0.2.2))/\(As (((List.length x0.2.1)+(List.length [(Al (HV x) (IY x x0) ([],0,x0.2.2)).1]))*1))))/\((iLt x0.1 (iAdd .i64 1 (Aq (x.1,4)).1))=false->True))
theorem rO (x):H7 x=((x.2,(Al (Mq x) (NT x) (0,[],(Aq (x.1,4)).2)).2.1),(Al (Mq x) (NT x) (0,[],(Aq (x.1,4)).2)).2.2):=by unfold H7;exact(congrFun (shut _).2 x).trans (by kernel_rfl)
theorem sf (x):N7 x=((DY (x.1,4))/\(LoopOk (Mq x) (NT x) (Ye x) (0,[],(Aq (x.1,4)).2))):=by unfold N7;exact(congrFun (shut _).2 x).trans (by kernel_rfl)
theorem nH (x):NM x=(Aq ((Jb (x.1,x.2.1)),x.2.2)).1:=(JS.v x).trans (by kernel_rfl)
theorem nB (x):Tt x=((Mt (x.1,x.2.1))/\(DY ((Jb (x.1,x.2.1)),x.2.2))):=(JS.o x).trans (by kernel_rfl)
attribute [irreducible] NM Tt
end
section
set_option maxRecDepth 8000
def sM:DCode:=(.seq [0] (.region [oa 0 2 (.mv (.c .nils))]) (.seq [3,0] (.region [⟨0,some 7,.a false (.litSlice 3 0 [] []) (some BV),none,[]⟩,om 1 3 7]) (.seq [3] (.seq [4,3,0] (.region [om 0 8 0,op 1 9 Cb Dy EP [(.t 8),(.c (.int .i64 3))],om 2 4 9]) (.block 0 (.loop [0,3,4] 1 (.seq [4,3,0] (.seq [11,4,3,0] (.region [om 0 10 4,oa 1 11 (.bin .gtr (.t 10) AE)]) (.cond (.t 11) .skip (.exit 0))) (.seq [4,3,0] (.block 1 (.seq [5,4,3,0] (.region [om 0 14 0,op 1 15 Cb Dy EP [(.t 14),(.c (.int .i64 56))],oa 2 16 (.bin .add Av (.t 15)),om 3 17 0,⟨4,some 18,.a false (.litSlice 1 4 [Ab,Ab,Ab,Ab] [(0,1,AE),(1,1,AE),(2,1,(.c (.int .i64 2))),(3,1,Av)]) (some (.one (.int .i64))),none,[]⟩,⟨5,some 19,.callp true NY Qm dF [(.t 17),(.t 18)],none,[]⟩,oa 6 20 (.build [Ab,Ab,Ab] [(1,1,(.t 16)),(2,1,(.t 19))]),oa 7 5 (.allocB 0 [Ab,Ab,Ab]),os 8 (.storeB 0 3 (.t 5) (.t 20))]) (.seq [5,4,3,0] (.seq [22,5,4,3,0] (.region [om 0 21 0,op 1 22 Hj Ja UK [(.t 21),(.c (.int .i64 2))]]) (.cond (.t 22) (.seq [4,3,0] (.region [om 0 23 3,ob 1 24 (.loadB 0 (some 3) (.t 5)),⟨2,some 25,.a false (.litSlice 3 1 [Ab,Ab,Ab] [(0,3,(.t 24))]) (some BV),none,[]⟩,oa 3 26 (.app 3 (.t 23) (.t 25)),om 4 3 26]) (.exit 1)) .skip)) (.seq [5,4,3,0] (.region [oa 0 27 (.fieldA 0 (.t 5)),os 1 (.storeB 0 1 (.t 27) Av)]) (.seq [6,5,4,3,0] (.region [ob 0 28 (.loadB 0 (some 3) (.t 5)),oa 1 6 (.allocB 1 [Ab,Ab,Ab]),os 2 (.storeB 1 3 (.t 6) (.t 28))]) (.seq [6,5,4,3,0] (.region [oa 0 29 (.fieldA 0 (.t 6)),os 1 (.storeB 1 1 (.t 29) (.c (.int .i64 2)))]) (.region [ob 1 31 (.loadB 0 (some 3) (.t 5)),on 2 32 3,oa 3 33 (.len (.t 32)),om 0 30 3,oa 4 34 (.bin .sub (.c (.int .i64 60)) (.t 33)),oa 5 35 (.bin .sub (.t 34) (.c (.int .i64 10))),oa 6 36 (.build [Ab,Ab,Ab] [(1,1,(.t 35)),(2,1,(.c (.int .i64 8)))]),ob 7 37 (.loadB 1 (some 3) (.t 6)),⟨8,some 38,.a false (.litSlice 3 3 [Ab,Ab,Ab,Ab,Ab,Ab,Ab,Ab,Ab] [(0,3,(.t 31)),(3,3,(.t 36)),(6,3,(.t 37))]) (some BV),none,[]⟩,oa 9 39 (.app 3 (.t 30) (.t 38)),om 10 3 39]))))))) (.region [om 0 12 4,oa 1 13 (.bin .sub (.t 12) Av),om 2 4 13])))))) (.seq [2] (.region [om 0 40 3,om 1 2 40]) .ret))))
def Lg:DFun:=⟨1,41,2,false,[.tmp 2],sM⟩
@[irreducible] def Ol:Bc:=EZ Lg.er.er
@[irreducible] def QG:Cf:=Db Lg.er
theorem r9:Eg Ol QG:=by unfold Ol QG;exact Gb (f:=Lg.er) ⟨Fh,Fh,oH,Ug,trivial⟩
def UU:List HT:=[]
def UX:List (Ql×CT):=[(.frz,.sl (.one (.int .u8))),Au,Au]
def UA:QT:=.one (.one .own (.sl BV))
@[irreducible] def Jc(x:CB):CU×A0:=(shut λ x=>HK Lg UU UX UA x).1 x
@[irreducible] def N8(x:CB):Prop:=(shut λ x=>HA Lg UU UX UA x).1 x
def fo:CO:=Im UU UX UA N8 Jc
theorem sB:D2 QG fo:=by unfold QG;exact Ks (f:=Lg) (hs:=UU) (cs:=UX) (q:=UA) ⟨Fg,Fg,ov,Yz,trivial⟩ (by kernel_rfl) (λ x=>by kernel_rfl) (λ x h=>by unfold N8 at h;exact Eq.mp (congrFun (shut _).2 x) h) (λ x=>by unfold Jc;exact(congrFun (shut _).2 x).symm)
end
section
set_option maxRecDepth 100000
def Qn(x0:CU×CR):Bool:=(iGt x0.2.1 0)
def Qb(x:CB)(x0:CU×CR):(CU×CR):=((bSel (Ct ((x.1,(Dj ((x.1,(Aq ((x.1,x0.2.2),56)).2),[0,0,2,1])).2),2)).1 (lApp x0.1 [(0,(iAdd .i64 1 (Aq ((x.1,x0.2.2),56)).1),(Dj ((x.1,(Aq ((x.1,x0.2.2),56)).2),[0,0,2,1])).1)]) (lApp x0.1 [(1,(iAdd .i64 1 (Aq ((x.1,x0.2.2),56)).1),(Dj ((x.1,(Aq ((x.1,x0.2.2),56)).2),[0,0,2,1])).1),(0,(iSub .i64 (iSub .i64 60 (lLen x0.1)) 10),8),(2,(iAdd .i64 1 (Aq ((x.1,x0.2.2),56)).1),(Dj ((x.1,(Aq ((x.1,x0.2.2),56)).2),[0,0,2,1])).1)])),(iSub .i64 x0.2.1 1),(bSel (Ct ((x.1,(Dj ((x.1,(Aq ((x.1,x0.2.2),56)).2),[0,0,2,1])).2),2)).1 (Ct ((x.1,(Dj ((x.1,(Aq ((x.1,x0.2.2),56)).2),[0,0,2,1])).2),2)).2.1 (Ct ((x.1,(Dj ((x.1,(Aq ((x.1,x0.2.2),56)).2),[0,0,2,1])).2),2)).2.1),(bSel (Ct ((x.1,(Dj ((x.1,(Aq ((x.1,x0.2.2),56)).2),[0,0,2,1])).2),2)).1 (Ct ((x.1,(Dj ((x.1,(Aq ((x.1,x0.2.2),56)).2),[0,0,2,1])).2),2)).2.2 (Ct ((x.1,(Dj ((x.1,(Aq ((x.1,x0.2.2),56)).2),[0,0,2,1])).2),2)).2.2))
def X6(x:CB)(x0:CU×CR):Prop:=(((iGt x0.2.1 0)=true->((DY ((x.1,x0.2.2),56))/\((NK ((x.1,(Aq ((x.1,x0.2.2),56)).2),[0,0,2,1]))/\((Ke ((x.1,(Dj ((x.1,(Aq ((x.1,x0.2.2),56)).2),[0,0,2,1])).2),2))/\(((Ct ((x.1,(Dj ((x.1,(Aq ((x.1,x0.2.2),56)).2),[0,0,2,1])).2),2)).1=true->(As (((List.length x0.1)+(List.length [(0,(iAdd .i64 1 (Aq ((x.1,x0.2.2),56)).1),(Dj ((x.1,(Aq ((x.1,x0.2.2),56)).2),[0,0,2,1])).1)]))*3)))/\((Ct ((x.1,(Dj ((x.1,(Aq ((x.1,x0.2.2),56)).2),[0,0,2,1])).2),2)).1=false->(As (((List.length x0.1)+(List.length [(1,(iAdd .i64 1 (Aq ((x.1,x0.2.2),56)).1),(Dj ((x.1,(Aq ((x.1,x0.2.2),56)).2),[0,0,2,1])).1),(0,(iSub .i64 (iSub .i64 60 (lLen x0.1)) 10),8),(2,(iAdd .i64 1 (Aq ((x.1,x0.2.2),56)).1),(Dj ((x.1,(Aq ((x.1,x0.2.2),56)).2),[0,0,2,1])).1)]))*3))))))))/\((iGt x0.2.1 0)=false->True))
theorem sH (x):Jc x=((Al Qn (Qb x) ([],(Aq (x,3)))).1,(Al Qn (Qb x) ([],(Aq (x,3)))).2.2):=by unfold Jc;exact(congrFun (shut _).2 x).trans (by kernel_rfl)
theorem sY (x):N8 x=((DY (x,3))/\(LoopOk Qn (Qb x) (X6 x) ([],(Aq (x,3))))):=by unfold N8;exact(congrFun (shut _).2 x).trans (by kernel_rfl)
end
end
end Go.Ag
