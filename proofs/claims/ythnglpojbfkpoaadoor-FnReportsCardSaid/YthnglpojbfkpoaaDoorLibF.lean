/- Part 6 of what FnReports needs. No conditions. -/
import Derived.Test.YthnglpojbfkpoaaDoorLibE
namespace Go.Ag
set_option linter.unusedSimpArgs false
set_option linter.unusedVariables false
noncomputable section
section
set_option maxRecDepth 8000
def cZ:DCode:=(.seq [0] (.region [oi 0 2 0]) (.seq [] (.seq [3,0] (.region [oi 0 3 1]) (.block 0 (.loop [0,3] 1 (.seq [3,0] (.seq [5,3,0] (.region [om 0 4 3,oa 1 5 (.bin .leq (.t 4) (.c (.int .i64 15)))]) (.cond (.t 5) .skip (.exit 0))) (.seq [3,0] (.block 1 (.seq [11,3,0] (.region [om 0 8 3,oF 1 9 KS [(.t 8)],om 2 10 0,oa 3 11 (.bin .eql (.t 9) (.t 10))]) (.cond (.t 11) (.seq [2] (.region [om 0 12 3,om 1 2 12]) .ret) .skip))) (.region [om 0 6 3,oa 1 7 (.bin .add (.t 6) (.c (.int .i64 1))),om 2 3 7])))))) (.seq [2] (.region [oi 0 2 0]) .ret)))
def MJ:Fn:=⟨⟨1,13,0,true,[.tmp 2],cZ⟩,[.one .frz (.str)],.one (.one .own (.int .i64))⟩
def Da:List UInt8→Int:=MJ.V
def Pj:List UInt8→Prop:=MJ.O
def fB:DCode:=(.seq [0] (.region [oi 0 2 0]) (.seq [] (.seq [3,0] (.region [oi 0 3 1]) (.block 0 (.loop [0,3] 1 (.seq [3,0] (.seq [5,3,0] (.region [om 0 4 3,oa 1 5 (.bin .leq (.t 4) (.c (.int .i64 56)))]) (.cond (.t 5) .skip (.exit 0))) (.seq [3,0] (.block 1 (.seq [11,3,0] (.region [om 0 8 3,oF 1 9 K5 [(.t 8)],om 2 10 0,oa 3 11 (.bin .eql (.t 9) (.t 10))]) (.cond (.t 11) (.seq [2] (.region [om 0 12 3,om 1 2 12]) .ret) .skip))) (.region [om 0 6 3,oa 1 7 (.bin .add (.t 6) (.c (.int .i64 1))),om 2 3 7])))))) (.seq [2] (.region [oi 0 2 0]) .ret)))
def MW:Fn:=⟨⟨1,13,0,true,[.tmp 2],fB⟩,[.one .frz (.str)],.one (.one .own (.int .i64))⟩
def Eg:List UInt8→Int:=MW.V
def PU:List UInt8→Prop:=MW.O
def bW:DCode:=(.seq [2,0] (.region [oa 0 2 (.allocB 0 [(.int .i64 0),.nils]),oa 1 3 (.mv (.c (.bool false)))]) (.seq [4,2,0] (.region [om 0 8 0,oF 1 9 JE [(.t 8),(.c (.int .u8 58))],on 2 4 9]) (.seq [4,2,0] (.seq [12,4,2,0] (.region [on 0 10 4,oa 1 11 (.len (.t 10)),oa 2 12 (.bin .neq (.t 11) (.c (.int .i64 2)))]) (.cond (.t 12) (.seq [3,2] (.region [oa 0 13 (.build [(.int .i64 0),.nils] []),os 1 (.storeB 0 2 (.t 2) (.t 13)),oa 2 3 (.mv (.c (.bool false)))]) .ret) .skip)) (.seq [5,4,2,0] (.region [on 0 14 4,oa 1 15 (.indexA 1 (.t 14) (.c (.int .i64 0))),oa 2 16 (.loadH none (.t 15)),oF 3 17 MJ [(.t 16)],⟨4,some 18,.a false (.litSlice 1 0 [] []) (some (.one (.int .i64))),none,[]⟩,oa 5 19 (.build [(.int .i64 0),.nils] [(0,1,(.t 17)),(1,1,(.t 18))]),oa 6 5 (.allocB 1 [(.int .i64 0),.nils]),os 7 (.storeB 1 2 (.t 5) (.t 19))]) (.seq [5,2,0] (.seq [23,5,4,2,0] (.region [on 0 20 4,oa 1 21 (.indexA 1 (.t 20) (.c (.int .i64 1))),oa 2 22 (.loadH none (.t 21)),oa 3 23 (.bin .neq (.t 22) (.c (.str [])))]) (.cond (.t 23) (.seq [6,5,2,0] (.region [on 0 24 4,oa 1 25 (.indexA 1 (.t 24) (.c (.int .i64 1))),oa 2 26 (.loadH none (.t 25)),oF 3 27 JE [(.t 26),(.c (.int .u8 44))],on 4 6 27]) (.seq [7,6,5,2,0] (.region [oi 0 7 0]) (.block 0 (.loop [0,2,5,6,7] 1 (.seq [7,6,5,2,0] (.seq [31,7,6,5,2,0] (.region [om 0 28 7,on 1 29 6,oa 2 30 (.len (.t 29)),oa 3 31 (.bin .lss (.t 28) (.t 30))]) (.cond (.t 31) .skip (.exit 0))) (.seq [7,6,5,2,0] (.block 1 (.region [oa 0 34 (.fieldA 1 (.t 5)),xB 1 35 (.loadB 1 none (.t 34)) (rg 1),on 2 36 6,om 3 37 7,xA 4 38 (.indexA 1 (.t 36) (.t 37)) [2,3],xA 5 39 (.loadH none (.t 38)) [2,3,4],xF 6 40 MW [(.t 39)] [2,3,4,5],⟨7,some 41,.a false (.litSlice 1 1 [(.int .i64 0)] [(0,1,(.t 40))]) (some (.one (.int .i64))),none,[2,3,4,5,6]⟩,xA 8 42 (.app 1 (.t 35) (.t 41)) (rg 8),xA 9 43 (.fieldA 1 (.t 5)) (rg 9),xS 10 (.storeB 1 1 (.t 43) (.t 42)) (rg 10)])) (.region [om 0 32 7,oa 1 33 (.bin .add (.t 32) (.c (.int .i64 1))),om 2 7 33]))))))) .skip)) (.seq [5,2] (.seq [47,5,2] (.region [oa 0 44 (.loadB 1 (some 2) (.t 5)),oF 1 45 Mz [(.t 44)],om 2 46 0,oa 3 47 (.bin .neq (.t 45) (.t 46))]) (.cond (.t 47) (.seq [3,2] (.region [oa 0 48 (.build [(.int .i64 0),.nils] []),os 1 (.storeB 0 2 (.t 2) (.t 48)),oa 2 3 (.mv (.c (.bool false)))]) .ret) .skip)) (.seq [3,2] (.region [ob 0 49 (.loadB 1 (some 2) (.t 5)),os 1 (.storeB 0 2 (.t 2) (.t 49)),oa 2 3 (.mv (.c (.bool true)))]) .ret)))))))
def Pa:Fn:=⟨⟨1,50,2,false,[.cell 2 (some 2),.tmp 3],bW⟩,[.one .frz (.str)],.tup [.agg [(.own,.int .i64),(.own,.sl (.one (.int .i64)))],.one .own (.bool)]⟩
def MC:List UInt8→(Int×List (Int))×Bool:=Pa.V
def Su:List UInt8→Prop:=Pa.O
def bG:DCode:=(.seq [1,0] (.region [oa 0 4 (.mv (.c (.str []))),oa 1 5 (.mv (.c (.str []))),oa 2 6 (.mv (.c (.bool false)))]) (.seq [0] (.seq [7,1,0] (.region [om 0 8 0,om 1 9 1,oc 2 10 Mr Ms V6 [(.t 8),(.t 9)],om 3 7 10]) (.seq [12,7,1,0] (.region [om 0 11 7,oa 1 12 (.bin .geq (.t 11) (.c (.int .i64 0)))]) (.cond (.t 12) (.seq [6,5,4] (.region [om 0 13 0,om 1 14 7,xA 2 15 (.substr (.t 13) none (some (.t 14))) (rg 2),om 3 16 0,om 4 17 7,om 5 18 1,xA 6 19 (.lenT (.t 18)) [5],xA 7 20 (.bin .add (.t 17) (.t 19)) [4,5,6],xA 8 21 (.substr (.t 16) (some (.t 20)) none) [3,4,5,6,7],xA 9 4 (.mv (.t 15)) [0,1,2],xA 10 5 (.mv (.t 21)) (rg 10),xA 11 6 (.mv (.c (.bool true))) (rg 11)]) .ret) .skip))) (.seq [6,5,4] (.region [om 0 22 0,om 1 4 22,oa 2 5 (.mv (.c (.str []))),oa 3 6 (.mv (.c (.bool false)))]) .ret)))
def Ht:Fn:=⟨⟨2,23,0,true,[.tmp 4,.tmp 5,.tmp 6],bG⟩,[.one .frz (.str),.one .frz (.str)],.tup [.one .own (.str),.one .own (.str),.one .own (.bool)]⟩
theorem bH:Ht.A:=CE ⟨bE,trivial⟩
def Sq:List UInt8×List UInt8→List UInt8×List UInt8×Bool:=Ht.V
def Sp:List UInt8×List UInt8→Prop:=Ht.O
theorem bI:Ht.B:=CO ⟨bD,trivial⟩ (by kernel_rfl) (fun x=>by kernel_rfl)
def fF:DCode:=(.seq [1,0] (.region [oa 0 4 (.mv (.c (.str []))),oa 1 5 (.mv (.c (.str []))),oa 2 6 (.mv (.c (.bool false)))]) (.seq [6,5,4] (.region [om 0 7 0,om 1 8 1,oF 2 9 Ht [(.t 7),(.t 8)],oa 3 10 (.extract (.t 9) 0),oa 4 11 (.extract (.t 9) 1),oa 5 12 (.extract (.t 9) 2),om 6 4 10,om 7 5 11,om 8 6 12]) .ret))
def HL:Fn:=⟨⟨2,13,0,true,[.tmp 4,.tmp 5,.tmp 6],fF⟩,[.one .frz (.str),.one .frz (.str)],.tup [.one .own (.str),.one .own (.str),.one .own (.bool)]⟩
theorem fJ:HL.A:=CE ⟨bH,trivial⟩
def BJ:List UInt8×List UInt8→List UInt8×List UInt8×Bool:=HL.V
def K8:List UInt8×List UInt8→Prop:=HL.O
theorem fE:HL.B:=CO ⟨bI,trivial⟩ (by kernel_rfl) (fun x=>by kernel_rfl)
def cG:DCode:=(.seq [0] (.region [oi 0 2 0]) (.seq [] (.seq [3,0] (.region [oi 0 3 1]) (.block 0 (.loop [0,3] 1 (.seq [3,0] (.seq [5,3,0] (.region [om 0 4 3,oa 1 5 (.bin .leq (.t 4) (.c (.int .i64 15)))]) (.cond (.t 5) .skip (.exit 0))) (.seq [3,0] (.block 1 (.seq [11,3,0] (.region [om 0 8 3,oF 1 9 F0 [(.t 8)],om 2 10 0,oa 3 11 (.bin .eql (.t 9) (.t 10))]) (.cond (.t 11) (.seq [2] (.region [om 0 12 3,om 1 2 12]) .ret) .skip))) (.region [om 0 6 3,oa 1 7 (.bin .add (.t 6) (.c (.int .i64 1))),om 2 3 7])))))) (.seq [2] (.region [oi 0 2 0]) .ret)))
def HD:Fn:=⟨⟨1,13,0,true,[.tmp 2],cG⟩,[.one .frz (.str)],.one (.one .own (.int .i64))⟩
theorem ct:HD.A:=CE ⟨Wh,trivial⟩
def GO:List UInt8→Int:=HD.V
def Pk:List UInt8→Prop:=HD.O
theorem cE:HD.B:=CO ⟨Wf,trivial⟩ (by kernel_rfl) (fun x=>by kernel_rfl)
def cY:DCode:=(.seq [1,0] (.region [oa 0 4 (.mv (.c .nils))]) (.seq [5,1,0] (.region [oa 0 5 (.mv (.c .nils))]) (.seq [6,5,1,0] (.region [oi 0 6 0]) (.seq [6,5,0] (.seq [7,6,5,1,0] (.region [oi 0 7 0]) (.block 0 (.loop [0,1,5,6,7] 1 (.seq [7,6,5,1,0] (.seq [11,7,6,5,1,0] (.region [om 0 8 7,om 1 9 0,oa 2 10 (.lenT (.t 9)),oa 3 11 (.bin .lss (.t 8) (.t 10))]) (.cond (.t 11) .skip (.exit 0))) (.seq [7,6,5,1,0] (.block 1 (.seq [18,7,6,5,1,0] (.region [om 0 14 0,om 1 15 7,oa 2 16 (.index (.t 14) (.t 15)),om 3 17 1,oa 4 18 (.bin .eql (.t 16) (.t 17))]) (.cond (.t 18) (.seq [7,5,1,0] (.region [om 0 19 5,om 1 20 0,om 2 21 6,om 3 22 7,oa 4 23 (.substr (.t 20) (some (.t 21)) (some (.t 22))),⟨5,some 24,.a false (.litSlice 1 1 [(.str [])] [(0,1,(.t 23))]) (some (.one (.str))),none,[]⟩,oa 6 25 (.app 1 (.t 19) (.t 24)),om 7 5 25]) (.region [om 0 26 7,oa 1 27 (.bin .add (.t 26) (.c (.int .i64 1))),om 2 6 27])) .skip))) (.region [om 0 12 7,oa 1 13 (.bin .add (.t 12) (.c (.int .i64 1))),om 2 7 13])))))) (.seq [4] (.region [om 0 28 5,om 1 29 0,om 2 30 6,oa 3 31 (.substr (.t 29) (some (.t 30)) none),⟨4,some 32,.a false (.litSlice 1 1 [(.str [])] [(0,1,(.t 31))]) (some (.one (.str))),none,[]⟩,oa 5 33 (.app 1 (.t 28) (.t 32)),om 6 4 33]) .ret)))))
def HC:Fn:=⟨⟨2,34,0,false,[.tmp 4],cY⟩,[.one .frz (.str),.one .frz (.int .u8)],.one (.one .own (.sl (.one (.str))))⟩
theorem cO:HC.A:=CE trivial
def F1:List UInt8×Int→List (List UInt8):=HC.V
def Po:List UInt8×Int→Prop:=HC.O
theorem cL:HC.B:=CO trivial (by kernel_rfl) (fun x=>by kernel_rfl)
def fI:DCode:=(.seq [0] (.region [oi 0 2 0]) (.seq [] (.seq [7,6,5,0] (.region [oc 0 5 IE K7 PJ [(.c (.str [97,32,98,32,99,32,100,32,101,32,102,32,103,32,104,32,105,32,106,32,107,32,108,32,109,32,110,32,111,32,112,32,113,32,114,32,115,32,116,32,117,32,118,32,119,32,120,32,121,32,122,32,49,32,50,32,51,32,52,32,53,32,54,32,55,32,56,32,57,32,48,32,101,110,116,101,114,32,101,115,99,32,98,97,99,107,32,116,97,98,32,115,112,97,99,101,32,109,105,110,117,115,32,101,113,117,97,108,32,108,101,102,116,32,114,105,103,104,116,32,117,112,32,100,111,119,110,32,102,49,32,102,50,32,102,51,32,102,52,32,102,53,32,102,54,32,102,55,32,102,56,32,102,57])),(.c (.str [32]))],oa 1 6 (.len (.t 5)),oi 2 7 0]) (.block 0 (.loop [0,5,6,7] 1 (.seq [8,7,6,5,0] (.region [oa 0 8 (.bin .lss (.t 7) (.t 6))]) (.seq [7,6,5,0] (.cond (.t 8) .skip (.exit 0)) (.seq [7,6,5,0] (.block 1 (.seq [7,6,5,4,3,0] (.region [om 0 9 7,oa 1 10 (.indexA 1 (.t 5) (.t 7)),oa 2 11 (.loadH none (.t 10)),om 3 3 9,om 4 4 11]) (.seq [14,7,6,5,3,0] (.region [om 0 12 4,om 1 13 0,oa 2 14 (.bin .eql (.t 12) (.t 13))]) (.cond (.t 14) (.seq [2] (.region [om 0 15 3,oa 1 16 (.bin .add (.t 15) (.c (.int .i64 1))),om 2 2 16]) .ret) .skip)))) (.region [oa 0 17 (.bin .add (.t 7) (.c (.int .i64 1))),om 1 7 17]))))))) (.seq [2] (.region [oi 0 2 0]) .ret)))
def HN:Fn:=⟨⟨1,18,0,true,[.tmp 2],fI⟩,[.one .frz (.str)],.one (.one .own (.int .i64))⟩
theorem fq:HN.A:=CE ⟨Wz,trivial⟩
def Le:List UInt8→Int:=HN.V
def PW:List UInt8→Prop:=HN.O
theorem fp:HN.B:=CO ⟨Wr,trivial⟩ (by kernel_rfl) (fun x=>by kernel_rfl)
def bP:DCode:=(.seq [2,0] (.region [oa 0 2 (.allocB 0 [(.int .i64 0),.nils]),oa 1 3 (.mv (.c (.bool false)))]) (.seq [6,5,4,2,0] (.region [om 0 11 0,oF 1 12 HL [(.t 11),(.c (.str [58]))],om 2 10 12,oa 3 13 (.extract (.t 10) 0),oa 4 14 (.extract (.t 10) 1),oa 5 15 (.extract (.t 10) 2),om 6 4 13,om 7 5 14,om 8 6 15]) (.seq [5,4,2,0] (.seq [17,5,4,2,0] (.region [om 0 16 6,oa 1 17 (.un .not (.t 16))]) (.cond (.t 17) (.seq [3,2] (.region [oa 0 18 (.build [(.int .i64 0),.nils] []),os 1 (.storeB 0 2 (.t 2) (.t 18)),oa 2 3 (.mv (.c (.bool false)))]) .ret) .skip)) (.seq [7,5,2,0] (.region [om 0 19 4,oF 1 20 HD [(.t 19)],oa 2 21 (.build [(.int .i64 0),.nils] [(0,1,(.t 20))]),oa 3 7 (.allocB 1 [(.int .i64 0),.nils]),os 4 (.storeB 1 2 (.t 7) (.t 21))]) (.seq [7,2,0] (.seq [23,7,5,2,0] (.region [om 0 22 5,oa 1 23 (.bin .neq (.t 22) (.c (.str [])))]) (.cond (.t 23) (.seq [27,26,25,7,2,0] (.region [om 0 24 5,oF 1 25 HC [(.t 24),(.c (.int .u8 44))],oa 2 26 (.len (.t 25)),oi 3 27 0]) (.block 0 (.loop [0,2,7,25,26,27] 1 (.seq [28,27,26,25,7,2,0] (.region [oa 0 28 (.bin .lss (.t 27) (.t 26))]) (.seq [27,26,25,7,2,0] (.cond (.t 28) .skip (.exit 0)) (.seq [27,26,25,7,2,0] (.block 1 (.seq [27,26,25,9,7,2,0] (.region [oa 0 29 (.indexA 1 (.t 25) (.t 27)),oa 1 30 (.loadH none (.t 29)),om 2 9 30]) (.region [oa 0 31 (.fieldA 1 (.t 7)),xB 1 32 (.loadB 1 none (.t 31)) (rg 1),om 2 33 9,xF 3 34 HN [(.t 33)] [2],⟨4,some 35,.a false (.litSlice 1 1 [(.int .i64 0)] [(0,1,(.t 34))]) (some (.one (.int .i64))),none,[2,3]⟩,xA 5 36 (.app 1 (.t 32) (.t 35)) (rg 5),xA 6 37 (.fieldA 1 (.t 7)) (rg 6),xS 7 (.storeB 1 1 (.t 37) (.t 36)) (rg 7)]))) (.region [oa 0 38 (.bin .add (.t 27) (.c (.int .i64 1))),om 1 27 38]))))))) .skip)) (.seq [7,2] (.seq [47,7,2] (.region [oa 0 39 (.loadB 1 (some 2) (.t 7)),oF 1 40 CP [(.t 39)],oa 2 41 (.un .not (.t 40)),om 3 42 41,og 4 43 (.loadB 1 (some 2) (.t 7)) 42 false,⟨5,some 44,.call false ER.S ER.P ER.D [(.t 43)],(some (42,false)),[]⟩,og 6 45 (.mv (.t 0)) 42 false,og 7 46 (.bin .neq (.t 44) (.t 45)) 42 false,oa 8 47 (.pick (.t 42) (.c (.bool true)) (.t 46))]) (.cond (.t 47) (.seq [3,2] (.region [oa 0 48 (.build [(.int .i64 0),.nils] []),os 1 (.storeB 0 2 (.t 2) (.t 48)),oa 2 3 (.mv (.c (.bool false)))]) .ret) .skip)) (.seq [3,2] (.region [ob 0 49 (.loadB 1 (some 2) (.t 7)),os 1 (.storeB 0 2 (.t 2) (.t 49)),oa 2 3 (.mv (.c (.bool true)))]) .ret)))))))
def HA:Fn:=⟨⟨1,50,2,false,[.cell 2 (some 2),.tmp 3],bP⟩,[.one .frz (.str)],.tup [.agg [(.own,.int .i64),(.own,.sl (.one (.int .i64)))],.one .own (.bool)]⟩
theorem bQ:HA.A:=CE ⟨fJ,ct,cO,fq,KX,Wa,trivial⟩
def Ey:List UInt8→(Int×List (Int))×Bool:=HA.V
def O3:List UInt8→Prop:=HA.O
theorem bX:HA.B:=CO ⟨fE,cE,cL,fp,KW,Wb,trivial⟩ (by kernel_rfl) (fun x=>by kernel_rfl)
end
section
set_option maxRecDepth 100000
def FY(x:List UInt8)(x0:Int):Bool:=(bAnd (iLe x0 15) (bNot (sEq (CZ x0) x)))
def Hv(x0:Int):Int:=(iAdd .i64 x0 1)
def bU(x0:Int):Prop:=(((iLe x0 15)=true→(KM x0))∧((iLe x0 15)=false→True))
theorem Wo (x):Da x=(bSel (iLe (Ap (FY x) Hv 1) 15) (Ap (FY x) Hv 1) 0):=(MJ.v x).trans (by kernel_rfl)
theorem cT (x):Pj x=(LoopOk (FY x) Hv bU 1):=(MJ.o x).trans (by kernel_rfl)
def HB(x:List UInt8)(x0:Int):Bool:=(bAnd (iLe x0 56) (bNot (sEq (Bv x0) x)))
def JG(x0:Int):Int:=(iAdd .i64 x0 1)
def JF(x0:Int):Prop:=(((iLe x0 56)=true→(MF x0))∧((iLe x0 56)=false→True))
theorem WL (x):Eg x=(bSel (iLe (Ap (HB x) JG 1) 56) (Ap (HB x) JG 1) 0):=(MW.v x).trans (by kernel_rfl)
theorem fO (x):PU x=(LoopOk (HB x) JG JF 1):=(MW.o x).trans (by kernel_rfl)
def Iu(x:List UInt8)(x0:(Int×(List Int))):Bool:=(iLt x0.1 (lLen (Bp ((lGet (Bp (x,58)) (iNat 1) []),44))))
def Iv(x:List UInt8)(x0:(Int×(List Int))):(Int×(List Int)):=((iAdd .i64 x0.1 1),(lApp x0.2 [(Eg (lGet (Bp ((lGet (Bp (x,58)) (iNat 1) []),44)) (iNat x0.1) []))]))
def Sr(x:List UInt8)(x0:(Int×(List Int))):Prop:=(((iLt x0.1 (lLen (Bp ((lGet (Bp (x,58)) (iNat 1) []),44))))=true→((((0:Int)≤x0.1)∧(x0.1<(((List.length (Bp ((lGet (Bp (x,58)) (iNat 1) []),44))):Int))))∧(((iNat x0.1)<(List.length (Bp ((lGet (Bp (x,58)) (iNat 1) []),44))))∧((PU (lGet (Bp ((lGet (Bp (x,58)) (iNat 1) []),44)) (iNat x0.1) []))∧(Aw (((List.length x0.2)+(List.length [(Eg (lGet (Bp ((lGet (Bp (x,58)) (iNat 1) []),44)) (iNat x0.1) []))]))*1))))))∧((iLt x0.1 (lLen (Bp ((lGet (Bp (x,58)) (iNat 1) []),44))))=false→True))
theorem Wd (x):MC x=(bSel (iNe (lLen (Bp (x,58))) 2) ((0,[]),false) (bSel (sNe (Dz ((Da (lGet (Bp (x,58)) (iNat 0) [])),(bSel (sNe (lGet (Bp (x,58)) (iNat 1) []) []) (Ap (Iu x) (Iv x) (0,[])).2 []))) x) ((0,[]),false) (((Da (lGet (Bp (x,58)) (iNat 0) [])),(bSel (sNe (lGet (Bp (x,58)) (iNat 1) []) []) (Ap (Iu x) (Iv x) (0,[])).2 [])),true))):=(Pa.v x).trans (by kernel_rfl)
theorem bV (x):Su x=((KR (x,58))∧(((iNe (lLen (Bp (x,58))) 2)=true→True)∧((iNe (lLen (Bp (x,58))) 2)=false→((((0:Int)≤0)∧((0:Int)<(((List.length (Bp (x,58))):Int))))∧(((iNat 0)<(List.length (Bp (x,58))))∧((Pj (lGet (Bp (x,58)) (iNat 0) []))∧(((((0:Int)≤1)∧((1:Int)<(((List.length (Bp (x,58))):Int))))∧(((iNat 1)<(List.length (Bp (x,58))))∧(((sNe (lGet (Bp (x,58)) (iNat 1) []) [])=true→((((0:Int)≤1)∧((1:Int)<(((List.length (Bp (x,58))):Int))))∧(((iNat 1)<(List.length (Bp (x,58))))∧((KR ((lGet (Bp (x,58)) (iNat 1) []),44))∧(LoopOk (Iu x) (Iv x) (Sr x) (0,[]))))))∧((sNe (lGet (Bp (x,58)) (iNat 1) []) [])=false→True))))∧(Mv ((Da (lGet (Bp (x,58)) (iNat 0) [])),(bSel (sNe (lGet (Bp (x,58)) (iNat 1) []) []) (Ap (Iu x) (Iv x) (0,[])).2 [])))))))))):=(Pa.o x).trans (by kernel_rfl)
theorem V9 (x):Sq x=(bSel (iGe (Dx x) 0) ((lSub x.1 0 (iNat (Dx x))),(lSub x.1 (iNat (iAdd .i64 (Dx x) (lLen x.2))) (lN x.1)),true) (x.1,[],false)):=(Ht.v x).trans (by kernel_rfl)
theorem V8 (x):Sp x=((It x)∧(((iGe (Dx x) 0)=true→((((0:Int)≤(Dx x))∧((0≤(iNat (Dx x)))∧((iNat (Dx x))≤(List.length x.1))))∧(((0:Int)≤(iAdd .i64 (Dx x) (lLen x.2)))∧(((iNat (iAdd .i64 (Dx x) (lLen x.2)))≤(lN x.1))∧((lN x.1)≤(List.length x.1))))))∧((iGe (Dx x) 0)=false→True))):=(Ht.o x).trans (by kernel_rfl)
theorem WS (x):BJ x=(Sq x):=(HL.v x).trans (by kernel_rfl)
theorem WJ (x):K8 x=(Sp x):=(HL.o x).trans (by kernel_rfl)
def Mw(x:List UInt8)(x0:Int):Bool:=(bAnd (iLe x0 15) (bNot (sEq (Iz x0) x)))
def O5(x0:Int):Int:=(iAdd .i64 x0 1)
def bS(x0:Int):Prop:=(((iLe x0 15)=true→(KO x0))∧((iLe x0 15)=false→True))
theorem cI (x):GO x=(bSel (iLe (Ap (Mw x) O5 1) 15) (Ap (Mw x) O5 1) 0):=(HD.v x).trans (by kernel_rfl)
theorem cC (x):Pk x=(LoopOk (Mw x) O5 bS 1):=(HD.o x).trans (by kernel_rfl)
def GL(x:List UInt8×Int)(x0:((List (List UInt8))×(Int×Int))):Bool:=(iLt x0.2.2 (lLen x.1))
def Hx(x:List UInt8×Int)(x0:((List (List UInt8))×(Int×Int))):((List (List UInt8))×(Int×Int)):=((bSel (iEq (sGet x.1 x0.2.2) x.2) (lApp x0.1 [(lSub x.1 (iNat x0.2.1) (iNat x0.2.2))]) x0.1),(bSel (iEq (sGet x.1 x0.2.2) x.2) (iAdd .i64 x0.2.2 1) x0.2.1),(iAdd .i64 x0.2.2 1))
def Sw(x:List UInt8×Int)(x0:((List (List UInt8))×(Int×Int))):Prop:=(((iLt x0.2.2 (lLen x.1))=true→((((0:Int)≤x0.2.2)∧(x0.2.2<(((List.length x.1):Int))))∧(((iEq (sGet x.1 x0.2.2) x.2)=true→(((((0:Int)≤x0.2.1)∧((0:Int)≤x0.2.2))∧(((iNat x0.2.1)≤(iNat x0.2.2))∧((iNat x0.2.2)≤(List.length x.1))))∧(Aw (((List.length x0.1)+(List.length [(lSub x.1 (iNat x0.2.1) (iNat x0.2.2))]))*1))))∧((iEq (sGet x.1 x0.2.2) x.2)=false→True))))∧((iLt x0.2.2 (lLen x.1))=false→True))
theorem cJ (x):F1 x=(lApp (Ap (GL x) (Hx x) ([],0,0)).1 [(lSub x.1 (iNat (Ap (GL x) (Hx x) ([],0,0)).2.1) (lN x.1))]):=(HC.v x).trans (by kernel_rfl)
theorem cK (x):Po x=((LoopOk (GL x) (Hx x) (Sw x) ([],0,0))∧((((0:Int)≤(Ap (GL x) (Hx x) ([],0,0)).2.1)∧(((iNat (Ap (GL x) (Hx x) ([],0,0)).2.1)≤(lN x.1))∧((lN x.1)≤(List.length x.1))))∧(Aw (((List.length (Ap (GL x) (Hx x) ([],0,0)).1)+(List.length [(lSub x.1 (iNat (Ap (GL x) (Hx x) ([],0,0)).2.1) (lN x.1))]))*1)))):=(HC.o x).trans (by kernel_rfl)
def KV(x:List UInt8)(x0:Int):Bool:=(bAnd (iLt x0 (lLen (Ef ([(97:UInt8),32,98,32,99,32,100,32,101,32,102,32,103,32,104,32,105,32,106,32,107,32,108,32,109,32,110,32,111,32,112,32,113,32,114,32,115,32,116,32,117,32,118,32,119,32,120,32,121,32,122,32,49,32,50,32,51,32,52,32,53,32,54,32,55,32,56,32,57,32,48,32,101,110,116,101,114,32,101,115,99,32,98,97,99,107,32,116,97,98,32,115,112,97,99,101,32,109,105,110,117,115,32,101,113,117,97,108,32,108,101,102,116,32,114,105,103,104,116,32,117,112,32,100,111,119,110,32,102,49,32,102,50,32,102,51,32,102,52,32,102,53,32,102,54,32,102,55,32,102,56,32,102,57],[(32:UInt8)])))) (bNot (sEq (lGet (Ef ([(97:UInt8),32,98,32,99,32,100,32,101,32,102,32,103,32,104,32,105,32,106,32,107,32,108,32,109,32,110,32,111,32,112,32,113,32,114,32,115,32,116,32,117,32,118,32,119,32,120,32,121,32,122,32,49,32,50,32,51,32,52,32,53,32,54,32,55,32,56,32,57,32,48,32,101,110,116,101,114,32,101,115,99,32,98,97,99,107,32,116,97,98,32,115,112,97,99,101,32,109,105,110,117,115,32,101,113,117,97,108,32,108,101,102,116,32,114,105,103,104,116,32,117,112,32,100,111,119,110,32,102,49,32,102,50,32,102,51,32,102,52,32,102,53,32,102,54,32,102,55,32,102,56,32,102,57],[(32:UInt8)])) (iNat x0) []) x)))
def MG(x0:Int):Int:=(iAdd .i64 x0 1)
def Pz(x0:Int):Prop:=(((iLt x0 (lLen (Ef ([(97:UInt8),32,98,32,99,32,100,32,101,32,102,32,103,32,104,32,105,32,106,32,107,32,108,32,109,32,110,32,111,32,112,32,113,32,114,32,115,32,116,32,117,32,118,32,119,32,120,32,121,32,122,32,49,32,50,32,51,32,52,32,53,32,54,32,55,32,56,32,57,32,48,32,101,110,116,101,114,32,101,115,99,32,98,97,99,107,32,116,97,98,32,115,112,97,99,101,32,109,105,110,117,115,32,101,113,117,97,108,32,108,101,102,116,32,114,105,103,104,116,32,117,112,32,100,111,119,110,32,102,49,32,102,50,32,102,51,32,102,52,32,102,53,32,102,54,32,102,55,32,102,56,32,102,57],[(32:UInt8)]))))=true→((((0:Int)≤x0)∧(x0<(((List.length (Ef ([(97:UInt8),32,98,32,99,32,100,32,101,32,102,32,103,32,104,32,105,32,106,32,107,32,108,32,109,32,110,32,111,32,112,32,113,32,114,32,115,32,116,32,117,32,118,32,119,32,120,32,121,32,122,32,49,32,50,32,51,32,52,32,53,32,54,32,55,32,56,32,57,32,48,32,101,110,116,101,114,32,101,115,99,32,98,97,99,107,32,116,97,98,32,115,112,97,99,101,32,109,105,110,117,115,32,101,113,117,97,108,32,108,101,102,116,32,114,105,103,104,116,32,117,112,32,100,111,119,110,32,102,49,32,102,50,32,102,51,32,102,52,32,102,53,32,102,54,32,102,55,32,102,56,32,102,57],[(32:UInt8)]))):Int))))∧((iNat x0)<(List.length (Ef ([(97:UInt8),32,98,32,99,32,100,32,101,32,102,32,103,32,104,32,105,32,106,32,107,32,108,32,109,32,110,32,111,32,112,32,113,32,114,32,115,32,116,32,117,32,118,32,119,32,120,32,121,32,122,32,49,32,50,32,51,32,52,32,53,32,54,32,55,32,56,32,57,32,48,32,101,110,116,101,114,32,101,115,99,32,98,97,99,107,32,116,97,98,32,115,112,97,99,101,32,109,105,110,117,115,32,101,113,117,97,108,32,108,101,102,116,32,114,105,103,104,116,32,117,112,32,100,111,119,110,32,102,49,32,102,50,32,102,51,32,102,52,32,102,53,32,102,54,32,102,55,32,102,56,32,102,57],[(32:UInt8)]))))))∧((iLt x0 (lLen (Ef ([(97:UInt8),32,98,32,99,32,100,32,101,32,102,32,103,32,104,32,105,32,106,32,107,32,108,32,109,32,110,32,111,32,112,32,113,32,114,32,115,32,116,32,117,32,118,32,119,32,120,32,121,32,122,32,49,32,50,32,51,32,52,32,53,32,54,32,55,32,56,32,57,32,48,32,101,110,116,101,114,32,101,115,99,32,98,97,99,107,32,116,97,98,32,115,112,97,99,101,32,109,105,110,117,115,32,101,113,117,97,108,32,108,101,102,116,32,114,105,103,104,116,32,117,112,32,100,111,119,110,32,102,49,32,102,50,32,102,51,32,102,52,32,102,53,32,102,54,32,102,55,32,102,56,32,102,57],[(32:UInt8)]))))=false→True))
theorem fo (x):Le x=(bSel (iLt (Ap (KV x) MG 0) (lLen (Ef ([(97:UInt8),32,98,32,99,32,100,32,101,32,102,32,103,32,104,32,105,32,106,32,107,32,108,32,109,32,110,32,111,32,112,32,113,32,114,32,115,32,116,32,117,32,118,32,119,32,120,32,121,32,122,32,49,32,50,32,51,32,52,32,53,32,54,32,55,32,56,32,57,32,48,32,101,110,116,101,114,32,101,115,99,32,98,97,99,107,32,116,97,98,32,115,112,97,99,101,32,109,105,110,117,115,32,101,113,117,97,108,32,108,101,102,116,32,114,105,103,104,116,32,117,112,32,100,111,119,110,32,102,49,32,102,50,32,102,51,32,102,52,32,102,53,32,102,54,32,102,55,32,102,56,32,102,57],[(32:UInt8)])))) (iAdd .i64 (Ap (KV x) MG 0) 1) 0):=(HN.v x).trans (by kernel_rfl)
theorem fA (x):PW x=((ID ([(97:UInt8),32,98,32,99,32,100,32,101,32,102,32,103,32,104,32,105,32,106,32,107,32,108,32,109,32,110,32,111,32,112,32,113,32,114,32,115,32,116,32,117,32,118,32,119,32,120,32,121,32,122,32,49,32,50,32,51,32,52,32,53,32,54,32,55,32,56,32,57,32,48,32,101,110,116,101,114,32,101,115,99,32,98,97,99,107,32,116,97,98,32,115,112,97,99,101,32,109,105,110,117,115,32,101,113,117,97,108,32,108,101,102,116,32,114,105,103,104,116,32,117,112,32,100,111,119,110,32,102,49,32,102,50,32,102,51,32,102,52,32,102,53,32,102,54,32,102,55,32,102,56,32,102,57],[(32:UInt8)]))∧(LoopOk (KV x) MG Pz 0)):=(HN.o x).trans (by kernel_rfl)
def GJ(x:List UInt8)(x0:(Int×(List Int))):Bool:=(iLt x0.1 (lLen (F1 ((BJ (x,[(58:UInt8)])).2.1,44))))
def GK(x:List UInt8)(x0:(Int×(List Int))):(Int×(List Int)):=((iAdd .i64 x0.1 1),(lApp x0.2 [(Le (lGet (F1 ((BJ (x,[(58:UInt8)])).2.1,44)) (iNat x0.1) []))]))
def Ss(x:List UInt8)(x0:(Int×(List Int))):Prop:=(((iLt x0.1 (lLen (F1 ((BJ (x,[(58:UInt8)])).2.1,44))))=true→((((0:Int)≤x0.1)∧(x0.1<(((List.length (F1 ((BJ (x,[(58:UInt8)])).2.1,44))):Int))))∧(((iNat x0.1)<(List.length (F1 ((BJ (x,[(58:UInt8)])).2.1,44))))∧((PW (lGet (F1 ((BJ (x,[(58:UInt8)])).2.1,44)) (iNat x0.1) []))∧(Aw (((List.length x0.2)+(List.length [(Le (lGet (F1 ((BJ (x,[(58:UInt8)])).2.1,44)) (iNat x0.1) []))]))*1))))))∧((iLt x0.1 (lLen (F1 ((BJ (x,[(58:UInt8)])).2.1,44))))=false→True))
theorem bR (x):Ey x=(bSel (bNot (BJ (x,[(58:UInt8)])).2.2) ((0,[]),false) (bSel (bOr (bNot (Cz ((GO (BJ (x,[(58:UInt8)])).1),(bSel (sNe (BJ (x,[(58:UInt8)])).2.1 []) (Ap (GJ x) (GK x) (0,[])).2 [])))) (sNe (Dy ((GO (BJ (x,[(58:UInt8)])).1),(bSel (sNe (BJ (x,[(58:UInt8)])).2.1 []) (Ap (GJ x) (GK x) (0,[])).2 []))) x)) ((0,[]),false) (((GO (BJ (x,[(58:UInt8)])).1),(bSel (sNe (BJ (x,[(58:UInt8)])).2.1 []) (Ap (GJ x) (GK x) (0,[])).2 [])),true))):=(HA.v x).trans (by kernel_rfl)
theorem bT (x):O3 x=((K8 (x,[(58:UInt8)]))∧(((bNot (BJ (x,[(58:UInt8)])).2.2)=true→True)∧((bNot (BJ (x,[(58:UInt8)])).2.2)=false→((Pk (BJ (x,[(58:UInt8)])).1)∧((((sNe (BJ (x,[(58:UInt8)])).2.1 [])=true→((Po ((BJ (x,[(58:UInt8)])).2.1,44))∧(LoopOk (GJ x) (GK x) (Ss x) (0,[]))))∧((sNe (BJ (x,[(58:UInt8)])).2.1 [])=false→True))∧((GN ((GO (BJ (x,[(58:UInt8)])).1),(bSel (sNe (BJ (x,[(58:UInt8)])).2.1 []) (Ap (GJ x) (GK x) (0,[])).2 [])))∧(((bNot (Cz ((GO (BJ (x,[(58:UInt8)])).1),(bSel (sNe (BJ (x,[(58:UInt8)])).2.1 []) (Ap (GJ x) (GK x) (0,[])).2 []))))=true→True)∧((bNot (Cz ((GO (BJ (x,[(58:UInt8)])).1),(bSel (sNe (BJ (x,[(58:UInt8)])).2.1 []) (Ap (GJ x) (GK x) (0,[])).2 []))))=false→(KJ ((GO (BJ (x,[(58:UInt8)])).1),(bSel (sNe (BJ (x,[(58:UInt8)])).2.1 []) (Ap (GJ x) (GK x) (0,[])).2 []))))))))))):=(HA.o x).trans (by kernel_rfl)
attribute [irreducible] Da Pj Eg PU MC Su Sq Sp BJ K8 GO Pk F1 Po Le PW Ey O3
end
section
set_option maxRecDepth 8000
def fH:DCode:=(.seq [1,0] (.region [oa 0 4 (.mv (.c .undef))]) (.seq [5,1] (.region [on 0 6 0,op 1 7 Li M4 Xa [(.t 6)],om 2 5 7]) (.seq [5] (.region [om 0 8 5,om 1 9 5,oa 2 10 (.nilck (.t 9)),oa 3 11 (.fieldA 2 (.t 10)),oa 4 12 (.loadH none (.t 11)),om 5 13 1,oa 6 14 (.bin .mul (.c (.int .i64 7919)) (.t 13)),oa 7 15 (.bin .add (.t 12) (.t 14)),oa 8 16 (.nilck (.t 8)),oa 9 17 (.fieldA 2 (.t 16)),os 10 (.storeH 1 (.t 17) (.t 15))]) (.seq [4] (.region [om 0 18 5,om 1 4 18]) .ret))))
def IH:DFun:=⟨2,19,0,false,[.tmp 4],fH⟩
@[irreducible] def Lc:A8:=FO IH.er.er
@[irreducible] def MY:B5:=DA IH.er
theorem fw:Eo Lc MY:=by unfold Lc MY;exact IQ (f:=IH.er) ⟨gd,trivial⟩
def P5:List HT:=[.one .frz (.sl (.one (.int .u8))),.one .frz (.int .i64)]
def P0:List (Ql×CT):=[(.frz,.sl (.one (.int .u8))),(.own,.int .i64),(.own,.int .i64)]
@[irreducible] def IJ(x:List (Int)×Int):List (Int)×Int×Int:=(shut fun x=>OS IH P5 P0 x).1 x
@[irreducible] def Lb(x:List (Int)×Int):Prop:=(shut fun x=>OA IH P5 P0 x).1 x
def WV:Er:=Q1 P5 P0 Lb IJ
theorem fy:G0 MY WV:=by unfold MY;exact XE (f:=IH) (hs:=P5) (cs:=P0) ⟨gf,trivial⟩ (by kernel_rfl) (fun x=>by kernel_rfl) (fun x h=>by unfold Lb at h;exact Eq.mp (congrFun (shut _).2 x) h) (fun x=>by unfold IJ;exact(congrFun (shut _).2 x).symm)
def dc:DCode:=(.seq [2,0] (.region [oa 0 2 (.allocB 0 [(.int .i64 0),.nils])]) (.seq [3,2,0] (.region [om 0 6 0,⟨1,some 7,.a false (.litSlice 1 5 [(.int .i64 0),(.int .i64 0),(.int .i64 0),(.int .i64 0),(.int .i64 0)] [(0,1,(.c (.int .i64 0))),(1,1,(.c (.int .i64 0))),(2,1,(.c (.int .i64 2))),(3,1,(.c (.int .i64 1))),(4,1,(.c (.int .i64 15)))]) (some (.one (.int .i64))),none,[]⟩,⟨2,some 8,.callp true KU MK Wq [(.t 6),(.t 7)],none,[]⟩,⟨3,some 9,.a false (.litSlice 1 0 [] []) (some (.one (.int .i64))),none,[]⟩,oa 4 10 (.build [(.int .i64 0),.nils] [(0,1,(.t 8)),(1,1,(.t 9))]),oa 5 3 (.allocB 1 [(.int .i64 0),.nils]),os 6 (.storeB 1 2 (.t 3) (.t 10))]) (.seq [4,3,2,0] (.region [oi 0 4 0]) (.seq [3,2] (.seq [5,4,3,2,0] (.region [om 0 11 0,op 1 12 GQ JI PZ [(.t 11),(.c (.int .i64 9))],om 2 5 12]) (.block 0 (.loop [0,2,3,4,5] 1 (.seq [5,4,3,2,0] (.seq [18,5,4,3,2,0] (.region [om 0 13 5,oa 1 14 (.bin .gtr (.t 13) (.c (.int .i64 0))),om 2 15 14,og 3 16 (.mv (.t 4)) 15 true,og 4 17 (.bin .lss (.t 16) (.c (.int .i64 56))) 15 true,oa 5 18 (.pick (.t 15) (.t 17) (.c (.bool false)))]) (.cond (.t 18) .skip (.exit 0))) (.seq [5,4,3,2,0] (.block 1 (.seq [5,4,3,2,0] (.region [om 0 21 4,oa 1 22 (.bin .add (.t 21) (.c (.int .i64 1))),om 2 23 0,op 3 24 GQ JI PZ [(.t 23),(.c (.int .i64 7))],oa 4 25 (.bin .add (.t 22) (.t 24)),om 5 4 25]) (.seq [27,5,4,3,2,0] (.region [om 0 26 4,oa 1 27 (.bin .leq (.t 26) (.c (.int .i64 56)))]) (.cond (.t 27) (.region [oa 0 28 (.fieldA 1 (.t 3)),ob 1 29 (.loadB 1 none (.t 28)),om 2 30 4,⟨3,some 31,.a false (.litSlice 1 1 [(.int .i64 0)] [(0,1,(.t 30))]) (some (.one (.int .i64))),none,[]⟩,oa 4 32 (.app 1 (.t 29) (.t 31)),oa 5 33 (.fieldA 1 (.t 3)),os 6 (.storeB 1 1 (.t 33) (.t 32))]) .skip)))) (.region [om 0 19 5,oa 1 20 (.bin .sub (.t 19) (.c (.int .i64 1))),om 2 5 20])))))) (.seq [2] (.region [ob 0 34 (.loadB 1 (some 2) (.t 3)),os 1 (.storeB 0 2 (.t 2) (.t 34))]) .ret)))))
def IB:DFun:=⟨1,35,2,false,[.cell 2 (some 2)],dc⟩
@[irreducible] def KY:A8:=FO IB.er.er
@[irreducible] def MN:B5:=DA IB.er
theorem dJ:Eo KY MN:=by unfold KY MN;exact IQ (f:=IB.er) ⟨cW,SO,SO,trivial⟩
def PK:List HT:=[]
def PE:List (Ql×CT):=[(.frz,.sl (.one (.int .u8))),(.own,.int .i64),(.own,.int .i64)]
def PF:QT:=.one (.agg [(.own,.int .i64),(.own,.sl (.one (.int .i64)))])
@[irreducible] def ML(x:List (Int)×Int×Int):(Int×List (Int))×(Int×Int):=(shut fun x=>Kz IB PK PE PF x).1 x
@[irreducible] def MH(x:List (Int)×Int×Int):Prop:=(shut fun x=>Ko IB PK PE PF x).1 x
def WC:Er:=LP PK PE PF MH ML
theorem dM:G0 MN WC:=by unfold MN;exact Qi (f:=IB) (hs:=PK) (cs:=PE) (q:=PF) ⟨cA,SN,SN,trivial⟩ (by kernel_rfl) (fun x=>by kernel_rfl) (fun x h=>by unfold MH at h;exact Eq.mp (congrFun (shut _).2 x) h) (fun x=>by unfold ML;exact(congrFun (shut _).2 x).symm)
def b7:DCode:=(.seq [4,1,0] (.region [oa 0 4 (.allocB 0 [(.int .i64 0),.nils])]) (.seq [4] (.region [on 0 5 0,om 1 6 1,op 2 7 Lc MY WV [(.t 5),(.t 6)],op 3 8 KY MN WC [(.t 7)],os 4 (.storeB 0 2 (.t 4) (.t 8))]) .ret))
def FZ:Fn:=⟨⟨2,9,1,false,[.cell 4 (some 2)],b7⟩,[.one .frz (.sl (.one (.int .u8))),.one .frz (.int .i64)],.one (.agg [(.own,.int .i64),(.own,.sl (.one (.int .i64)))])⟩
theorem Wg:FZ.A:=CE ⟨fw,dJ,trivial⟩
def Ax:List (Int)×Int→Int×List (Int):=FZ.V
def MD:List (Int)×Int→Prop:=FZ.O
theorem Wi:FZ.B:=CO ⟨fy,dM,trivial⟩ (by kernel_rfl) (fun x=>by kernel_rfl)
def cz:DCode:=(.seq [0] (.region [oa 0 2 (.mv (.c (.bool false)))]) (.seq [0] (.seq [12,0] (.region [on 0 11 0,oF 1 12 HU [(.t 11)]]) (.cond (.t 12) (.seq [2] (.region [oa 0 2 (.mv (.c (.bool true)))]) .ret) .skip)) (.seq [3,0] (.region [on 0 13 0,oF 1 14 FZ [(.t 13),(.c (.int .i64 12))],oa 2 3 (.allocB 0 [(.int .i64 0),.nils]),os 3 (.storeB 0 2 (.t 3) (.t 14))]) (.seq [4,3] (.region [on 0 15 0,oF 1 16 FZ [(.t 15),(.c (.int .i64 13))],oa 2 4 (.allocB 1 [(.int .i64 0),.nils]),os 3 (.storeB 1 2 (.t 4) (.t 16))]) (.seq [6,5,4,3] (.region [oa 0 18 (.loadB 0 (some 2) (.t 3)),oF 1 19 ER [(.t 18)],oF 2 20 HA [(.t 19)],om 3 17 20,oa 4 21 (.extract (.t 17) 0),oa 5 22 (.extract (.t 17) 1),oa 6 5 (.allocB 2 [(.int .i64 0),.nils]),os 7 (.storeB 2 2 (.t 5) (.t 21)),om 8 6 22]) (.seq [8,7,6,5,4,3] (.region [oa 0 24 (.loadB 0 (some 2) (.t 3)),oF 1 25 HG [(.t 24)],oF 2 26 HJ [(.t 25)],om 3 23 26,oa 4 27 (.extract (.t 23) 0),oa 5 28 (.extract (.t 23) 1),oa 6 7 (.allocB 3 [(.int .i64 0),.nils]),os 7 (.storeB 3 2 (.t 7) (.t 27)),om 8 8 28]) (.seq [10,9,8,7,6,5,4,3] (.region [oa 7 9 (.allocH [(.int .i64 0),.nils]),oa 0 30 (.loadB 0 (some 2) (.t 3)),oa 2 32 (.loadB 1 (some 2) (.t 4)),xF 1 31 EW [(.t 30)] (rg 1),xF 3 33 HF [(.t 31),(.t 32)] (rg 3),xA 4 29 (.mv (.t 33)) (rg 4),xA 5 34 (.extract (.t 29) 0) (rg 5),xA 6 35 (.extract (.t 29) 1) [0,1,2,3,4],xS 8 (.storeH 2 (.t 9) (.t 34)) [0,1,2,3,4,5,7],xA 9 10 (.mv (.t 35)) (rg 9)]) (.seq [9,4,3] (.seq [57,9,4,3] (.region [om 0 36 6,oa 1 37 (.un .not (.t 36)),om 2 38 37,og 3 39 (.mv (.t 8)) 38 false,og 4 40 (.un .not (.t 39)) 38 false,oa 5 41 (.pick (.t 38) (.c (.bool true)) (.t 40)),om 6 42 41,og 7 43 (.mv (.t 10)) 42 false,og 8 44 (.un .not (.t 43)) 42 false,oa 9 45 (.pick (.t 42) (.c (.bool true)) (.t 44)),om 10 46 45,og 11 47 (.loadB 2 (some 2) (.t 5)) 46 false,og 12 48 (.loadB 0 (some 2) (.t 3)) 46 false,⟨13,some 49,.call false C9.S C9.P C9.D [(.t 47),(.t 48)],(some (46,false)),[]⟩,og 14 50 (.un .not (.t 49)) 46 false,oa 15 51 (.pick (.t 46) (.c (.bool true)) (.t 50)),om 16 52 51,og 17 53 (.loadB 3 (some 2) (.t 7)) 52 false,og 18 54 (.loadB 0 (some 2) (.t 3)) 52 false,⟨19,some 55,.call false C9.S C9.P C9.D [(.t 53),(.t 54)],(some (52,false)),[]⟩,og 20 56 (.un .not (.t 55)) 52 false,oa 21 57 (.pick (.t 52) (.c (.bool true)) (.t 56))]) (.cond (.t 57) (.seq [2] (.region [oa 0 2 (.mv (.c (.bool false)))]) .ret) .skip)) (.seq [9,3] (.seq [61,9,4,3] (.region [oa 0 58 (.fieldA 1 (.t 3)),oa 1 59 (.loadB 0 none (.t 58)),oa 2 60 (.len (.t 59)),oa 3 61 (.bin .gtr (.t 60) (.c (.int .i64 6)))]) (.cond (.t 61) (.seq [2] (.region [oa 0 62 (.loadH (some 2) (.t 9)),oa 1 63 (.fieldA 0 (.t 3)),ob 2 64 (.loadB 0 none (.t 63)),oa 3 65 (.fieldA 1 (.t 4)),ob 4 66 (.loadB 1 none (.t 65)),oa 5 67 (.build [(.int .i64 0),.nils] [(0,1,(.t 64)),(1,1,(.t 66))]),oF 6 68 C9 [(.t 62),(.t 67)],om 7 2 68]) .ret) .skip)) (.seq [2] (.region [oa 0 69 (.loadH (some 2) (.t 9)),oa 1 70 (.loadB 0 (some 2) (.t 3)),oF 2 71 C9 [(.t 69),(.t 70)],om 3 2 71]) .ret))))))))))
def FA:Fn:=⟨⟨1,72,4,true,[.tmp 2],cz⟩,[.one .frz (.sl (.one (.int .u8)))],.one (.one .own (.bool))⟩
theorem cD:FA.A:=CE ⟨iN,Wg,Wg,Wa,bQ,dA,dO,Wp,du,O6,O6,O6,O6,trivial⟩
def Pv:List (Int)→Bool:=FA.V
def Pm:List (Int)→Prop:=FA.O
end
section
set_option maxRecDepth 100000
theorem fL (x):IJ x=((HQ x.1).1,(HQ x.1).2.1,(iAdd .i64 (HQ x.1).2.2 (iMul .i64 7919 x.2))):=by unfold IJ;exact(congrFun (shut _).2 x).trans (by kernel_rfl)
theorem fG (x):Lb x=(Lg x.1):=by unfold Lb;exact(congrFun (shut _).2 x).trans (by kernel_rfl)
def JC(x0:(Int×(Int×((List Int)×(Int×Int))))):Bool:=(bAnd (iGt x0.2.1 0) (iLt x0.1 56))
def JB(x:List (Int)×Int×Int)(x0:(Int×(Int×((List Int)×(Int×Int))))):(Int×(Int×((List Int)×(Int×Int)))):=((bSel (iLe (iAdd .i64 (iAdd .i64 x0.1 1) (Bw ((x.1,x0.2.2.2),7)).1) 56) (iAdd .i64 (iAdd .i64 x0.1 1) (Bw ((x.1,x0.2.2.2),7)).1) (iAdd .i64 (iAdd .i64 x0.1 1) (Bw ((x.1,x0.2.2.2),7)).1)),(iSub .i64 x0.2.1 1),(bSel (iLe (iAdd .i64 (iAdd .i64 x0.1 1) (Bw ((x.1,x0.2.2.2),7)).1) 56) (lApp x0.2.2.1 [(iAdd .i64 (iAdd .i64 x0.1 1) (Bw ((x.1,x0.2.2.2),7)).1)]) x0.2.2.1),(bSel (iLe (iAdd .i64 (iAdd .i64 x0.1 1) (Bw ((x.1,x0.2.2.2),7)).1) 56) (Bw ((x.1,x0.2.2.2),7)).2.1 (Bw ((x.1,x0.2.2.2),7)).2.1),(bSel (iLe (iAdd .i64 (iAdd .i64 x0.1 1) (Bw ((x.1,x0.2.2.2),7)).1) 56) (Bw ((x.1,x0.2.2.2),7)).2.2 (Bw ((x.1,x0.2.2.2),7)).2.2))
def Pc(x:List (Int)×Int×Int)(x0:(Int×(Int×((List Int)×(Int×Int))))):Prop:=(((bAnd (iGt x0.2.1 0) (iLt x0.1 56))=true→((IG ((x.1,x0.2.2.2),7))∧(((iLe (iAdd .i64 (iAdd .i64 x0.1 1) (Bw ((x.1,x0.2.2.2),7)).1) 56)=true→(Aw (((List.length x0.2.2.1)+(List.length [(iAdd .i64 (iAdd .i64 x0.1 1) (Bw ((x.1,x0.2.2.2),7)).1)]))*1)))∧((iLe (iAdd .i64 (iAdd .i64 x0.1 1) (Bw ((x.1,x0.2.2.2),7)).1) 56)=false→True))))∧((bAnd (iGt x0.2.1 0) (iLt x0.1 56))=false→True))
theorem dL (x):ML x=(((DP (x,[0,0,2,1,15])).1,(Ap JC (JB x) (0,(Bw ((x.1,(DP (x,[0,0,2,1,15])).2),9)).1,[],(Bw ((x.1,(DP (x,[0,0,2,1,15])).2),9)).2)).2.2.1),(Ap JC (JB x) (0,(Bw ((x.1,(DP (x,[0,0,2,1,15])).2),9)).1,[],(Bw ((x.1,(DP (x,[0,0,2,1,15])).2),9)).2)).2.2.2):=by unfold ML;exact(congrFun (shut _).2 x).trans (by kernel_rfl)
theorem eO (x):MH x=((KT (x,[0,0,2,1,15]))∧((IG ((x.1,(DP (x,[0,0,2,1,15])).2),9))∧(LoopOk JC (JB x) (Pc x) (0,(Bw ((x.1,(DP (x,[0,0,2,1,15])).2),9)).1,[],(Bw ((x.1,(DP (x,[0,0,2,1,15])).2),9)).2)))):=by unfold MH;exact(congrFun (shut _).2 x).trans (by kernel_rfl)
theorem ca (x):Ax x=(ML (IJ x)).1:=(FZ.v x).trans (by kernel_rfl)
theorem b9 (x):MD x=((Lb x)∧(MH (IJ x))):=(FZ.o x).trans (by kernel_rfl)
theorem cx (x):Pv x=(bOr (Lp x) (bAnd (bNot (bOr (bNot (Ey (Dy (Ax (x,12)))).2) (bOr (bNot (FC (EX (Ax (x,12)))).2) (bOr (bNot (FB ((DN (Ax (x,12))),(Ax (x,13)))).2) (bOr (bNot (ET ((Ey (Dy (Ax (x,12)))).1,(Ax (x,12))))) (bNot (ET ((FC (EX (Ax (x,12)))).1,(Ax (x,12)))))))))) (bSel (iGt (lLen (Ax (x,12)).2) 6) (ET ((FB ((DN (Ax (x,12))),(Ax (x,13)))).1,(Ax (x,12)).1,(Ax (x,13)).2)) (ET ((FB ((DN (Ax (x,12))),(Ax (x,13)))).1,(Ax (x,12))))))):=(FA.v x).trans (by kernel_rfl)
theorem cR (x):Pm x=((Qe x)∧(((Lp x)=true→True)∧((Lp x)=false→((MD (x,12))∧((MD (x,13))∧((KJ (Ax (x,12)))∧((O3 (Dy (Ax (x,12))))∧((Pu (Ax (x,12)))∧((Pr (EX (Ax (x,12))))∧((ME (Ax (x,12)))∧((Pq ((DN (Ax (x,12))),(Ax (x,13))))∧((((bNot (Ey (Dy (Ax (x,12)))).2)=true→True)∧((bNot (Ey (Dy (Ax (x,12)))).2)=false→(((bNot (FC (EX (Ax (x,12)))).2)=true→True)∧((bNot (FC (EX (Ax (x,12)))).2)=false→(((bNot (FB ((DN (Ax (x,12))),(Ax (x,13)))).2)=true→True)∧((bNot (FB ((DN (Ax (x,12))),(Ax (x,13)))).2)=false→((JD ((Ey (Dy (Ax (x,12)))).1,(Ax (x,12))))∧(((bNot (ET ((Ey (Dy (Ax (x,12)))).1,(Ax (x,12)))))=true→True)∧((bNot (ET ((Ey (Dy (Ax (x,12)))).1,(Ax (x,12)))))=false→(JD ((FC (EX (Ax (x,12)))).1,(Ax (x,12)))))))))))))∧(((bOr (bNot (Ey (Dy (Ax (x,12)))).2) (bOr (bNot (FC (EX (Ax (x,12)))).2) (bOr (bNot (FB ((DN (Ax (x,12))),(Ax (x,13)))).2) (bOr (bNot (ET ((Ey (Dy (Ax (x,12)))).1,(Ax (x,12))))) (bNot (ET ((FC (EX (Ax (x,12)))).1,(Ax (x,12)))))))))=true→True)∧((bOr (bNot (Ey (Dy (Ax (x,12)))).2) (bOr (bNot (FC (EX (Ax (x,12)))).2) (bOr (bNot (FB ((DN (Ax (x,12))),(Ax (x,13)))).2) (bOr (bNot (ET ((Ey (Dy (Ax (x,12)))).1,(Ax (x,12))))) (bNot (ET ((FC (EX (Ax (x,12)))).1,(Ax (x,12)))))))))=false→(((iGt (lLen (Ax (x,12)).2) 6)=true→(JD ((FB ((DN (Ax (x,12))),(Ax (x,13)))).1,(Ax (x,12)).1,(Ax (x,13)).2)))∧((iGt (lLen (Ax (x,12)).2) 6)=false→(JD ((FB ((DN (Ax (x,12))),(Ax (x,13)))).1,(Ax (x,12)))))))))))))))))))):=(FA.o x).trans (by kernel_rfl)
attribute [irreducible] Ax MD Pv Pm
end
theorem A4(a:Bool):bNot a=!a:=by simp only[LY]
theorem Br(a b:Bool):bAnd a b=(a&&b):=by simp only[U7]
theorem Cj(a b:Bool):bOr a b=(a||b):=by simp only[aO]
theorem BS{α:Type}(c:Bool)(x y:α):bSel c x y=if c=true then x else y:=by cases c<;>simp[Co,BQ]
theorem Dq(a b:Int):iEq a b=decide (a=b):=by
 rw[R4];by_cases h:a=b<;>simp[h]
theorem CA(a b:Int):iNe a b=!decide (a=b):=by
 rw[bh];by_cases h:a=b<;>simp[h]
theorem AB(a b:Int):iLt a b=decide (a<b):=by simp only[aY]
theorem B9(a b:Int):iLe a b=decide (a≤b):=by simp only[bc]
theorem CU(a b:Int):iGt a b=decide (b<a):=by simp only[aU]
theorem D0(a b:Int):iGe a b=decide (b≤a):=by simp only[aV]
theorem Jb(a b:List UInt8):sEq a b=(a == b):=by simp only[aW]
theorem LZ(a b:List UInt8):sNe a b=!(a == b):=by simp only[aT]
section
variable {α:Type}
theorem Av(l:List α):lLen l=(l.length:Int):=by simp only[Vj]
theorem B4(l:List α):lN l=l.length:=by simp only[OT]
theorem AL(l:List α)(j:Nat)(d:α):lGet l j d=l.getD j d:=by simp only[L7]
theorem BO(l:List α)(j:Nat)(x:α):lSet l j x=l.set j x:=by simp only[Oa]
theorem BW(l:List α)(a b:Nat):lSub l a b=(l.drop a).take (b-a):=by simp only[U3]
theorem Bt(l m:List α):lApp l m=l++m:=by simp only[Kf]
theorem B1(n:Int)(x:α):lRep n x=List.replicate n.toNat x:=by simp only[Z9]
theorem Aq(a:Int):iNat a=a.toNat:=by simp only[Vp]
theorem Un(a b:List UInt8):sAdd a b=a++b:=by simp only[au]
end
def Am(n:Int):Prop:=-9223372036854775808≤n∧n≤9223372036854775807
theorem JU{n:Int}(h:Am n):IntKind.i64.wrap n=n:=by
 obtain⟨h1,h2⟩:=h;show (if decide (n % 18446744073709551616≥9223372036854775808)=true then n % 18446744073709551616-18446744073709551616 else n % 18446744073709551616)=n;simp only[A3];split<;>omega
theorem Az{a b:Int}(h:Am (a+b)):iAdd .i64 a b=a+b:=by rw[Rs];exact JU h
theorem BD{a b:Int}(h:Am (a-b)):iSub .i64 a b=a-b:=by rw[aI];exact JU h
theorem Cf{a b:Int}(h:Am (a*b)):iMul .i64 a b=a*b:=by rw[aB];exact JU h
theorem Tv{a:Int}(h:Am a):iConv .i64 a=a:=by rw[Uv];exact JU h
theorem B7{a b:Int}(ha:0≤a)(h:Am (a / b)):iQuo .i64 a b=a / b:=by
 rw[ZZ];rw[Int.tdiv_eq_ediv_of_nonneg ha];exact JU h
theorem B3{a b:Int}(ha:0≤a):iRem a b=a % b:=by rw[Z6];exact Int.tmod_eq_emod_of_nonneg ha
section
variable {X:Type} {c:X→Bool} {f:X→X} {p:X→Prop}
theorem Lx(I:X→Prop)(m:X→Nat)(h:∀ x,I x→p x∧(c x=true→I (f x)∧m (f x)<m x)){x0:X}(h0:I x0) :
 LoopOk c f p x0∧I (Ap c f x0)∧c (Ap c f x0)=false:=by
 have go:∀ (n:Nat) (x:X),m x<n→I x→∃ y,LoopTo c f p x y∧I y∧c y=false:=by
  intro n
  induction n with
  |zero=>intro x hm;exact absurd hm (Ve _)
  | succ n ih=>
    intro x hm hI;obtain⟨h1,h2⟩:=h x hI
    cases hc:c x with
    |false=>exact⟨x,.stop h1 hc,hI,hc⟩
    | true=>
      obtain⟨h3,h4⟩:=h2 hc;obtain⟨y,h5,h6,h7⟩:=ih (f x) (by omega) h3;exact⟨y,.go h1 hc h5,h6,h7⟩
 obtain⟨y,h1,h2,h3⟩:=go _ x0 (UZ _) h0
 rw[h1.val]
 exact⟨⟨y,h1⟩,h2,h3⟩
theorem je(I:X→Prop)(m:X→Nat)(h:∀ x,I x→c x=true→I (f x)∧m (f x)<m x){x0:X}(h0:I x0):I (Ap c f x0)∧c (Ap c f x0)=false:=
 (Lx (p:=fun _=>True) I m (fun x hx=>⟨trivial,h x hx⟩) h0).2
theorem DW(n:Nat)(st:Nat→X){x0:X}(h0:st 0=x0)(hs:∀ k,k<n→p (st k)∧c (st k)=true∧f (st k)=st (k+1))(he:p (st n)∧c (st n)=false):LoopOk c f p x0∧Ap c f x0=st n:=by
 have go:∀ k,k≤n→LoopTo c f p (st (n-k)) (st n):=by
  intro k
  induction k with
  |zero=>intro _;exact .stop he.1 he.2
  | succ k ih=>
    intro hk;obtain⟨h1,h2,h3⟩:=hs (n-(k+1)) (by omega);refine .go h1 h2 ?_;rw[h3,show n-(k+1)+1=n-k by omega];exact ih (by omega)
 have:=go n (AF _);rw[Rt,h0] at this;exact⟨⟨_,this⟩,this.val⟩
end
def De(t:Nat→Bool):Nat→Nat→Nat
 |0,i=>i
 |k+1,i=>if t i then i else De t k (i+1)
theorem Lo(t:Nat→Bool):∀ k i,i≤De t k i∧De t k i≤i+k
 |0,i=>⟨AF _,AF _⟩
 | k+1,i=>by
   unfold De
   split
   · omega
   · have:=Lo t k (i+1);omega
theorem Qu(t:Nat→Bool):∀ k i,De t k i<i+k→t (De t k i)=true
 |0,i,h=>by unfold De at h;omega
 | k + 1,i,h=>by
   unfold De at h ⊢
   split
   · rename_i ht;exact ht
   · rename_i ht
     rw[Ad ht] at h
     exact Qu t k (i+1) (by omega)
theorem Qp(t:Nat→Bool):∀ k i j,i≤j→j<De t k i→t j=false
 |0,i,j,h,h'=>by unfold De at h';omega
 | k + 1,i,j,h,h'=>by
   unfold De at h'
   split at h'
   · omega
   · rename_i ht
     by_cases hj:j=i
     · subst hj;simpa using ht
     · exact Qp t k (i+1) j (by omega) h'
theorem Yx{c:Int→Bool}{f:Int→Int}{p:Int→Prop}(n:Nat)(t:Nat→Bool)(hn:(n:Int)≤9223372036854775806)(hc:∀ i:Nat,i≤n→c i=(decide (i<n)&&!t i))(hf:∀ i:Nat,i<n→f i=iAdd .i64 i 1)(hp:∀ i:Nat,i≤n→p i) :
 LoopOk c f p 0∧Ap c f 0=(De t n 0:Nat):=by
 have hle:=Lo t n 0
 refine DW (De t n 0) (fun k=>(k:Int)) rfl (fun k hk=>?_) ⟨hp _ (by omega),?_⟩
 · have hk':k<n:=by omega
   refine⟨hp k (by omega),?_,?_⟩
   · rw[hc k (by omega),Qp t n 0 k (by omega) hk];simp[hk']
   · rw[hf k hk',Az (by unfold Am;omega)];omega
 · rw[hc _ (by omega)]
   by_cases h:De t n 0<n
   · rw[Qu t n 0 (by omega)];simp
   · simp[h]
theorem S3{t:Nat→Bool}{n:Nat}:De t n 0=n↔∀ i,i<n→t i=false:=by
 constructor
 · intro h i hi;exact Qp t n 0 i (by omega) (by omega)
 · intro h;have hle:=Lo t n 0;rcases A9 (De t n 0) n with h1|h1
   · have:=Qu t n 0 (by omega);rw[h _ h1] at this;cases this
   · omega
theorem YX{α:Type}(x:List α)(i:Nat)(d:α)(h:i<x.length):x.getD i d∈x:=by
 rw[Bu,Ay h];exact Dr h
theorem oM{X:Type}{c:X→Bool}{f:X→X}{p:X→Prop}(ix:X→Int)(n:Int)(hn:n≤9223372036854775806)(hc:∀ x,0≤ix x→ix x≤n→c x=true→ix x<n)(hf:∀ x,ix (f x)=iAdd .i64 (ix x) 1)(hp:∀ x,0≤ix x→ix x≤n→p x){x0:X}(h0:0≤ix x0)(h1:ix x0≤n):LoopOk c f p x0:=by
 refine(Lx (fun x=>0≤ix x∧ix x≤n) (fun x=>(n-ix x).toNat) (fun x hI=>⟨hp x hI.1 hI.2,fun hcc=>?_⟩) ⟨h0,h1⟩).1;have:=hc x hI.1 hI.2 hcc;obtain⟨k1,k2⟩:=hI;have e:=hf x;rw[Az (by unfold Am;omega)] at e;refine⟨by omega,by omega⟩
theorem Zy(a b c:Int):DU (a,b,c)=(decide (b≤a)&&decide (a≤c)):=by rw[MZ];simp only[Br,D0,B9]
theorem NQ (x):JL x:=by rw[P9];trivial
theorem kO(n:Int):Lf n=(decide (1≤n)&&decide (n≤56)):=by rw[ft];simp only[Br,D0,B9]
theorem QG (x):PQ x:=by rw[fN];trivial
theorem Ud {X Y:Type} {c:X→Bool} {f:X→X} {p:X→Prop} {d:Y→Bool} {g:Y→Y} {q:Y→Prop} (R:X→Y→Prop) (m:X→Nat)
 (h:∀ x y,R x y→p x∧q y∧c x=d y∧(c x=true→R (f x) (g y)∧m (f x)<m x)) {x0:X} {y0:Y} (h0:R x0 y0) :
 LoopOk c f p x0∧LoopOk d g q y0∧R (Ap c f x0) (Ap d g y0)∧c (Ap c f x0)=false:=by
 have go:∀ (n:Nat) (x:X) (y:Y),m x<n→R x y→∃ u v,LoopTo c f p x u∧LoopTo d g q y v∧R u v∧c u=false:=by
  intro n
  induction n with
  |zero=>intro x y hm;exact absurd hm (Ve _)
  | succ n ih=>
    intro x y hm hR;obtain⟨h1,h2,h3,h4⟩:=h x y hR
    cases hc:c x with
    |false=>exact⟨x,y,.stop h1 hc,.stop h2 (by rw[← h3];exact hc),hR,hc⟩
    | true=>
      obtain⟨h5,h6⟩:=h4 hc;obtain⟨u,v,a1,a2,a3,a4⟩:=ih _ _ (by omega) h5;exact⟨u,v,.go h1 hc a1,.go h2 (by rw[← h3];exact hc) a2,a3,a4⟩
 obtain⟨u,v,a1,a2,a3,a4⟩:=go _ x0 y0 (UZ _) h0
 exact⟨⟨_,a1⟩,⟨_,a2⟩,by rw[a1.val,a2.val];exact a3,by rw[a1.val];exact a4⟩
theorem Q5{X:Type}{c:X→Bool}{f:X→X}{p:X→Prop}(n:Nat)(st:Nat→X)(t:Nat→Bool){x0:X}(h0:st 0=x0)(hc:∀ i,i≤n→(∀ j,j<i→t j=true)→c (st i)=(decide (i<n)&&t i))(hf:∀ i,i<n→(∀ j,j≤i→t j=true)→f (st i)=st (i+1))(hp:∀ i,i≤n→(∀ j,j<i→t j=true)→p (st i)) :
 LoopOk c f p x0∧∃ k,k≤n∧Ap c f x0=st k∧(k=n↔∀ i,i<n→t i=true):=by
 have hle:=Lo (fun i=>!t i) n 0
 have hno:∀ j,j<De (fun i=>!t i) n 0→t j=true:=fun j hj=>by
  have:=Qp (fun i=>!t i) n 0 j (by omega) hj;simpa using this
 have:=DW (c:=c) (f:=f) (p:=p) (De (fun i=>!t i) n 0) st h0 (fun k hk=>by
  refine⟨hp k (by omega) (fun j hj=>hno j (by omega)),?_,hf k (by omega) (fun j hj=>hno j (by omega))⟩;rw[hc k (by omega) (fun j hj=>hno j (by omega)),hno k hk]
  have:k<n:=by omega
  simp[this]) ⟨hp _ (by omega) hno,by
  rw[hc _ (by omega) hno];by_cases h:De (fun i=>!t i) n 0<n
  · have:=Qu (fun i=>!t i) n 0 (by omega);simp only[Cv] at this;rw[this];simp
  · simp[h]⟩
 refine⟨this.1,_,by omega,this.2,?_⟩
 rw[S3]
 simp
theorem JP{α:Type}(x:List α)(d:α){i:Nat}(h:i<x.length):x.take i++[x.getD i d]=x.take (i+1):=by
 rw[UW,Bu,Ay h];rfl
theorem Re{n:Int}(h0:0≤n)(h1:n<256):IntKind.u8.wrap n=n:=by
 simp only[IntKind.wrap,IntKind.bits,IntKind.signed,R5,AG,AR];omega
theorem Rh{n:Int}(h0:0≤n)(h1:n<256):iConv .u8 n=n:=by rw[Uv];exact Re h0 h1
theorem B0{n:Int}(h0:0≤n)(h1:n<9223372036854775808):iConv .i64 n=n:=Tv (by unfold Am;omega)
theorem Uq{a b:Nat}(ha:a<9223372036854775808)(hb:b<9223372036854775808):iAnd .i64 (a:Int) (b:Int)=((a &&& b:Nat):Int):=by
 have e:(BitVec.ofInt 64 (a:Int) &&& BitVec.ofInt 64 (b:Int)).toNat=a &&& b:=by
  rw[BitVec.ofInt_natCast,BitVec.ofInt_natCast,BitVec.toNat_and,BitVec.toNat_ofNat,BitVec.toNat_ofNat,Nat.mod_eq_of_lt (by omega),Nat.mod_eq_of_lt (by omega)]
 have h:a &&& b≤a:=Nat.and_le_left;rw[RJ];show IntKind.i64.wrap ((BitVec.ofInt 64 (a:Int) &&& BitVec.ofInt 64 (b:Int)).toNat:Int)=_;rw[e];exact JU (by unfold Am;omega)
theorem oX{a b:Nat}(ha:a<256)(hb:b<256):iAnd .u8 (a:Int) (b:Int)=((a &&& b:Nat):Int):=by
 have e:(BitVec.ofInt 8 (a:Int) &&& BitVec.ofInt 8 (b:Int)).toNat=a &&& b:=by
  rw[BitVec.ofInt_natCast,BitVec.ofInt_natCast,BitVec.toNat_and,BitVec.toNat_ofNat,BitVec.toNat_ofNat,Nat.mod_eq_of_lt (by omega),Nat.mod_eq_of_lt (by omega)]
 have h:a &&& b≤a:=Nat.and_le_left;rw[RJ];show IntKind.u8.wrap ((BitVec.ofInt 8 (a:Int) &&& BitVec.ofInt 8 (b:Int)).toNat:Int)=_;rw[e];exact Re (by omega) (by omega)
theorem pT{a b:Nat}(ha:a<256)(hb:b<256):iOr .u8 (a:Int) (b:Int)=((a ||| b:Nat):Int):=by
 have e:(BitVec.ofInt 8 (a:Int) ||| BitVec.ofInt 8 (b:Int)).toNat=a ||| b:=by
  rw[BitVec.ofInt_natCast,BitVec.ofInt_natCast,BitVec.toNat_or,BitVec.toNat_ofNat,BitVec.toNat_ofNat,Nat.mod_eq_of_lt (by omega),Nat.mod_eq_of_lt (by omega)]
 have h:a ||| b<2^8:=Nat.or_lt_two_pow (by omega) (by omega)
 rw[aX];show IntKind.u8.wrap ((BitVec.ofInt 8 (a:Int) ||| BitVec.ofInt 8 (b:Int)).toNat:Int)=_;rw[e];exact Re (by omega) (by omega)
theorem UA(a k:Nat)(h:k≤64):iShr .i64 (a:Int) (k:Int)=((a / 2^k:Nat):Int):=by
 rw[Vd];show Int.fdiv (a:Int) (2^min (k:Int).toNat 64)=_;rw[AE,Nat.min_eq_left h,Int.fdiv_eq_ediv_of_nonneg _ (by exact_mod_cast Ff _)];norm_cast
theorem o3(a k:Nat)(h:k≤8):iShr .u8 (a:Int) (k:Int)=((a / 2^k:Nat):Int):=by
 rw[Vd];show Int.fdiv (a:Int) (2^min (k:Int).toNat 8)=_;rw[AE,Nat.min_eq_left h,Int.fdiv_eq_ediv_of_nonneg _ (by exact_mod_cast Ff _)];norm_cast
theorem oE{a k:Nat}(hk:k≤8)(h:a*2^k<256):iShl .u8 (a:Int) (k:Int)=((a*2^k:Nat):Int):=by
 rw[Z3];show IntKind.u8.wrap ((a:Int)*2^min (k:Int).toNat 8)=_;rw[AE,Nat.min_eq_left hk]
 have:((a:Int)*2^k)=((a*2^k:Nat):Int):=by norm_cast
 rw[this];exact Re (by omega) (by omega)
def Bytes(x:List Int):Prop:=∀ a∈x,0≤a∧a<256
theorem Bytes.get{x:List Int}(h:Bytes x)(i:Nat):∃ n:Nat,n<256∧x.getD i 0=(n:Int):=by
 by_cases hi:i<x.length
 · obtain⟨h0,h1⟩:=h _ (YX x i 0 hi);exact⟨(x.getD i 0).toNat,by omega,by omega⟩
 · exact⟨0,by omega,by rw[Bu,Bg (by omega)];rfl⟩
theorem Bytes.of{x:List Int}(h:CT.wf (.sl (.one (.int .u8))) x):Bytes x:=by
 intro a ha;have:=h.2 a ha;simp only[RT.wf,CT.wf] at this
 have h:IntKind.u8.min≤a∧a≤IntKind.u8.max:=by simpa [Lit.wf] using this
 have e1:IntKind.u8.min=0:=by decide
 have e2:IntKind.u8.max=255:=by decide
 rw[e1,e2] at h;omega
theorem nU{b k:Nat}(hb:b<256)(hk:k<8):iAnd .i64 (iShr .i64 (iConv .i64 (b:Int)) (k:Int)) 1=iAnd .u8 (iShr .u8 (b:Int) (k:Int)) 1:=by
 rw[B0 (by omega) (by omega),UA _ _ (by omega),o3 _ _ (by omega)];have h:b / 2^k≤b:=Nat.div_le_self _ _;exact(Uq (b:=1) (by omega) (by omega)).trans (oX (b:=1) (by omega) (by omega)).symm
theorem fS(x:List Int)(hx:Bytes x)(hl:x.length=8):LoopOk GM (Hz x) (Ph x) (0,[])∧LoopOk KQ (KL x) (Pf x) (1,[]) ∧
 (Ap KQ (KL x) (1,[])).2=(Ap GM (Hz x) (0,[])).2∧(Ap GM (Hz x) (0,[])).2.length≤56:=by
 obtain⟨a1,a2,⟨k,h1,h2,h3,h4⟩,a4⟩:=Ud (c:=GM) (f:=Hz x) (p:=Ph x) (d:=KQ) (g:=KL x) (q:=Pf x) (x0:=((0:Int),([]:List Int))) (y0:=((1:Int),([]:List Int)))
  (fun x y=>∃ k:Nat,k≤56∧x.1=(k:Int)∧x.2.length≤k∧y=(x.1+1,x.2)) (fun x=>56-x.1.toNat) (by
   rintro⟨i,l⟩ y ⟨k,hk,rfl,hlen,rfl⟩
   simp only at hlen
   have s1:iAdd .i64 (k:Int) 1=(k:Int)+1:=Az (by unfold Am;omega)
   have s2:iAdd .i64 1 (iQuo .i64 (k:Int) 8)=((1+k / 8:Nat):Int):=by rw[B7 (by omega) (by unfold Am;omega),Az (by unfold Am;omega)];omega
   have s3:iSub .i64 ((k:Int)+1) 1=(k:Int):=(BD (by unfold Am;omega)).trans (by omega)
   have s4:iRem (k:Int) 8=((k % 8:Nat):Int):=by rw[B3 (by omega)];omega
   have s5:iAdd .i64 ((k:Int)+1) 1=(k:Int)+1+1:=Az (by unfold Am;omega)
   obtain⟨b,hb,g⟩:=hx.get (1+k / 8)
   have s6:iAnd .i64 (iShr .i64 (iConv .i64 (lGet x (iNat ((1+k / 8:Nat):Int)) 0)) ((k % 8:Nat):Int)) 1=iAnd .u8 (iShr .u8 (lGet x (iNat ((1+k / 8:Nat):Int)) 0) ((k % 8:Nat):Int)) 1:=by
    rw[AL,Aq,AE,g];exact nU hb (FM _ (by omega))
   have s7:iNat ((1+k / 8:Nat):Int)=1+k / 8:=by rw[Aq,AE]
   have r1:Aw ((l.length+1)*1):=by unfold Aw;omega
   simp only[GM,Hz,Ph,KQ,KL,Pf,s1,s2,s3,s4,s5,s6,Ar,As,AD]
   refine⟨⟨fun h=>?_,fun _=>trivial⟩,⟨fun h=>?_,fun _=>trivial⟩,?_,fun h=>?_⟩
   · rw[AB,A3] at h
     exact⟨by omega,⟨by omega,by omega⟩,by rw[s7];omega,by omega,by omega,fun _=>r1,fun _=>trivial⟩
   · rw[B9,A3] at h
     exact⟨by omega,⟨by omega,by omega⟩,by rw[s7];omega,by omega,by omega,fun _=>r1,fun _=>trivial⟩
   · rw[AB,B9,decide_eq_decide];omega
   · rw[AB,A3] at h
     refine⟨⟨k+1,by omega,by omega,?_,trivial⟩,by omega⟩;rw[BS,Bt];split
     · simp only[Ba,Ar,As];omega
     · omega) ⟨0,by omega,rfl,by simp,rfl⟩
 exact⟨a1,a2,by rw[h4],by omega⟩
theorem gS(x:List Int)(hx:Bytes x):SK x∧Pr x∧FC x=K4 x∧(K4 x).1.2.length≤56:=by
 rw[dP,dE,WA,dn];by_cases hl:x.length=8
 · have e1:iNe (lLen x) 8=false:=by rw[CA,Av];simp;omega
   obtain⟨b0,hb0,g0⟩:=hx.get 0
   have e2:iConv .i64 (lGet x (iNat 0) 0)=lGet x (iNat 0) 0:=by rw[AL,Aq];show iConv .i64 (x.getD 0 0)=x.getD 0 0;rw[g0,B0 (by omega) (by omega)]
   obtain⟨k1,k2,k3,k4⟩:=fS x hx hl
   have e3:iNat 0<x.length:=by rw[Aq,hl];decide
   rw[e2,k3];refine⟨?_,?_,rfl,?_⟩
   · simp[e1,hl,e3,k1,Aq]
   · simp[e1,hl,e3,k2,Aq]
   · rw[BS];split
     · simp
     · exact k4
 · have e1:iNe (lLen x) 8=true:=by rw[CA,Av];simp;omega
   simp only[e1,Cj,Bool.true_or,Co];simp
def RepOk(x:Int×List Int):Prop:=(0≤x.1∧x.1≤15)∧∀ i,i<x.2.length→(1≤x.2.getD i 0∧x.2.getD i 0≤56)∧(0<i→x.2.getD (i-1) 0<x.2.getD i 0)
theorem RepOk.code{x:Int×List Int}(h:RepOk x)(i:Nat)(hi:i<x.2.length):(i:Int)+1≤x.2.getD i 0:=by
 induction i with
 |zero=>have:=(h.2 0 hi).1;omega
 | succ i ih=>
   have h1:=ih (by omega);have h2:=(h.2 (i+1) hi).2 (by omega);rw[Nat.add_sub_cancel] at h2;omega
theorem RepOk.len{x:Int×List Int}(h:RepOk x):x.2.length≤56:=by
 rcases A9 56 x.2.length with h1|h1
 · have h2:=h.code 56 h1;have h3:=(h.2 56 h1).1;omega
 · exact h1
def Je(l:List Int)(i:Nat):Bool:=!(decide (1≤l.getD i 0)&&decide (l.getD i 0≤56))||(decide (0<i)&&decide (l.getD i 0≤l.getD (i-1) 0))
theorem XT{m:Int}{l:List Int}:((0≤m∧m≤15)∧∀ i,i<l.length→Je l i=false)↔RepOk (m,l):=by
 unfold RepOk Je;refine and_congr Iff.rfl (forall_congr' fun i=>imp_congr Iff.rfl ?_);simp only[C7,Gw,Ai,A3,Ii,Cl];omega
theorem gg(m:Int)(l:List Int)(h:l.length≤1048576):HE (m,l)∧(BI (m,l)=true↔RepOk (m,l)):=by
 rw[eC,eE]
 obtain⟨a1,a2⟩:=Yx (c:=KN (m,l)) (f:=MA) (p:=SA (m,l)) l.length (Je l) (by omega) (fun i hi=>by
  simp only[KN,Je,Zy,Av,AL,Aq,Br,A4,Cj,AB,CU,D0,AE];by_cases h0:0<i
  · rw[BD (by unfold Am;omega)]
    have e:((i:Int)-1).toNat=i-1:=by omega
    rw[e];simp[h0]
  · simp[h0]) (fun i _=>rfl) (fun i hi=>by
  unfold SA
  repeat' (first|exact trivial|assumption|decide|apply And.intro|(intro hh;(try simp(disch:=first|omega|(unfold Am;omega)) only[Av,B4,AL,Aq,BO,Bt,BW,B1,List.length_set,Ba,Ar,As,List.length_replicate,BT,BF,AE,BZ,AD,Az,BD,Cf,B7,B3,B0,NQ,AB,B9,CU,D0,Dq,CA,A4,Br,Cj,Ai,B8,Ii,C7,Cv,Gw,A3,Cl,LV] at hh))|omega|(unfold Aw;simp(disch:=first|omega|(unfold Am;omega)) only[Av,B4,AL,Aq,BO,Bt,BW,B1,List.length_set,Ba,Ar,As,List.length_replicate,BT,BF,AE,BZ,AD,Az,BD,Cf,B7,B3,B0,NQ];omega)|(simp(disch:=first|omega|(unfold Am;omega)) only[Av,B4,AL,Aq,BO,Bt,BW,B1,List.length_set,Ba,Ar,As,List.length_replicate,BT,BF,AE,BZ,AD,Az,BD,Cf,B7,B3,B0,NQ];done)|(simp(disch:=first|omega|(unfold Am;omega)) only[Av,B4,AL,Aq,BO,Bt,BW,B1,List.length_set,Ba,Ar,As,List.length_replicate,BT,BF,AE,BZ,AD,Az,BD,Cf,B7,B3,B0,NQ];omega)))
 refine⟨⟨a1,fun _=>trivial,fun _=>NQ _⟩,?_⟩;have hle:=Lo (Je l) l.length 0;rw[← XT,← S3,a2,Zy];simp only[Br,A4,AB,Av,Ai,Cv,Cl,A3];omega
theorem gj(m:Int)(l:List Int)(h:l.length≤1048576):GN (m,l)∧(Cz (m,l)=true↔RepOk (m,l)):=by
 rw[et,eJ]
 obtain⟨a1,a2⟩:=Yx (c:=Pb (m,l)) (f:=SD) (p:=SC (m,l)) l.length (Je l) (by omega) (fun i hi=>by
  simp only[Pb,Je,kO,Av,AL,Aq,Br,A4,Cj,AB,CU,D0,AE];by_cases h0:0<i
  · rw[BD (by unfold Am;omega)]
    have e:((i:Int)-1).toNat=i-1:=by omega
    rw[e];simp[h0]
  · simp[h0]) (fun i _=>rfl) (fun i hi=>by
  unfold SC
  repeat' (first|exact trivial|assumption|decide|apply And.intro|(intro hh;(try simp(disch:=first|omega|(unfold Am;omega)) only[Av,B4,AL,Aq,BO,Bt,BW,B1,List.length_set,Ba,Ar,As,List.length_replicate,BT,BF,AE,BZ,AD,Az,BD,Cf,B7,B3,B0,QG,AB,B9,CU,D0,Dq,CA,A4,Br,Cj,Ai,B8,Ii,C7,Cv,Gw,A3,Cl,LV] at hh))|omega|(unfold Aw;simp(disch:=first|omega|(unfold Am;omega)) only[Av,B4,AL,Aq,BO,Bt,BW,B1,List.length_set,Ba,Ar,As,List.length_replicate,BT,BF,AE,BZ,AD,Az,BD,Cf,B7,B3,B0,QG];omega)|(simp(disch:=first|omega|(unfold Am;omega)) only[Av,B4,AL,Aq,BO,Bt,BW,B1,List.length_set,Ba,Ar,As,List.length_replicate,BT,BF,AE,BZ,AD,Az,BD,Cf,B7,B3,B0,QG];done)|(simp(disch:=first|omega|(unfold Am;omega)) only[Av,B4,AL,Aq,BO,Bt,BW,B1,List.length_set,Ba,Ar,As,List.length_replicate,BT,BF,AE,BZ,AD,Az,BD,Cf,B7,B3,B0,QG];omega)))
 refine⟨⟨fun _=>trivial,fun _=>a1⟩,?_⟩;have hle:=Lo (Je l) l.length 0;rw[← XT,← S3,a2];simp only[Br,A4,Cj,AB,CU,Av,Ai,Cv,C7,Cl,A3];omega
theorem F7(x:Int×List Int)(h:x.2.length≤1048576):HE x∧GN x∧Cz x=BI x∧(BI x=true↔RepOk x):=by
 obtain⟨m,l⟩:=x;obtain⟨a1,a2⟩:=gg m l h;obtain⟨b1,b2⟩:=gj m l h;exact⟨a1,b1,by rw[VM,a2,b2],a2⟩
theorem gP(x:Int×List Int)(h:x.2.length≤1048576):SL x∧Pu x∧EX x=JH x∧(JH x).length≤8:=by
 obtain⟨a1,a2,a3,a4⟩:=F7 x h;rw[eN,df,Wy,dh];have e1:Sz x=Hy x:=rfl;have e2:SB x=Iy x:=rfl;rw[e1,e2,a3]
 cases hv:BI x with
 | false=>
   simp[hv,a1,a2,BS,A4,a3]
 | true=>
   have hr:=a4.1 hv;have hlen:=hr.len
   obtain⟨b1,b2,b3,b4⟩:=Ud (c:=Hy x) (f:=Iy x) (p:=SE x) (d:=Hy x) (g:=Iy x) (q:=SF x) (x0:=(lSet (lRep 8 0) (iNat 0) (iConv .u8 x.1),0)) (y0:=(lSet (lRep 8 0) (iNat 0) (iConv .u8 x.1),0))
    (fun s t=>s=t∧s.1.length=8∧0≤s.2∧s.2≤x.2.length) (fun s=>x.2.length-s.2.toNat) (by
     rintro⟨o,i⟩ t ⟨rfl,h1,h2,h3⟩
     simp only at h1 h2 h3
     obtain⟨k,rfl⟩:∃ k:Nat,i=k:=⟨i.toNat,by omega⟩
     have hc:k<x.2.length→1≤x.2.getD k 0∧x.2.getD k 0≤56:=fun hk=>(hr.2 k hk).1
     have e1:k<x.2.length→iSub .i64 (x.2.getD k 0) 1=x.2.getD k 0-1:=fun hk=>by have:=hc hk;exact BD (by unfold Am;omega)
     have e2:k<x.2.length→iAdd .i64 1 (iQuo .i64 (x.2.getD k 0-1) 8)=1+(x.2.getD k 0-1) / 8:=fun hk=>by have:=hc hk;rw[B7 (by omega) (by unfold Am;omega),Az (by unfold Am;omega)]
     have e3:k<x.2.length→iRem (x.2.getD k 0-1) 8=(x.2.getD k 0-1) % 8:=fun hk=>by have:=hc hk;exact B3 (by omega)
     refine⟨?_,?_,rfl,fun hcc=>?_⟩
     · unfold SE
       simp only[AL,Aq,AE,AB,Av,A3];refine⟨fun hk=>?_,fun _=>trivial⟩
       have hk:k<x.2.length:=by omega
       have:=hc hk;rw[e1 hk,e2 hk,e3 hk]
       repeat' (first|exact trivial|assumption|decide|apply And.intro|(intro hh;(try simp(disch:=first|omega|(unfold Am;omega)) only[Av,B4,AL,Aq,BO,Bt,BW,B1,List.length_set,Ba,Ar,As,List.length_replicate,BT,BF,AE,BZ,AD,Az,BD,Cf,B7,B3,B0,AB,B9,CU,D0,Dq,CA,A4,Br,Cj,Ai,B8,Ii,C7,Cv,Gw,A3,Cl,LV] at hh))|omega|(unfold Aw;simp(disch:=first|omega|(unfold Am;omega)) only[Av,B4,AL,Aq,BO,Bt,BW,B1,List.length_set,Ba,Ar,As,List.length_replicate,BT,BF,AE,BZ,AD,Az,BD,Cf,B7,B3,B0];omega)|(simp(disch:=first|omega|(unfold Am;omega)) only[Av,B4,AL,Aq,BO,Bt,BW,B1,List.length_set,Ba,Ar,As,List.length_replicate,BT,BF,AE,BZ,AD,Az,BD,Cf,B7,B3,B0];done)|(simp(disch:=first|omega|(unfold Am;omega)) only[Av,B4,AL,Aq,BO,Bt,BW,B1,List.length_set,Ba,Ar,As,List.length_replicate,BT,BF,AE,BZ,AD,Az,BD,Cf,B7,B3,B0];omega))
     · unfold SF
       simp only[AL,Aq,AE,AB,Av,A3];refine⟨fun hk=>?_,fun _=>trivial⟩
       have hk:k<x.2.length:=by omega
       have:=hc hk;rw[e1 hk,e2 hk,e3 hk]
       repeat' (first|exact trivial|assumption|decide|apply And.intro|(intro hh;(try simp(disch:=first|omega|(unfold Am;omega)) only[Av,B4,AL,Aq,BO,Bt,BW,B1,List.length_set,Ba,Ar,As,List.length_replicate,BT,BF,AE,BZ,AD,Az,BD,Cf,B7,B3,B0,AB,B9,CU,D0,Dq,CA,A4,Br,Cj,Ai,B8,Ii,C7,Cv,Gw,A3,Cl,LV] at hh))|omega|(unfold Aw;simp(disch:=first|omega|(unfold Am;omega)) only[Av,B4,AL,Aq,BO,Bt,BW,B1,List.length_set,Ba,Ar,As,List.length_replicate,BT,BF,AE,BZ,AD,Az,BD,Cf,B7,B3,B0];omega)|(simp(disch:=first|omega|(unfold Am;omega)) only[Av,B4,AL,Aq,BO,Bt,BW,B1,List.length_set,Ba,Ar,As,List.length_replicate,BT,BF,AE,BZ,AD,Az,BD,Cf,B7,B3,B0];done)|(simp(disch:=first|omega|(unfold Am;omega)) only[Av,B4,AL,Aq,BO,Bt,BW,B1,List.length_set,Ba,Ar,As,List.length_replicate,BT,BF,AE,BZ,AD,Az,BD,Cf,B7,B3,B0];omega))
     · simp only[Hy,AB,Av,A3] at hcc
       have e4:iAdd .i64 (k:Int) 1=(k:Int)+1:=Az (by unfold Am;omega);simp only[Iy,BO,List.length_set,e4]
       refine⟨⟨trivial,h1,by omega,by omega⟩,by omega⟩) ⟨rfl,by simp[BO,B1],by simp,by simp⟩
   have r8:Aw 8:=by unfold Aw;omega
   have e9:∀ {α:Type} (z:α),(lRep 8 z).length=8:=fun z=>by rw[B1,List.length_replicate];rfl
   have e0:iNat 0<8:=by rw[Aq];decide
   refine⟨?_,?_,rfl,?_⟩
   · simp[hv,a1,A4,b1,r8,e9,e0]
   · simp[hv,a2,A4,b2,a3,r8,e9,e0]
   · rw[A4];simp only[Gn,BQ];omega
theorem jV(k:IntKind)(a b:Int):iAdd k a b=iAdd k b a:=by rw[Rs,Rs,Int.add_comm]
theorem SU(x:Int×List Int)(h:x.2.length≤1048576):SH x∧ME x∧DN x=IC x∧(IC x).length≤8:=by
 obtain⟨a1,a2,a3,a4⟩:=F7 x h;rw[c7,cy,Wl,Wk];have e1:Mx=Hu:=rfl
 have e2:KK x=Hw x:=by
  funext s;simp only[KK,Hw,jV .i64 s.2 2]
 have e3:lSet (lRep 8 (0:Int)) (iNat 0) (iConv .u8 x.1)=[(iConv .u8 x.1),0,0,0,0,0,0,0]:=by rw[BO,B1,Aq];rfl
 rw[e1,e2,a3,e3]
 cases hv:BI x with
 | false=>
   simp[hv,a1,a2,BS,A4,a3]
 | true=>
   have hr:=a4.1 hv;have hlen:=hr.len
   obtain⟨b1,b2,b3,b4⟩:=Ud (c:=Hu) (f:=Hw x) (p:=Sv x) (d:=Hu) (g:=Hw x) (q:=Sx x) (x0:=([(iConv .u8 x.1),0,0,0,0,0,0,0],0)) (y0:=([(iConv .u8 x.1),0,0,0,0,0,0,0],0))
    (fun s t=>s=t∧s.1.length=8∧0≤s.2∧s.2≤6) (fun s=>6-s.2.toNat) (by
     rintro⟨o,i⟩ t ⟨rfl,h1,h2,h3⟩
     simp only at h1 h2 h3
     have e5:iAdd .i64 2 i=2+i:=Az (by unfold Am;omega)
     have e6:iAdd .i64 i 2=i+2:=Az (by unfold Am;omega)
     refine⟨?_,?_,rfl,fun hcc=>?_⟩
     · unfold Sv
       simp only[e5]
       repeat' (first|exact trivial|assumption|decide|apply And.intro|(intro hh;(try simp(disch:=first|omega|(unfold Am;omega)) only[Av,B4,AL,Aq,BO,Bt,BW,B1,List.length_set,Ba,Ar,As,List.length_replicate,BT,BF,AE,BZ,AD,Az,BD,Cf,B7,B3,B0,AB,B9,CU,D0,Dq,CA,A4,Br,Cj,Ai,B8,Ii,C7,Cv,Gw,A3,Cl,LV] at hh))|omega|(unfold Aw;simp(disch:=first|omega|(unfold Am;omega)) only[Av,B4,AL,Aq,BO,Bt,BW,B1,List.length_set,Ba,Ar,As,List.length_replicate,BT,BF,AE,BZ,AD,Az,BD,Cf,B7,B3,B0];omega)|(simp(disch:=first|omega|(unfold Am;omega)) only[Av,B4,AL,Aq,BO,Bt,BW,B1,List.length_set,Ba,Ar,As,List.length_replicate,BT,BF,AE,BZ,AD,Az,BD,Cf,B7,B3,B0];done)|(simp(disch:=first|omega|(unfold Am;omega)) only[Av,B4,AL,Aq,BO,Bt,BW,B1,List.length_set,Ba,Ar,As,List.length_replicate,BT,BF,AE,BZ,AD,Az,BD,Cf,B7,B3,B0];omega))
     · unfold Sx
       simp only[e6]
       repeat' (first|exact trivial|assumption|decide|apply And.intro|(intro hh;(try simp(disch:=first|omega|(unfold Am;omega)) only[Av,B4,AL,Aq,BO,Bt,BW,B1,List.length_set,Ba,Ar,As,List.length_replicate,BT,BF,AE,BZ,AD,Az,BD,Cf,B7,B3,B0,AB,B9,CU,D0,Dq,CA,A4,Br,Cj,Ai,B8,Ii,C7,Cv,Gw,A3,Cl,LV] at hh))|omega|(unfold Aw;simp(disch:=first|omega|(unfold Am;omega)) only[Av,B4,AL,Aq,BO,Bt,BW,B1,List.length_set,Ba,Ar,As,List.length_replicate,BT,BF,AE,BZ,AD,Az,BD,Cf,B7,B3,B0];omega)|(simp(disch:=first|omega|(unfold Am;omega)) only[Av,B4,AL,Aq,BO,Bt,BW,B1,List.length_set,Ba,Ar,As,List.length_replicate,BT,BF,AE,BZ,AD,Az,BD,Cf,B7,B3,B0];done)|(simp(disch:=first|omega|(unfold Am;omega)) only[Av,B4,AL,Aq,BO,Bt,BW,B1,List.length_set,Ba,Ar,As,List.length_replicate,BT,BF,AE,BZ,AD,Az,BD,Cf,B7,B3,B0];omega))
     · simp only[Hu,AB,A3] at hcc
       have e4:iAdd .i64 i 1=i+1:=Az (by unfold Am;omega);simp only[Hw,BO,BS,e4];refine⟨⟨trivial,?_,by omega,by omega⟩,by omega⟩;split
       · rw[List.length_set];exact h1
       · split
         · rw[List.length_set];exact h1
         · exact h1) ⟨rfl,rfl,by simp,by simp⟩
   have r8:Aw 8:=by unfold Aw;omega
   have e9:∀ {α:Type} (z:α),(lRep 8 z).length=8:=fun z=>by rw[B1,List.length_replicate];rfl
   have e0:iNat 0<8:=by rw[Aq];decide
   refine⟨?_,?_,rfl,?_⟩
   · simp[hv,a1,A4,b1]
   · simp[hv,a2,A4,b2,a3,r8,e9,e0]
   · rw[A4];simp only[Gn,BQ];omega
section
set_option maxRecDepth 20000
theorem GY{n:Nat}(h:n≤1048577000):Aw n:=by unfold Aw;exact EK h (by decide)
theorem ZN(s:List UInt8)(j:Int):sGet s j=((s.getD j.toNat 0).toNat:Int):=by simp only[aE]
theorem JY(s:List UInt8):sRow s=s.map fun b=>((b.toNat:Nat):Int):=by simp only[aJ]
theorem oe(l:List Int):rowS l=l.map fun n=>UInt8.ofNat n.toNat:=by simp only[UT]
theorem j7(s:List UInt8):rowS (sRow s)=s:=by
 rw[JY,oe,List.map_map]
 conv=>rhs;rw[← List.map_id s]
 apply List.map_congr_left;intro b _;simp
theorem Zg(a b:List UInt8):sRow (a++b)=sRow a++sRow b:=by rw[JY,JY,JY,D3]
theorem YH(a:List UInt8):(sRow a).length=a.length:=by rw[JY,Bd]
def Bx:List UInt8→Int→List (List UInt8)
 |[],_=>[[]]
 |b::r,c=>if (b.toNat:Int)=c then []::Bx r c else match Bx r c with|[]=>[[b]]|w::ws=>(b::w)::ws
theorem Nb:∀ (s:List UInt8) (c:Int),(∀ b∈s,(b.toNat:Int)≠c)→Bx s c=[s]
 |[],_,_=>rfl
 | b::r,c,h=>by
   have e:=Nb r c (fun x hx=>h x (by simp[hx]))
   simp[Bx,h b (by simp),e]
theorem Nn:∀ (a:List UInt8) (b:UInt8) (r:List UInt8) (c:Int),(∀ x∈a,(x.toNat:Int)≠c)→(b.toNat:Int)=c→Bx (a++b::r) c=a::Bx r c
 |[],b,r,c,_,h=>by simp[Bx,h]
 | x::a,b,r,c,ha,h=>by
   have e:=Nn a b r c (fun y hy=>ha y (by simp[hy])) h
   simp[Bx,ha x (by simp),e]
theorem XC{s:List UInt8}{F I:Nat}(h:F≤I)(hI:I<s.length):s.drop F=(s.drop F).take (I-F)++s.getD I 0::s.drop (I+1):=by
 rw[Bu,Ay hI,FD]
 conv=>lhs;rw[← List.take_append_drop (I-F) (s.drop F)]
 rw[List.drop_drop,show F+(I-F)=I by omega,RF hI]
theorem Nj(s:List UInt8)(c:Int)(h:s.length≤1048576):KR (s,c)∧Bp (s,c)=Bx s c:=by
 rw[cU,cw]
 have key:=Lx (c:=My (s,c)) (f:=O4 (s,c)) (p:=Sy (s,c))
  (fun st=>∃ (out:List (List UInt8)) (F I:Nat),st=(out,(F:Int),(I:Int))∧out.length≤I∧((F≤I∧I≤s.length∧(∀ b∈(s.drop F).take (I-F),(b.toNat:Int)≠c)∧Bx s c=out++Bx (s.drop F) c)∨(I=s.length+1∧Bx s c=out)))
  (fun st=>s.length+1-st.2.2.toNat) (fun st hI=>?_) (x0:=([],0,0)) ⟨[],0,0,rfl,by simp,.inl ⟨AF _,Ff _,by simp,rfl⟩⟩
 · obtain⟨k1,⟨out,F,I,e,_,hh⟩,k2⟩:=key;refine⟨k1,?_⟩;rw[e] at k2 ⊢;simp only[My,B9,Av,Cl] at k2;rcases hh with⟨_,h1,_⟩|⟨_,h1⟩
   · omega
   · exact h1.symm
 · obtain⟨out,F,I,rfl,hl,hh⟩:=hI;simp only[My,O4,Sy,B9,Dq,Av,Aq,AE,BW,Bt,ZN,Cj,BS,A3,Cl,Ar,As]
   have ha:iAdd .i64 (I:Int) 1=((I+1:Nat):Int):=by
    rw[Az (by unfold Am;rcases hh with⟨_,h1,_⟩|⟨h1,_⟩<;>omega)];rfl
   rw[ha];rcases hh with⟨hFI,hIl,hfree,hs⟩|⟨hI1,hs⟩
   · refine⟨⟨fun _=>⟨⟨fun _=>trivial,fun hne=>⟨by omega,by omega⟩⟩,fun _=>⟨⟨⟨by omega,by omega⟩,by omega,by omega⟩,GY (by omega)⟩,fun _=>trivial⟩,fun _=>trivial⟩,fun _=>?_⟩;by_cases hlt:I<s.length
     · have hne:decide ((I:Int)=(s.length:Int))=false:=Db (by omega);rw[hne,Bool.false_or];by_cases hc:((s.getD I 0).toNat:Int)=c
       · simp only[hc,decide_true,AQ];refine⟨⟨_,I+1,I+1,rfl,by simp;omega,.inl ⟨AF _,by omega,by simp,?_⟩⟩,by simp only[AE];omega⟩;rw[hs]
         conv=>lhs;rw[XC hFI hlt,Nn _ _ _ _ hfree hc]
         simp
       · simp only[hc,decide_false,AG,AR];refine⟨⟨_,F,I+1,rfl,by omega,.inl ⟨by omega,by omega,fun b hb=>?_,hs⟩⟩,by simp only[AE];omega⟩
         have e:(s.drop F).take (I+1-F)=(s.drop F).take (I-F)++[s.getD I 0]:=by
          rw[show I+1-F=(I-F)+1 by omega,UW,Gm,show F+(I-F)=I by omega,Ay hlt,Bu,Ay hlt];rfl
         rw[e,CS,List.mem_singleton] at hb;rcases hb with hb|rfl
         · exact hfree b hb
         · exact hc
     · have e:I=s.length:=by omega
       subst e;simp only[decide_true,Bool.true_or,AQ];refine⟨⟨_,s.length+1,s.length+1,rfl,by simp;omega,.inr ⟨rfl,?_⟩⟩,by simp only[AE];omega⟩;have e2:(s.drop F).take (s.length-F)=s.drop F:=FL (by rw[BF];exact AF _);rw[e2] at hfree ⊢;rw[hs,Nb _ _ hfree]
   · subst hI1;refine⟨⟨fun hh=>by omega,fun _=>trivial⟩,fun hh=>by omega⟩
theorem iB:Bx CF 32=Bi:=by decide
theorem Tl:PH PUnit.unit∧K9 PUnit.unit=Bi:=by
 rw[eZ,fj];have:=Nj CF 32 (by decide);rw[iB] at this;exact this
theorem IL(k:Int):MF k∧PD k∧MP k=Bv k∧(Bv k).length≤5:=by
 obtain⟨n1,n2⟩:=Tl;have hl:Bi.length=56:=rfl
 have hw:∀ w∈Bi,w.length≤5:=by decide
 rw[dU,eu,SM,dN,n2,PC,Ws];simp only[P9,MZ,A4,Br,Cj,BS,D0,B9,AB,CU,AL,Aq,hl];by_cases h:1≤k∧k≤56
 · have e:iSub .i64 k 1=k-1:=BD (by unfold Am;omega);rw[e];have d1:decide (1≤k)=true:=Ci h.1;have d2:decide (k≤56)=true:=Ci h.2;have d3:decide (k<1)=false:=Db (by omega);have d4:decide (56<k)=false:=Db (by omega);simp only[d1,d2,d3,d4];refine⟨⟨trivial,fun h=>(by cases h),fun _=>⟨n1,⟨by omega,by omega⟩,by omega⟩⟩,⟨fun h=>(by cases h),fun _=>⟨⟨⟨by first|rfl|trivial,by first|rfl|trivial⟩,trivial⟩,⟨by omega,by omega⟩,by omega⟩⟩,rfl,?_⟩;show (Bi.getD (k-1).toNat []).length≤5;rw[Bu,Ay (show (k-1).toNat<Bi.length by omega)];exact hw _ (Dr _)
 · have d:(decide (1≤k)&&decide (k≤56))=false:=by
    rw[Ii,Cl,Cl];omega
   have d':(decide (k<1)||decide (56<k))=true:=by
    rw[B8,A3,A3];omega
   simp only[d,d'];exact⟨⟨trivial,fun _=>trivial,fun h=>(by cases h)⟩,⟨fun _=>trivial,fun h=>(by cases h)⟩,rfl,by simp⟩
def V2(m:Int)(k:Nat):Bool:=iEq (iAnd .i64 (iShr .i64 m (k:Int)) 1) 1
def fm(m:Int):Nat→List UInt8
 |0=>[]
 |k+1=>if V2 m k then fm m k++[([67,83,65,71]:List UInt8).getD k 0] else fm m k
theorem N7(m:Int):∀ k,(fm m k).length≤k
 |0=>AF _
 | k+1=>by
   unfold fm
   split
   · simp;exact N7 m k
   · exact Nat.le_succ_of_le (N7 m k)
theorem TV(m:Int):KM m∧KO m∧Iz m=CZ m∧CZ m=(if 1≤m∧m≤15 then fm m 4 else []):=by
 rw[cd,b8,cj,bZ];by_cases h:1≤m∧m≤15
 · have d1:DU (m,1,15)=true:=by simp only[MZ,Br,D0,B9];simp[h.1,h.2]
   have d2:bOr (iLt m 1) (iGt m 15)=false:=by simp only[Cj,AB,CU,C7,Cl];omega
   have hk:∀ k:Nat,k<4→k=0∨k=1∨k=2∨k=3:=fun k hk=>by omega
   have ad:∀ k:Nat,k<4→iAdd .i64 (k:Int) 1=((k+1:Nat):Int):=fun k hk=>by rw[Az (by unfold Am;omega)];rfl
   have sub:∀ k:Nat,k<4→lSub ([67,83,65,71]:List UInt8) k (k+1)=[([67,83,65,71]:List UInt8).getD k 0]:=fun k h4=>by
    rw[BW];rcases hk k h4 with rfl|rfl|rfl|rfl<;>rfl
   have gt:∀ k:Nat,k<4→lGet ([[67],[83],[65],[71]]:List (List UInt8)) k []=[([67,83,65,71]:List UInt8).getD k 0]:=fun k h4=>by
    rw[AL];rcases hk k h4 with rfl|rfl|rfl|rfl<;>rfl
   have L1:=DW (c:=JA m) (f:=Mt m) (p:=KI m) 4 (fun k=>(fm m k,(k:Int))) (x0:=([],0)) rfl (fun k h4=>by
    have i4:iLt (k:Int) 4=true:=by rw[AB];exact Ci (by omega)
    have len:=N7 m k;simp only[JA,Mt,KI,d1,i4,ad k h4,sub k h4,Br,Cw,P9,Aq,AE,Ar,As];refine⟨⟨⟨fun _=>trivial,fun h=>(by cases h)⟩,fun _=>⟨by omega,fun _=>⟨⟨⟨by omega,by omega⟩,by omega,by omega⟩,by omega⟩,fun _=>trivial⟩,fun h=>(by cases h)⟩,trivial,?_⟩;rw[fm,BS,Un]
    rfl) (by
    have i4:iLt ((4:Nat):Int) 4=false:=by rw[AB];rfl
    simp only[JA,KI,i4,Br,R5]
    exact⟨⟨⟨fun h=>(by cases h),fun _=>trivial⟩,fun h=>(by cases h),fun _=>trivial⟩,trivial⟩)
   have L2:=DW (c:=Mu) (f:=O1 m) (p:=O2 m) 4 (fun k=>(fm m k,(k:Int))) (x0:=([],0)) rfl (fun k h4=>by
    have i4:iLt (k:Int) (lLen ([[67],[83],[65],[71]]:List (List UInt8)))=true:=by rw[AB,Av];exact Ci (by simp;omega)
    have len:=N7 m k;simp only[Mu,O1,O2,i4,ad k h4,gt k h4,il,iu,Aq,AE,Ar,As];refine⟨⟨fun _=>⟨⟨by omega,by omega⟩,by omega,by omega,fun _=>by omega,fun _=>trivial⟩,fun h=>(by cases h)⟩,trivial,?_⟩;rw[fm,BS,Un]
    rfl) (by
    have i4:iLt ((4:Nat):Int) (lLen ([[67],[83],[65],[71]]:List (List UInt8)))=false:=by rw[AB,Av];rfl
    simp only[Mu,O2,i4]
    exact⟨⟨fun h=>(by cases h),fun _=>trivial⟩,trivial⟩)
   rw[L1.2,L2.2,d2];exact⟨L1.1,⟨fun h=>(by cases h),fun _=>L2.1⟩,by rw[BS];rfl,by rw[Ab h]⟩
 · have d1:DU (m,1,15)=false:=by
    simp only[MZ,Br,D0,B9,Ii,Cl];omega
   have d2:bOr (iLt m 1) (iGt m 15)=true:=by simp only[Cj,AB,CU,B8,A3];omega
   have L1:=DW (c:=JA m) (f:=Mt m) (p:=KI m) 0 (fun _=>([],0)) (x0:=([],0)) rfl (fun k h=>by omega) (by
    simp only[JA,KI,d1,Br,Bool.and_false,P9]
    exact⟨⟨⟨fun _=>trivial,fun _=>trivial⟩,fun h=>(by cases h),fun _=>trivial⟩,trivial⟩)
   rw[L1.2,d2];exact⟨L1.1,⟨fun _=>trivial,fun h=>(by cases h)⟩,by rw[BS];rfl,by rw[Ad h]⟩
theorem Ns(m:Int):KM m∧KO m∧Iz m=CZ m∧(CZ m).length≤4:=by
 obtain⟨a,b,c,d⟩:=TV m;refine⟨a,b,c,?_⟩;rw[d];split
 · exact N7 m 4
 · simp
theorem X6(sep x:List UInt8):∀ (l:List (List UInt8)),Bc (l++[x]) sep=if l=[] then x else Bc l sep++sep++x
 |[]=>by simp[Bc,List.intercalate]
 |[a]=>by simp[Bc,List.intercalate]
 | a::b::r=>by
   have:=X6 sep x (b::r)
   simp only[Bc,List.intercalate,Cn,List.intersperse,Fg,reduceCtorEq,AR] at this ⊢
   rw[this]
   simp
theorem QX(sep:List UInt8)(W:Nat):∀ (l:List (List UInt8)),(∀ w∈l,w.length+sep.length≤W)→(Bc l sep).length≤l.length*W
 |[],_=>by simp[Bc,List.intercalate]
 | [a],h=>by
   have:=h a (by simp)
   simp[Bc,List.intercalate];omega
 | a::b::r,h=>by
   have i:=QX sep W (b::r) (fun w hw=>h w (by simp[hw]))
   have:=h a (by simp)
   simp only[Bc,List.intercalate,List.intersperse,Fg,Ba,Ar] at i ⊢
   rw[C8 (r.length+1) 1 W]
   omega
theorem lq(xs:List (List UInt8))(sep:List UInt8)(hl:xs.length≤1048576)(hw:∀ w∈xs,w.length+sep.length≤1000):MI (xs,sep)∧K0 (xs,sep)=Bc xs sep:=by
 rw[eH,eM]
 have tl:∀ k,(Bc (xs.take k) sep).length≤1048576000:=fun k=>by
  have h1:=QX sep 1000 (xs.take k) (fun w hw'=>hw w (Ka hw'))
  have h2:(xs.take k).length≤1048576:=by rw[BT];omega
  exact EK h1 (Nat.mul_le_mul h2 (AF _))
 have L:=DW (c:=MB (xs,sep)) (f:=O8 (xs,sep)) (p:=Pd (xs,sep)) xs.length (fun k=>(sRow (Bc (xs.take k) sep),(k:Int))) (x0:=([],0)) (by simp[Bc,List.intercalate,JY]) (fun k hk=>by
  have i1:iLt (k:Int) (lLen xs)=true:=by rw[AB,Av];exact Ci (by omega)
  have ad:iAdd .i64 (k:Int) 1=((k+1:Nat):Int):=by rw[Az (by unfold Am;omega)];rfl
  have gk:lGet xs k []=xs.getD k []:=AL _ _ _
  have hwk:(xs.getD k []).length+sep.length≤1000:=by
   rw[Bu,Ay hk];exact hw _ (Dr _)
  have tk:=tl k
  have sn:Bc (xs.take (k+1)) sep=if xs.take k=[] then xs.getD k [] else Bc (xs.take k) sep++sep++xs.getD k []:=by
   rw[← JP xs [] hk,X6]
  simp only[MB,O8,Pd,i1,ad,gk,Bt,Aq,AE,YH,Ba];refine⟨⟨fun _=>⟨⟨fun _=>GY (by omega),fun _=>trivial⟩,⟨by omega,by omega⟩,hk,?_⟩,fun h=>(by cases h)⟩,trivial,?_⟩
  · refine GY ?_;rw[BS];split<;>simp only[Ba,YH]<;>omega
  · rw[sn,BS,CU];rcases Og k with rfl|h0
    · simp[JY,Bc,List.intercalate]
    · have h1:xs.take k≠[]:=fun e=>by
       have:=congrArg List.length e;rw[BT,As] at this;omega
      have h2:decide ((0:Int)<(k:Int))=true:=Ci (by omega)
      rw[Ad h1,h2,Ab rfl,Zg,Zg]) (by
  have i1:iLt (xs.length:Int) (lLen xs)=false:=by rw[AB,Av];exact Db (by omega)
  simp only[MB,Pd,i1]
  exact⟨⟨fun h=>(by cases h),fun _=>trivial⟩,trivial⟩)
 rw[L.2,Ke,j7];exact⟨L.1,rfl⟩
theorem mY(xs:List (List UInt8))(sep:List UInt8)(hl:xs.length≤1048576)(hw:∀ w∈xs,w.length+sep.length≤100):MI (xs,sep)∧K0 (xs,sep)=Bc xs sep:=lq xs sep hl fun w h=>EK (hw w h) (by decide)
theorem Wu(x:Int×List Int)(h:x.2.length≤1048576):Mv x∧KJ x∧Dy x=Dz x∧Dz x=bSel (bNot (BI x)) [] (CZ x.1++[58]++Bc (x.2.map Bv) [44]):=by
 obtain⟨m,K⟩:=x;obtain⟨r1,r2,r3,_⟩:=F7 (m,K) h;obtain⟨m1,m2,m3,m4⟩:=Ns m;rw[bL,bK,Wc,bM,r3,m3];have h:K.length≤1048576:=h
 have stp:∀ k,k<K.length→(K.take (k+1)).map Bv=(K.take k).map Bv++[Bv (K.getD k 0)]:=fun k hk=>by
  rw[← JP K 0 hk,D3];rfl
 have L1:=DW (c:=Jy (m,K)) (f:=KH (m,K)) (p:=OZ (m,K)) K.length (fun k=>((K.take k).map Bv,(k:Int))) (x0:=([],0)) (by simp) (fun k hk=>by
  have i1:iLt (k:Int) (lLen K)=true:=by rw[AB,Av];exact Ci (by omega)
  have ad:iAdd .i64 (k:Int) 1=((k+1:Nat):Int):=by rw[Az (by unfold Am;omega)];rfl
  have gk:lGet K k 0=K.getD k 0:=AL _ _ _;simp only[Jy,KH,OZ,i1,ad,gk,Bt,Aq,AE,Bd,BT,Ar,As,stp k hk]
  exact⟨⟨fun _=>⟨⟨by omega,by omega⟩,hk,(IL _).1,GY (by omega)⟩,fun h=>(by cases h)⟩,trivial,trivial⟩) (by
  have i1:iLt (K.length:Int) (lLen K)=false:=by rw[AB,Av];exact Db (by omega)
  simp only[Jy,OZ,i1]
  exact⟨⟨fun h=>(by cases h),fun _=>trivial⟩,trivial⟩)
 have L2:=DW (c:=Jz (m,K)) (f:=KG (m,K)) (p:=O0 (m,K)) K.length (fun k=>((K.take k).map Bv,(k:Int))) (x0:=([],0)) (by simp) (fun k hk=>by
  have i1:iLt (k:Int) (lLen K)=true:=by rw[AB,Av];exact Ci (by omega)
  have ad:iAdd .i64 (k:Int) 1=((k+1:Nat):Int):=by rw[Az (by unfold Am;omega)];rfl
  have gk:lGet K k 0=K.getD k 0:=AL _ _ _;obtain⟨_,c2,c3,_⟩:=IL (K.getD k 0);simp only[Jz,KG,O0,i1,ad,gk,c3,Bt,Aq,AE,Bd,BT,Ar,As,stp k hk]
  exact⟨⟨fun _=>⟨⟨by omega,by omega⟩,hk,c2,GY (by omega)⟩,fun h=>(by cases h)⟩,trivial,trivial⟩) (by
  have i1:iLt (K.length:Int) (lLen K)=false:=by rw[AB,Av];exact Db (by omega)
  simp only[Jz,O0,i1]
  exact⟨⟨fun h=>(by cases h),fun _=>trivial⟩,trivial⟩)
 simp only[L1.2,L2.2,Ke]
 have wl:∀ w∈K.map Bv,w.length+([44]:List UInt8).length≤100:=fun w hw=>by
  obtain⟨k,hk,rfl⟩:=List.mem_map.1 hw;have:=(IL k).2.2.2;simp only[Ar,As];omega
 have ln:(K.map Bv).length≤1048576:=by rw[Bd];exact h
 obtain⟨j1,j2⟩:=mY (K.map Bv) [44] ln wl
 have jl:(Bc (K.map Bv) [44]).length≤104857600:=by
  refine EK (QX [44] 100 _ wl) ?_;exact Nat.mul_le_mul ln (AF _)
 have j3:Pt (K.map Bv,[44]):=by
  rw[eG,WD];exact⟨EK ln (by decide),EK jl (by decide)⟩
 have j4:MM (K.map Bv,[44])=Bc (K.map Bv) [44]:=by rw[ez,WH]
 simp only[j2,j4,Un,Ba,Ar,As];refine⟨⟨r1,fun _=>trivial,fun _=>⟨L1.1,m1,by omega,j1,by omega⟩⟩,⟨r2,fun _=>trivial,fun _=>⟨L2.1,m2,by omega,j3,by omega⟩⟩,by first|rfl|trivial,by first|rfl|trivial⟩
theorem Wt(x:Int×List Int)(h:x.2.length≤1048576):Mv x∧KJ x∧Dy x=Dz x:=let ⟨a,b,c,_⟩:=Wu x h;⟨a,b,c⟩
theorem Wx(x:Int×List Int)(h:x.2.length≤1048576):Dz x=bSel (bNot (BI x)) [] (CZ x.1++[58]++Bc (x.2.map Bv) [44])∧True:=⟨(Wu x h).2.2.2,trivial⟩
end
section
set_option maxRecDepth 20000
theorem iG(s:List UInt8)(c:Int)(h:s.length≤1048576):Po (s,c)∧F1 (s,c)=Bx s c:=by
 rw[cK,cJ]
 have key:=Lx (c:=GL (s,c)) (f:=Hx (s,c)) (p:=Sw (s,c))
  (fun st=>∃ (out:List (List UInt8)) (F I:Nat),st=(out,(F:Int),(I:Int))∧out.length≤I∧F≤I∧I≤s.length∧(∀ b∈(s.drop F).take (I-F),(b.toNat:Int)≠c)∧Bx s c=out++Bx (s.drop F) c)
  (fun st=>s.length-st.2.2.toNat) (fun st hI=>?_) (x0:=([],0,0)) ⟨[],0,0,rfl,by simp,AF _,Ff _,by simp,rfl⟩
 · obtain⟨k1,⟨out,F,I,e,hl,hFI,hIl,hfree,hs⟩,k2⟩:=key;rw[e] at k2 ⊢;simp only[GL,AB,Av,Cl] at k2
   have e2:I=s.length:=by omega
   subst e2;simp only[BW,B4,Bt,Aq,AE,Ar,As];have e2:(s.drop F).take (s.length-F)=s.drop F:=FL (by rw[BF];exact AF _);rw[e2] at hfree ⊢;exact⟨⟨k1,⟨by omega,hFI,AF _⟩,GY (by omega)⟩,by rw[hs,Nb _ _ hfree]⟩
 · obtain⟨out,F,I,rfl,hl,hFI,hIl,hfree,hs⟩:=hI;simp only[GL,Hx,Sw,AB,Dq,Av,Aq,AE,BW,Bt,ZN,BS,A3,Cl,Ar,As]
   have ha:iAdd .i64 (I:Int) 1=((I+1:Nat):Int):=by rw[Az (by unfold Am;omega)];rfl
   rw[ha];refine⟨⟨fun hlt=>⟨⟨by omega,by omega⟩,fun _=>⟨⟨⟨by omega,by omega⟩,by omega,by omega⟩,GY (by omega)⟩,fun _=>trivial⟩,fun _=>trivial⟩,fun hlt=>?_⟩
   have hlt:I<s.length:=by omega
   by_cases hc:((s.getD I 0).toNat:Int)=c
   · simp only[hc,AQ];refine⟨⟨_,I+1,I+1,rfl,by simp;omega,AF _,by omega,by simp,?_⟩,by simp only[AE];omega⟩;rw[hs]
     conv=>lhs;rw[XC hFI hlt,Nn _ _ _ _ hfree hc]
     simp
   · simp only[hc,AR];refine⟨⟨_,F,I+1,rfl,by omega,by omega,by omega,fun b hb=>?_,hs⟩,by simp only[AE];omega⟩
     have e:(s.drop F).take (I+1-F)=(s.drop F).take (I-F)++[s.getD I 0]:=by
      rw[show I+1-F=(I-F)+1 by omega,UW,Gm,show F+(I-F)=I by omega,Ay hlt,Bu,Ay hlt];rfl
     rw[e,CS,List.mem_singleton] at hb;rcases hb with hb|rfl
     · exact hfree b hb
     · exact hc
theorem Qs:∀ (s:List UInt8) (c:Int),(Bx s c).length≤s.length+1
 |[],_=>by simp[Bx]
 | b::r,c=>by
   have:=Qs r c
   unfold Bx
   split
   · simp;omega
   · split<;>simp_all<;>omega
theorem jt(s:List UInt8)(c:Int):0<(Bx s c).length:=by
 cases s with
 |nil=>simp[Bx]
 |cons b r=>unfold Bx;split<;>(try split)<;>simp
theorem Ue:∀ (s:List UInt8) (b:UInt8),b ∉ s∨∃ x y,s=x++b::y∧b ∉ x
 |[],b=>.inl (by simp)
 | z :: r,b=>by
   by_cases h:z=b
   · subst h;exact .inr ⟨[],r,rfl,by simp⟩
   · rcases Ue r b with h1|⟨x,y,rfl,h2⟩
     · exact .inl (by simp[h1,E9 h])
     · exact .inr ⟨z::x,y,rfl,by simp[h2,E9 h]⟩
theorem WM:∀ (s:List UInt8) (b:UInt8),b ∉ s→Lib.indexByte s b=-1
 |[],_,_=>rfl
 | z::r,b,h=>by
   have h1:z≠b:=fun e=>h (by simp[e])
   have h2:=WM r b (fun e=>h (by simp[e]))
   unfold Lib.indexByte
   rw[Ad (by simpa using h1),h2];rfl
theorem Xd:∀ (x y:List UInt8) (b:UInt8),b ∉ x→Lib.indexByte (x++b::y) b=(x.length:Int)
 |[],y,b,_=>by simp[Lib.indexByte]
 | z::x,y,b,h=>by
   have h1:z≠b:=fun e=>h (by simp[e])
   have h2:=Xd x y b (fun e=>h (by simp[e]))
   rw[Cn]
   unfold Lib.indexByte
   rw[Ad (by simpa using h1),h2,Ad (by simp<;>omega),Ar]
   try rfl
theorem ml(s:List UInt8)(b:UInt8)(h:b ∉ s):K8 (s,[b])∧BJ (s,[b])=(s,[],false):=by
 have hi:Dx (s,[b])=-1:=by rw[Sn];exact WM s b h
 have ho:It (s,[b]):=by rw[Sm];rfl
 have e:iGe (-1) 0=false:=by rw[D0];rfl
 rw[WJ,WS,V8,V9,hi,e,BQ];exact⟨⟨ho,fun h=>(by cases h),fun _=>trivial⟩,rfl⟩
theorem o9(x y:List UInt8)(b:UInt8)(h:b ∉ x)(hl:(x++b::y).length≤1048576):K8 (x++b::y,[b])∧BJ (x++b::y,[b])=(x,y,true):=by
 have hi:Dx (x++b::y,[b])=(x.length:Int):=by rw[Sn];exact Xd x y b h
 have ho:It (x++b::y,[b]):=by rw[Sm];rfl
 have e:iGe (x.length:Int) 0=true:=by rw[D0];exact Ci (by omega)
 rw[Ba,Ar] at hl
 have ad:iAdd .i64 (x.length:Int) (lLen [b])=((x.length+1:Nat):Int):=by
  rw[Av,Az (by unfold Am;simp only[Ar,As];omega)];rfl
 rw[WJ,WS,V8,V9,hi,e,Co];simp only[ad,Aq,AE,BW,B4,Ba,Ar];refine⟨⟨ho,fun _=>⟨⟨by omega,by omega,by omega⟩,by omega,by omega,by omega⟩,fun h=>(by cases h)⟩,?_⟩
 have e1:((x++b::y).drop 0).take (x.length-0)=x:=by simp
 have e2:(x++b::y).drop (x.length+1)=y:=by
  rw[← List.drop_drop,List.drop_left];rfl
 rw[e1,e2,FL (by omega)]
theorem Lk(k:Nat)(h:k<56):Bv ((k:Int)+1)=Bi.getD k []:=by
 obtain⟨_,n2⟩:=Tl;rw[SM,n2]
 have e:iSub .i64 ((k:Int)+1) 1=(k:Int):=by rw[BD (by unfold Am;omega)];omega
 have d:DU ((k:Int)+1,1,56)=true:=by
  simp only[MZ,Br,D0,B9,Ai,A3];omega
 rw[e,d,A4,BS,AL,Aq];rfl
def Dk(x:List UInt8):Nat:=Bi.findIdx (· == x)
theorem U0(x:List UInt8):Dk x≤56:=List.findIdx_le_length
theorem Vw(x:List UInt8){k:Nat}(h:k<Dk x):Bi.getD k []≠x:=by
 have hl:Bi.length=56:=rfl;have h56:=U0 x
 have hk:k<Bi.length:=by omega
 have:=List.not_of_lt_findIdx h;rw[Bu,Ay hk];simpa using this
theorem U8(x:List UInt8)(h:Dk x<56):Bi.getD (Dk x) []=x:=by
 have hl:Bi.length=56:=rfl
 have hk:Dk x<Bi.length:=by omega
 have:=List.findIdx_getElem (w:=hk);rw[Bu,Ay hk];exact eq_of_beq this
theorem Th(x:List UInt8):PU x∧PW x∧Le x=Eg x:=by
 have hl:Bi.length=56:=rfl;have h56:=U0 x;rw[fO,fA,WL,fo,Ws]
 have L1:=DW (c:=HB x) (f:=JG) (p:=JF) (Dk x) (fun k=>(k:Int)+1) (x0:=1) rfl (fun k hk=>by
  have i1:iLe ((k:Int)+1) 56=true:=by rw[B9];exact Ci (by omega)
  have i2:sEq (Bv ((k:Int)+1)) x=false:=by rw[Lk k (by omega),Jb];simpa using Vw x hk
  simp only[HB,JG,JF,i1,i2,Br,A4]
  exact⟨⟨fun _=>(IL _).1,fun h=>(by cases h)⟩,rfl,by rw[Az (by unfold Am;omega)];simp⟩) (by
  simp only[HB,JF,Br,A4];refine⟨⟨fun _=>(IL _).1,fun _=>trivial⟩,?_⟩;rcases A9 (Dk x) 56 with h|h
  · rw[Lk _ h,U8 x h,Jb];simp
  · have i1:iLe ((Dk x:Int)+1) 56=false:=by rw[B9];exact Db (by omega)
    rw[i1];rfl)
 have L2:=DW (c:=KV x) (f:=MG) (p:=Pz) (Dk x) (fun k=>(k:Int)) (x0:=0) rfl (fun k hk=>by
  have i2:sEq (lGet Bi k []) x=false:=by rw[AL,Jb];simpa using Vw x hk
  simp only[KV,MG,Pz,PC,Aq,AE,i2,Br,A4,AB,Av,hl]
  exact⟨⟨fun _=>⟨⟨by omega,by omega⟩,by omega⟩,fun _=>trivial⟩,by simp;omega,by rw[Az (by unfold Am;omega)];simp⟩) (by
  simp only[KV,Pz,PC,Aq,AE,Br,A4,AB,Av,hl,AL,Jb,A3];refine⟨⟨fun h=>⟨⟨by omega,by omega⟩,by omega⟩,fun _=>trivial⟩,?_⟩;rcases A9 (Dk x) 56 with h|h
  · rw[U8 x h];simp
  · simp;omega)
 rw[L1.2,L2.2];refine⟨L1.1,⟨⟨⟨by first|rfl|trivial,by first|rfl|trivial⟩,trivial⟩,L2.1⟩,?_⟩;rw[PC,AB,B9,Av,hl,BS,BS,Az (by unfold Am;omega)];rcases A9 (Dk x) 56 with h|h
 · rw[Ab (Ci (by omega)),Ab (Ci (by omega))]
 · rw[Ad (by simp;omega),Ad (by simp;omega)]
theorem fV(x:List UInt8):Pj x∧Pk x∧GO x=Da x:=by
 have ec:Mw x=FY x:=by
  funext m;simp only[Mw,FY,(Ns m).2.2.1]
 have ef:O5=Hv:=rfl
 have key:∀ {p:Int→Prop},(∀ m,p m)→LoopOk (FY x) Hv p 1:=fun hp=>
  (Lx (fun st=>1≤st∧st≤16) (fun st=>(16-st).toNat) (fun st hI=>⟨hp st,fun hc=>by
   simp only[FY,Br,B9,Ai,A3] at hc;rw[show Hv st=st+1 by unfold Hv;exact Az (by unfold Am;omega)]
   omega⟩) (by omega)).1
 rw[cT,cC,Wo,cI,ec,ef];exact⟨key fun m=>⟨fun _=>(Ns m).1,fun _=>trivial⟩,key fun m=>⟨fun _=>(Ns m).2.1,fun _=>trivial⟩,rfl⟩
theorem bd(m:Int):∀ k,k≤4→(58:UInt8) ∉ fm m k
 |0,_=>by simp[fm]
 | k + 1,h=>by
   have i:=bd m k (by omega)
   unfold fm
   split
   · rw[CS,List.mem_singleton]
     rintro(h1|h1)
     · exact i h1
     · rcases (show k=0∨k=1∨k=2∨k=3 by omega) with rfl|rfl|rfl|rfl<;>exact absurd h1 (by decide)
   · exact i
theorem Up{b:UInt8}{sep:List UInt8}(hs:b ∉ sep):∀ (l:List (List UInt8)),(∀ w∈l,b ∉ w)→b ∉ Bc l sep
 |[],_=>by simp[Bc,List.intercalate]
 |[a],h=>by simpa [Bc,List.intercalate] using h a (by simp)
 | a::c::r,h=>by
   have i:=Up hs (c::r) (fun w hw=>h w (by simp[hw]))
   have:=h a (by simp)
   simp only[Bc,List.intercalate,List.intersperse,Fg,CS] at i ⊢
   rintro(h1|h1|h1)
   · exact this h1
   · exact hs h1
   · exact i h1
end
section
set_option maxRecDepth 20000
theorem Sa{y c:UInt8}(h:y≠c):((y.toNat:Nat):Int)≠((c.toNat:Nat):Int):=fun e=>h (UInt8.toNat_inj.1 (by omega))
theorem Tc{x:List UInt8}(h:(58:UInt8) ∉ x):Bx x 58=[x]:=Nb x 58 fun b hb=>Sa (c:=58) fun e=>h (e▸hb)
theorem Qk{a b:List UInt8}(h:(58:UInt8) ∉ a):Bx (a++58::b) 58=a::Bx b 58:=Nn a 58 b 58 (fun y hy=>Sa (c:=58) fun e=>h (e▸hy)) rfl
def CW(b:List UInt8):List Int:=if b=[] then [] else (Bx b 44).map Eg
theorem j0(b:List UInt8):(CW b).length≤b.length+1:=by
 unfold CW;split
 · simp
 · rw[Bd];exact Qs b 44
theorem Zw(m:Int):(58:UInt8) ∉ CZ m:=by
 rw[(TV m).2.2.2];split
 · exact bd m 4 (AF _)
 · simp
theorem ZE(k:Int):(58:UInt8) ∉ Bv k:=by
 obtain⟨_,n2⟩:=Tl
 have hw:∀ w∈Bi,(58:UInt8) ∉ w:=by decide
 rw[SM,n2,BS];split
 · simp
 · rw[AL,Bu];rcases A9 (iNat (iSub .i64 k 1)) Bi.length with h|h
   · rw[Ay h];exact hw _ (Dr _)
   · rw[Bg h];simp
theorem ji(x:Int×List Int)(h:x.2.length≤1048576)(hv:BI x=true):∃ a b,Dz x=a++58::b∧(58:UInt8) ∉ a∧(58:UInt8) ∉ b:=by
 obtain⟨f,g⟩:=Wx x h;rw[hv,A4,Gn,BQ] at f;refine⟨CZ x.1,Bc (x.2.map Bv) [44],?_,Zw _,Up (by decide) _ fun w hw=>?_⟩
 · rw[f];simp
 · obtain⟨k,_,rfl⟩:=List.mem_map.1 hw;exact ZE k
theorem Tj {c:Int×List Int→Bool} {f:Int×List Int→Int×List Int} {p:Int×List Int→Prop} {g:List UInt8→Int} (L:List (List UInt8)) (hl:L.length≤1048577) (hg:∀ w,g w=Eg w)
 (hc:∀ i l,c (i,l)=iLt i (lLen L)) (hf:∀ i l,f (i,l)=(iAdd .i64 i 1,lApp l [g (lGet L (iNat i) [])]))
 (hp:∀ (i:Nat) l,l.length=i→i≤L.length→(i<L.length→p ((i:Int),l))∧(i=L.length→p ((i:Int),l))):LoopOk c f p (0,[])∧(Ap c f (0,[])).2=L.map Eg:=by
 have:=DW (c:=c) (f:=f) (p:=p) L.length (fun k=>((k:Int),(L.take k).map Eg)) (x0:=(0,[])) (by simp) (fun k hk=>by
  refine⟨(hp k _ (by simp;omega) (by omega)).1 hk,by rw[hc,AB,Av];exact Ci (by omega),?_⟩;rw[hf,hg,Bt,AL,Aq,Az (by unfold Am;omega),← JP L [] hk,D3]
  rfl) ⟨(hp L.length _ (by simp) (AF _)).2 rfl,by rw[hc,AB,Av];exact Db (by omega)⟩
 refine⟨this.1,?_⟩
 rw[this.2,Ke]
theorem eP(x:List UInt8)(h:x.length≤1048576):Su x∧O3 x∧Ey x=MC x∧(MC x).1.2.length≤1048576:=by
 obtain⟨s1,s2⟩:=Nj x 58 h;rw[bV,bT,Wd,bR];rcases Ue x 58 with hno|⟨a,b,rfl,ha⟩
 · obtain⟨c1,c2⟩:=ml x 58 hno
   have e1:iNe (lLen ([x]:List (List UInt8))) 2=true:=by rw[CA,Av];rfl
   simp only[s2,Tc hno,c2,e1,A4,Co,Bool.not_false];exact⟨⟨s1,fun _=>trivial,fun h=>(by cases h)⟩,⟨c1,fun _=>trivial,fun h=>(by cases h)⟩,trivial,by simp⟩
 · obtain⟨c1,c2⟩:=o9 a b 58 ha h
   have hab:a.length+b.length+1≤1048576:=by rw[Ba,Ar] at h;omega
   have hK:=j0 b;obtain⟨m1,m2,m3⟩:=fV a
   have kl:(Da a,CW b).2.length≤1048576:=by show (CW b).length≤_;omega
   obtain⟨f1,f2,f3⟩:=Wt (Da a,CW b) kl;obtain⟨i1,i2,i3,_⟩:=F7 (Da a,CW b) kl;obtain⟨p1,p2⟩:=iG b 44 (by omega);obtain⟨q1,q2⟩:=Nj b 44 (by omega);have hL:=Qs b 44
   have L2:=Tj (c:=GJ (a++58::b)) (f:=GK (a++58::b)) (p:=Ss (a++58::b)) (g:=Le) (Bx b 44) (by omega) (fun w=>(Th w).2.2)
    (fun i l=>by simp only[GJ,c2,p2]) (fun i l=>by simp only[GK,c2,p2]) (fun i l hl hi=>by
     simp only[Ss,c2,p2,AB,Av,Aq,AE,A3,Cl,Ar,As]
     exact⟨fun h1=>⟨fun _=>⟨⟨by omega,by omega⟩,h1,(Th _).2.1,GY (by omega)⟩,fun _=>trivial⟩,fun h1=>⟨fun h2=>by omega,fun _=>trivial⟩⟩)
   have eK:bSel (sNe b []) (Bx b 44 |>.map Eg) []=CW b:=by
    unfold CW;rw[LZ,BS];by_cases hb:b=[]
    · simp[hb]
    · have:(!(b == []))=true:=by simpa using hb
      rw[this,Ad hb];rfl
   have okI:K8 (a++58::b,[58])∧((bNot (BJ (a++58::b,[(58:UInt8)])).2.2)=true→True):=⟨c1,fun _=>trivial⟩;simp only[c2,L2.2,eK,m3,A4,Gn,BQ,i3,f3];by_cases hb:(58:UInt8)∈b
   ·
    obtain⟨c,d,rfl,hc⟩:∃ c d,b=c++58::d∧(58:UInt8) ∉ c:=(Ue b 58).resolve_left (fun hn=>hn hb)
    have e3:Bx (a++58::(c++58::d)) 58=a::c::Bx d 58:=by rw[Qk ha,Qk hc]
    have e1:iNe (lLen (a::c::Bx d 58)) 2=true:=by
     have:=jt d 58;rw[CA,Av,Ar,Ar];simp;omega
    have e4:bOr (!BI (Da a,CW (c++58::d))) (sNe (Dz (Da a,CW (c++58::d))) (a++58::(c++58::d)))=true:=by
     rw[Cj]
     cases hv:BI (Da a,CW (c++58::d)) with
     |false=>rfl
     | true=>
       obtain⟨y,z,g1,g2,g3⟩:=ji _ kl hv
       have:Dz (Da a,CW (c++58::d))≠a++58::(c++58::d):=fun e=>by
        have:=congrArg (List.count (58:UInt8)) (g1.symm.trans e);simp only[List.count_append,List.count_cons_self,List.count_eq_zero.2 g2,List.count_eq_zero.2 g3,List.count_eq_zero.2 ha,List.count_eq_zero.2 hc] at this;omega
       rw[LZ];simpa using this
    simp only[s2,e3,e1,e4,Co];refine⟨⟨s1,fun _=>trivial,fun h=>(by cases h)⟩,⟨c1,fun h=>(by cases h),fun _=>⟨m2,⟨fun _=>⟨p1,L2.1⟩,fun _=>trivial⟩,i2,fun _=>trivial,fun _=>f2⟩⟩,trivial,by simp⟩
   ·
    have e3:Bx (a++58::b) 58=[a,b]:=by rw[Qk ha,Tc hb]
    have e1:iNe (lLen ([a,b]:List (List UInt8))) 2=false:=by rw[CA,Av];rfl
    have g0:lGet ([a,b]:List (List UInt8)) (iNat 0) []=a:=by rw[AL,Aq];rfl
    have g1:lGet ([a,b]:List (List UInt8)) (iNat 1) []=b:=by rw[AL,Aq];rfl
    have L1:=Tj (c:=Iu (a++58::b)) (f:=Iv (a++58::b)) (p:=Sr (a++58::b)) (g:=Eg) (Bx b 44) (by omega) (fun w=>rfl)
     (fun i l=>by simp only[Iu,s2,e3,g1,q2]) (fun i l=>by simp only[Iv,s2,e3,g1,q2]) (fun i l hl hi=>by
      simp only[Sr,s2,e3,g1,q2];simp only[AB,Av,Aq,AE,A3,Cl,Ar,As]
      exact⟨fun h1=>⟨fun _=>⟨⟨by omega,by omega⟩,h1,(Th _).1,GY (by omega)⟩,fun _=>trivial⟩,fun h1=>⟨fun h2=>by omega,fun _=>trivial⟩⟩)
    have e4:bOr (!BI (Da a,CW b)) (sNe (Dz (Da a,CW b)) (a++58::b))=sNe (Dz (Da a,CW b)) (a++58::b):=by
     rw[Cj]
     cases hv:BI (Da a,CW b) with
     |true=>rfl
     | false=>
       have:Dz (Da a,CW b)=[]:=by rw[Wc,hv,A4];exact Co _ _
       rw[this,LZ];simp
    have n0:iNat 0<2:=by rw[Aq];decide
    have n1:iNat 1<2:=by rw[Aq];decide
    simp only[s2,e3,e1,e4,g0,g1,BQ,L1.2,eK,Ar,As];refine⟨⟨s1,fun h=>(by cases h),fun _=>⟨⟨by omega,by omega⟩,n0,m1,⟨⟨by omega,by omega⟩,n1,fun _=>⟨⟨by omega,by omega⟩,n1,q1,L1.1⟩,fun _=>trivial⟩,f1⟩⟩,⟨c1,fun h=>(by cases h),fun _=>⟨m2,⟨fun _=>⟨p1,L2.1⟩,fun _=>trivial⟩,i2,fun _=>trivial,fun _=>f2⟩⟩,trivial,?_⟩;rw[BS];split
    · simp
    · exact kl
end
def Gv(c:List Int×Int×Int):Prop:=0≤c.2.1∧c.2.1≤c.1.length∧c.1.length≤1048576
theorem RB(x:Int):0≤iAnd .i64 x 255∧iAnd .i64 x 255≤255:=by
 rw[RJ]
 have h:(BitVec.ofInt IntKind.i64.bits x &&& BitVec.ofInt IntKind.i64.bits 255).toNat≤255:=by
  rw[BitVec.toNat_and];exact Nat.and_le_right
 have:IntKind.i64.wrap ((BitVec.ofInt IntKind.i64.bits x &&& BitVec.ofInt IntKind.i64.bits 255).toNat:Int)=((BitVec.ofInt IntKind.i64.bits x &&& BitVec.ofInt IntKind.i64.bits 255).toNat:Int):=JU (by unfold Am;omega);rw[this];omega
theorem Ri(c:List Int×Int×Int)(h:Gv c):GP c∧0≤(Bq c).1∧(Bq c).1≤255∧Gv (c.1,(Bq c).2):=by
 obtain⟨h1,h2,h3⟩:=h;rw[fk,fD];simp only[BS,AB,Av,Aq,A3,Cl];refine⟨⟨by omega,by omega,fun _=>by omega,fun _=>trivial⟩,?_,?_,?_⟩
 · split
   · exact(RB _).1
   · exact(RB _).1
 · split
   · exact(RB _).2
   · exact(RB _).2
 · unfold Gv;simp only;split
   · rw[Az (by unfold Am;omega)];omega
   · omega
theorem TW(c:List Int×Int×Int)(n:Int)(h:Gv c):IG (c,n)∧Gv (c.1,(Bw (c,n)).2)∧(n≤0→(Bw (c,n)).1=0)∧(0<n→0≤(Bw (c,n)).1∧(Bw (c,n)).1<n):=by
 rw[eX,eS];obtain⟨a1,a2,a3,a4⟩:=Ri c h;obtain⟨b1,b2,b3,b4⟩:=Ri _ a4;obtain⟨c1,c2,c3,c4⟩:=Ri _ b4;obtain⟨d1,d2,d3,d4⟩:=Ri _ c4;simp only at b1 b2 b3 b4 c1 c2 c3 c4 d1 d2 d3 d4 ⊢;simp only[BS,B9,A3,Cl];by_cases hn:n≤0
 · simp only[Ab hn];exact⟨⟨fun _=>trivial,fun h=>absurd hn h⟩,h,fun _=>trivial,fun h=>by omega⟩
 · simp only[Ad hn];by_cases hm:n≤256
   · simp only[Ab hm];refine⟨⟨fun h=>absurd h hn,fun _=>⟨fun _=>⟨a1,by omega⟩,fun h=>absurd hm h⟩⟩,a4,fun h=>absurd h hn,fun _=>?_⟩;rw[B3 a2];exact⟨Int.emod_nonneg _ (by omega),Int.emod_lt_of_pos _ (by omega)⟩
   · simp only[Ad hm];refine⟨⟨fun h=>absurd h hn,fun _=>⟨fun h=>absurd h hm,fun _=>⟨a1,b1,c1,d1,by omega⟩⟩⟩,d4,fun h=>absurd h hn,fun _=>?_⟩;generalize (Bq c).1=p at a2 a3;generalize (Bq (c.1,(Bq c).2)).1=q at b2 b3;generalize (Bq (c.1,(Bq (c.1,(Bq c).2)).2)).1=r at c2 c3;generalize (Bq (c.1,(Bq (c.1,(Bq (c.1,(Bq c).2)).2)).2)).1=s at d2 d3;rw[Cf (a:=p) (by unfold Am;omega),Cf (a:=q) (by unfold Am;omega),Cf (a:=r) (by unfold Am;omega),Az (a:=p*16777216) (by unfold Am;omega),Az (a:=p*16777216+q*65536) (by unfold Am;omega),Az (a:=p*16777216+q*65536+r*256) (by unfold Am;omega),B3 (by omega)];exact⟨Int.emod_nonneg _ (by omega),Int.emod_lt_of_pos _ (by omega)⟩
theorem nS(c:List Int×Int×Int)(l:List Int)(hl:0<l.length)(h:Gv c):KT (c,l)∧Gv (c.1,(DP (c,l)).2)∧(DP (c,l)).1∈l:=by
 obtain⟨a1,a2,_,a4⟩:=TW c (lLen l) h;rw[cn,cr];have a4:=a4 (by rw[Av];omega);simp only;generalize (Bw (c,lLen l)).1=i at a4 ⊢;rw[Av] at a4;refine⟨⟨a1,a4,by rw[Aq];omega⟩,a2,?_⟩;rw[AL,Aq];exact YX l _ _ (by omega)
theorem oA(x:List Int)(h:x.length≤1048576):Lg x∧Gv (HQ x)∧(HQ x).1=x:=by
 rw[gz,gD];refine⟨?_,⟨by simp,by simp,h⟩,rfl⟩;refine oM (fun st=>st.2) x.length (by omega) (fun st _ _ hc=>?_) (fun _=>rfl) (fun st h0 h1=>?_) (by simp) (by simp)
 · unfold SP at hc;simp only[Br,AB,Av,Ai,A3] at hc;exact hc.1
 · unfold WI;refine⟨fun hc=>?_,fun _=>trivial⟩;simp only[Br,AB,Av,Ai,A3] at hc;rw[Aq];omega
theorem o0(x:List Int):Lp x=decide (1048576<x.length)∧Qe x:=by
 rw[iC,iH];refine⟨?_,trivial⟩;rw[CU,Av];congr 1;exact propext (by omega)
section
set_option maxRecDepth 20000
theorem mi{m:Int}{K:List Int}{z:Int}(h:RepOk (m,K))(hb:∀ i,i<K.length→K.getD i 0<z)(h1:1≤z)(h2:z≤56):RepOk (m,K++[z]):=by
 have hg:∀ i,i<K.length→(K++[z]).getD i 0=K.getD i 0:=fun i hi=>by
  rw[Bu,Bh hi,← Bu]
 have hz:(K++[z]).getD K.length 0=z:=by
  rw[Bu,Cu (AF _)];simp
 refine⟨h.1,fun i hi=>?_⟩;rw[Ba,Ar,As] at hi;rcases A9 i K.length with hlt|hge
 · rw[hg i hlt,show i-1=i-1 from rfl];refine⟨(h.2 i hlt).1,fun h0=>?_⟩;rw[hg (i-1) (by omega)];exact(h.2 i hlt).2 h0
 · have:i=K.length:=by omega
   subst this;rw[hz];refine⟨⟨h1,h2⟩,fun h0=>?_⟩;rw[hg (K.length-1) (by omega)];exact hb _ (by omega)
theorem nq(c:List Int×Int×Int)(n:Int)(p:Int×Int)(hc:Gv (c.1,p))(hn:n≤8) :
 LoopOk JC (JB c) (Pc c) (0,n,[],p)∧RepOk (0,(Ap JC (JB c) (0,n,[],p)).2.2.1):=by
 have key:=Lx (c:=JC) (f:=JB c) (p:=Pc c)
  (fun st=>∃ (k n:Int) (K:List Int) (p:Int×Int),st=(k,n,K,p)∧Gv (c.1,p)∧0≤k∧k≤70∧n≤8∧RepOk (0,K)∧∀ i,i<K.length→K.getD i 0≤k) (fun st=>st.2.1.toNat) (fun st hI=>?_) (x0:=(0,n,[],p))
  ⟨0,n,[],p,rfl,hc,by omega,by omega,hn,⟨⟨by omega,by omega⟩,fun i hi=>by simp at hi⟩,fun i hi=>by simp at hi⟩
 · obtain⟨k1,⟨k,n,K,p,e,_,_,_,_,hr,_⟩,_⟩:=key
   exact⟨k1,by rw[e];exact hr⟩
 · obtain⟨k,n,K,p,rfl,hc,h0,h1,hn,hr,hb⟩:=hI
   obtain⟨o1,o2,_,o4⟩:=TW (c.1,p) 7 hc;obtain⟨o5,o6⟩:=o4 (by omega);have hl:=hr.len;simp only at hl;refine⟨?_,fun hcc=>?_⟩
   · unfold Pc;refine⟨fun _=>⟨o1,fun _=>GY (by simp only[Ar,As];omega),fun _=>trivial⟩,fun _=>trivial⟩
   · simp only[JC,Br,CU,AB,Ai,A3] at hcc;have e1:iAdd .i64 k 1=k+1:=Az (by unfold Am;omega);have e2:iAdd .i64 (k+1) (Bw ((c.1,p),7)).1=k+1+(Bw ((c.1,p),7)).1:=Az (by unfold Am;omega);have e3:iSub .i64 n 1=n-1:=BD (by unfold Am;omega)
     have bs:∀ {α:Type} (b:Bool) (z:α),bSel b z z=z:=fun b z=>by rw[BS];split<;>rfl
     simp only[JB,e1,e2,e3,bs,B9];by_cases h56:k+1+(Bw ((c.1,p),7)).1≤56
     · rw[Ci h56,Co,Bt];refine⟨⟨_,_,_,_,rfl,o2,by omega,by omega,by omega,mi hr (fun i hi=>by have:=hb i hi;omega) (by omega) h56,fun i hi=>?_⟩,by omega⟩;rw[Ba,Ar,As] at hi;rcases A9 i K.length with hlt|hge
       · rw[Bu,Bh hlt,← Bu];have:=hb i hlt;omega
       · have:i=K.length:=by omega
         subst this;rw[Bu,Cu (AF _)];simp
     · rw[Db h56,BQ];exact⟨⟨_,_,_,_,rfl,o2,by omega,by omega,by omega,hr,fun i hi=>by have:=hb i hi;omega⟩,by omega⟩
theorem WX(x:List Int)(s:Int)(h:x.length≤1048576):MD (x,s)∧RepOk (Ax (x,s)):=by
 obtain⟨n1,n2,n3⟩:=oA x h
 have hc:Gv (IJ (x,s)):=by rw[fL];exact n2
 have ho:Lb (x,s):=by rw[fG];exact n1
 rw[b9,ca];generalize IJ (x,s)=c at hc;obtain⟨p1,p2,p3⟩:=nS c [0,0,2,1,15] (by simp) hc;obtain⟨b1,b2,_,b4⟩:=TW (c.1,(DP (c,[0,0,2,1,15])).2) 9 p2;have b4:=b4 (by omega);obtain⟨l1,l2⟩:=nq c (Bw ((c.1,(DP (c,[0,0,2,1,15])).2),9)).1 _ b2 (by omega);rw[eO,dL];refine⟨⟨ho,p1,b1,l1⟩,⟨?_,l2.2⟩⟩;simp only[BM,List.mem_nil_iff,or_false] at p3;simp only;omega
theorem jB(x:List UInt8):Eg x=if Dk x<56 then (Dk x:Int)+1 else 0:=by
 have hl:Bi.length=56:=rfl;have h56:=U0 x;rw[WL]
 have L1:=DW (c:=HB x) (f:=JG) (p:=JF) (Dk x) (fun k=>(k:Int)+1) (x0:=1) rfl (fun k hk=>by
  have i1:iLe ((k:Int)+1) 56=true:=by rw[B9];exact Ci (by omega)
  have i2:sEq (Bv ((k:Int)+1)) x=false:=by rw[Lk k (by omega),Jb];simpa using Vw x hk
  simp only[HB,JG,JF,i1,i2,Br,A4]
  exact⟨⟨fun _=>(IL _).1,fun h=>(by cases h)⟩,rfl,by rw[Az (by unfold Am;omega)];simp⟩) (by
  simp only[HB,JF,Br,A4];refine⟨⟨fun _=>(IL _).1,fun _=>trivial⟩,?_⟩;rcases A9 (Dk x) 56 with h|h
  · rw[Lk _ h,U8 x h,Jb];simp
  · have i1:iLe ((Dk x:Int)+1) 56=false:=by rw[B9];exact Db (by omega)
    rw[i1];rfl)
 rw[L1.2,B9,BS];rcases A9 (Dk x) 56 with h|h
 · rw[Ab (Ci (by omega)),Ab h]
 · rw[Ad (by simp;omega),Ad (by omega)]
theorem kB:((List.range 56).all fun k=>Bi.findIdx (· == Bi.getD k []) == k)=true:=by kernel_rfl
theorem ib(k:Int)(h1:1≤k)(h2:k≤56):Eg (Bv k)=k:=by
 obtain⟨j,rfl⟩:∃ j:Nat,k=(j:Int)+1:=⟨(k-1).toNat,by omega⟩
 have hj:j<56:=by omega
 have:=Ct.1 kB j (List.mem_range.2 hj)
 have e:Dk (Bi.getD j [])=j:=by unfold Dk;exact eq_of_beq this
 rw[Lk j hj,jB,e,Ab hj]
theorem XW:∀ (l:List (List UInt8)),l≠[]→(∀ w∈l,(44:UInt8) ∉ w)→Bx (Bc l [44]) 44=l
 |[],h,_=>absurd rfl h
 | [a],_,h=>by
   have ha:=h a (by simp)
   have e:Bc [a] [44]=a:=by simp[Bc,List.intercalate]
   rw[e]
   exact Nb a 44 fun b hb=>Sa (c:=44) fun e=>ha (e▸hb)
 | a::b::r,_,h=>by
   have ha:=h a (by simp);have i:=XW (b::r) (by simp) (fun w hw=>h w (by simp[hw]))
   have e:Bc (a::b::r) [44]=a++44::Bc (b::r) [44]:=by simp[Bc,List.intercalate,List.intersperse]
   rw[e,Nn a 44 _ 44 (fun y hy=>Sa (c:=44) fun e=>ha (e▸hy)) rfl,i]
end
def kz(c:List Int):List Int:=(c.filter fun n=>!decide (n=0)).map fun n=>n-3
def D5(c:List Int):Int:=((c.filter fun n=>decide (n=1)).length:Nat)
theorem Zs(c:List Int){i:Nat}(hi:i<c.length):kz (c.take (i+1))=if c.getD i 0=0 then kz (c.take i) else kz (c.take i)++[c.getD i 0-3]:=by
 rw[← JP c 0 hi];generalize c.getD i 0=v;unfold kz;rw[List.filter_append,D3];by_cases h:v=0<;>simp[h]
theorem jR(c:List Int){i:Nat}(hi:i<c.length):D5 (c.take (i+1))=if c.getD i 0=1 then D5 (c.take i)+1 else D5 (c.take i):=by
 rw[← JP c 0 hi];generalize c.getD i 0=v;unfold D5;rw[List.filter_append];by_cases h:v=1<;>simp[h]
theorem Rk(c:List Int):(kz c).length≤c.length:=by
 unfold kz;rw[Bd];exact List.length_filter_le _ _
theorem lJ(c:List Int):0≤D5 c∧D5 c≤c.length:=by
 unfold D5;have:=List.length_filter_le (fun n:Int=>decide (n=1)) c;omega
theorem bB{c:List Int}(h:c.length=6):∃ a0 a1 a2 a3 a4 a5,c=[a0,a1,a2,a3,a4,a5]:=by
 match c,h with
 |[a0,a1,a2,a3,a4,a5],_=>exact⟨a0,a1,a2,a3,a4,a5,rfl⟩
theorem V0(P:Nat→Prop):(∀ i,i<6→P i)↔(P 0∧P 1∧P 2∧P 3∧P 4∧P 5):=by
 constructor
 · intro h;exact⟨h 0 (by omega),h 1 (by omega),h 2 (by omega),h 3 (by omega),h 4 (by omega),h 5 (by omega)⟩
 · rintro⟨h0,h1,h2,h3,h4,h5⟩ i hi
   match i,hi with
   |0,_=>exact h0
   |1,_=>exact h1
   |2,_=>exact h2
   |3,_=>exact h3
   |4,_=>exact h4
   |5,_=>exact h5
def Ih(c:List Int)(i:Nat):Bool:=!decide (c.getD i 0=0)&&(decide (c.getD (i-1) 0=0)&&decide (0<i))
theorem aZ{c:List Int}(h6:c.length=6):(∀ i,i<6→Ih c i=false)↔(∀ i,i<6→c.getD i 0=if i<(kz c).length then (kz c).getD i 0+3 else 0):=by
 obtain⟨a0,a1,a2,a3,a4,a5,rfl⟩:=bB h6;rw[V0,V0];unfold Ih kz;by_cases h0:a0=0<;>by_cases h1:a1=0<;>by_cases h2:a2=0<;>by_cases h3:a3=0<;>by_cases h4:a4=0<;>by_cases h5:a5=0<;>simp[h0,h1,h2,h3,h4,h5]<;>omega
theorem pq{c:List Int}(h6:c.length=6):D5 c=6↔c.all (fun n=>decide (n=1))=true:=by
 unfold D5
 have h:(c.filter fun n=>decide (n=1)).length=c.length↔c.all (fun n=>decide (n=1))=true:=by
  rw[List.length_filter_eq_length_iff,Ct]
 rw[← h,h6];omega
theorem l9(c:List Int){i:Nat}(hi:i<c.length):(c.take (i+1)).all (fun n=>decide (n=1))=((c.take i).all (fun n=>decide (n=1))&&decide (c.getD i 0=1)):=by
 rw[← JP c 0 hi,List.all_append];simp only[D2,N3,Gu]
theorem Yz{c:List Int}(h6:c.length=6)(h:c.all (fun n=>decide (n=1))=true):∀ i,i<6→Ih c i=false:=by
 obtain⟨a0,a1,a2,a3,a4,a5,rfl⟩:=bB h6;simp only[D2,N3,Gu,Ai,A3] at h;obtain⟨rfl,rfl,rfl,rfl,rfl,rfl⟩:=h;rw[V0];decide
theorem mu(b:List Int)(i:Nat):lGet b (iNat ((i+2:Nat):Int)) 0=(b.drop 2).getD i 0:=by
 rw[AL,Aq,AE,Bu,Bu,Gm,Nat.add_comm]
theorem Ya{b:List Int}(hB:Bytes b)(i:Nat):0≤(b.drop 2).getD i 0∧(b.drop 2).getD i 0<256:=by
 obtain⟨n,h1,h2⟩:=hB.get (i+2)
 have e:(b.drop 2).getD i 0=b.getD (i+2) 0:=by rw[Bu,Bu,Gm,Nat.add_comm]
 rw[e,h2];omega
theorem Ye(b:List Int)(last:Int×List Int)(h8:b.length=8)(hB:Bytes b) :
 LoopOk (Ex (b,last)) (Ez (b,last)) (Pg (b,last)) (0,2,[])∧∃ k,k≤6∧Ap (Ex (b,last)) (Ez (b,last)) (0,2,[])=(D5 ((b.drop 2).take k),((k+2:Nat):Int),kz ((b.drop 2).take k))∧(k=6↔∀ i,i<6→Ih (b.drop 2) i=false):=by
 have hc:(b.drop 2).length=6:=by rw[BF];omega
 have gl:=mu b
 have gm:∀ i:Nat,i≤6→0<i→lGet b (iNat (iSub .i64 ((i+2:Nat):Int) 1)) 0=(b.drop 2).getD (i-1) 0:=fun i hi h0=>by
  rw[BD (by unfold Am;omega),show ((i+2:Nat):Int)-1=((i-1+2:Nat):Int) by omega,gl]
 have hb:=Ya hB
 obtain⟨a1,k,hk,a2,a3⟩:=Q5 (c:=Ex (b,last)) (f:=Ez (b,last)) (p:=Pg (b,last)) 6 (fun i=>(D5 ((b.drop 2).take i),((i+2:Nat):Int),kz ((b.drop 2).take i))) (fun i=>!Ih (b.drop 2) i) (x0:=(0,2,[])) rfl
  (fun i hi _=>by
   simp only[Ex,gl,Br,A4,CA,Dq,CU,AB,Ih]
   have e1:decide (((i+2:Nat):Int)<8)=decide (i<6):=by rw[decide_eq_decide];omega
   have e2:decide ((2:Int)<((i+2:Nat):Int))=decide (0<i):=by rw[decide_eq_decide];omega
   rw[e1,e2];by_cases h0:0<i
   · rw[gm i hi h0]
   · rw[Db h0];simp only[Bool.and_false])
  (fun i hi _=>by
   have hb:=hb i;have hcn:=lJ ((b.drop 2).take i);rw[BT] at hcn;simp only[Ez,gl,Dq,CA,BS];rw[Zs _ (by omega),jR _ (by omega),Tv (by unfold Am;omega),BD (by unfold Am;omega),Az (by unfold Am;omega),Az (by unfold Am;omega),Bt];refine Prod.ext ?_ (Prod.ext ?_ ?_)
   · simp only[A3]
   · simp only;omega
   · by_cases h:(b.drop 2).getD i 0=0
     · rw[Ab h,h];simp
     · rw[Ad h];generalize (b.drop 2).getD i 0=v at h ⊢;simp[h])
  (fun i hi _=>by
   have hkl:=Rk ((b.drop 2).take i);rw[BT] at hkl
   have r:∀ v:Int,Aw ((List.length (kz ((b.drop 2).take i))+List.length [v])*1):=fun v=>by unfold Aw;simp only[Ar,As];omega
   have n0:(0:Int)≤((i+2:Nat):Int):=by omega
   simp only[Pg,AB,A3];refine⟨fun h=>?_,fun _=>trivial⟩
   have n1:((i+2:Nat):Int)<(b.length:Int):=by omega
   have n2:iNat ((i+2:Nat):Int)<b.length:=by rw[Aq];omega
   have n3:(0:Int)≤iSub .i64 ((i+2:Nat):Int) 1∧iSub .i64 ((i+2:Nat):Int) 1<(b.length:Int):=by rw[BD (by unfold Am;omega)];omega
   have n4:iNat (iSub .i64 ((i+2:Nat):Int) 1)<b.length:=by rw[Aq];omega
   exact⟨⟨⟨n0,n1⟩,n2⟩,⟨⟨n0,n1⟩,n2,fun _=>⟨⟨n0,n1⟩,n2,r _⟩,fun _=>trivial⟩,⟨n0,n1⟩,n2,fun _=>⟨n3,n4⟩,fun _=>trivial⟩)
 refine⟨a1,k,hk,a2,?_⟩
 rw[a3]
 simp only[Cv]
theorem kZ(b:List Int)(last:Int×List Int)(h8:b.length=8) :
 LoopOk (Iw (b,last)) (Ix (b,last)) (Pe (b,last)) (true,0)∧Ap (Iw (b,last)) (Ix (b,last)) (true,0)=((b.drop 2).all (fun n=>decide (n=1)),(6:Int)):=by
 have hc:(b.drop 2).length=6:=by rw[BF];omega
 have hR:lSub b (iNat 2) (lN b)=b.drop 2:=by
  have e:iNat 2=2:=by rw[Aq];rfl
  rw[BW,B4,e,FL];rw[BF];exact AF _
 have gl:∀ i:Nat,lGet (b.drop 2) (iNat (i:Int)) 0=(b.drop 2).getD i 0:=fun i=>by rw[AL,Aq,AE]
 obtain⟨a1,k,hk,a2,a3⟩:=Q5 (c:=Iw (b,last)) (f:=Ix (b,last)) (p:=Pe (b,last)) 6 (fun i=>(((b.drop 2).take i).all (fun n=>decide (n=1)),(i:Int))) (fun _=>true) (x0:=(true,0)) rfl
  (fun i hi _=>by
   simp only[Iw,hR,AB,Av,hc,Gu]
   rw[decide_eq_decide];omega)
  (fun i hi _=>by
   simp only[Ix,hR,gl,Dq,Br];rw[l9 _ (by omega),Az (by unfold Am;omega)]
   rfl)
  (fun i hi _=>by
   simp only[Pe,hR,AB,Av,A3]
   exact⟨fun h=>⟨⟨by omega,h⟩,by rw[Aq];omega⟩,fun _=>trivial⟩)
 have:k=6:=a3.2 (fun _ _=>rfl)
 subst this
 rw[a2]
 refine⟨a1,?_⟩
 rw[FL (by omega)]
 rfl
theorem kY(b:List Int)(last:Int×List Int)(h8:b.length=8)(hB:Bytes b) :
 LoopOk (Fz (b,last)) (Fy (b,last)) (O7 (b,last)) (0,[])∧Ap (Fz (b,last)) (Fy (b,last)) (0,[])=((6:Int),kz (b.drop 2)):=by
 have hc:(b.drop 2).length=6:=by rw[BF];omega
 have hR:lSub b (iNat 2) (lN b)=b.drop 2:=by
  have e:iNat 2=2:=by rw[Aq];rfl
  rw[BW,B4,e,FL];rw[BF];exact AF _
 have gl:∀ i:Nat,lGet (b.drop 2) (iNat (i:Int)) 0=(b.drop 2).getD i 0:=fun i=>by rw[AL,Aq,AE]
 have hb:=Ya hB
 obtain⟨a1,k,hk,a2,a3⟩:=Q5 (c:=Fz (b,last)) (f:=Fy (b,last)) (p:=O7 (b,last)) 6 (fun i=>((i:Int),kz ((b.drop 2).take i))) (fun _=>true) (x0:=(0,[])) rfl
  (fun i hi _=>by
   simp only[Fz,hR,AB,Av,hc,Gu]
   rw[decide_eq_decide];omega)
  (fun i hi _=>by
   have hb:=hb i;simp only[Fy,hR,gl,CA,BS];rw[Zs _ (by omega),Tv (by unfold Am;omega),BD (by unfold Am;omega),Az (by unfold Am;omega),Bt];refine Prod.ext rfl ?_;by_cases h:(b.drop 2).getD i 0=0
   · rw[Ab h,h];simp
   · rw[Ad h];generalize (b.drop 2).getD i 0=v at h ⊢;simp[h])
  (fun i hi _=>by
   have hkl:=Rk ((b.drop 2).take i);rw[BT] at hkl
   have r:∀ v:Int,Aw ((List.length (kz ((b.drop 2).take i))+List.length [v])*1):=fun v=>by unfold Aw;simp only[Ar,As];omega
   simp only[O7,hR,AB,Av,A3]
   exact⟨fun h=>⟨⟨by omega,h⟩,by rw[Aq];omega,fun _=>r _,fun _=>trivial⟩,fun _=>trivial⟩)
 have:k=6:=a3.2 (fun _ _=>rfl)
 subst this
 rw[a2]
 refine⟨a1,?_⟩
 rw[FL (by omega)]
 rfl
theorem Yp{l:List Int}(h:Bytes l):(rowS l).map (fun u=>(u.toNat:Int))=l:=by
 rw[UT,List.map_map]
 have e:∀ a∈l,((fun u:UInt8=>(u.toNat:Int)) ∘ fun n:Int=>UInt8.ofNat n.toNat) a=a:=fun a ha=>by
  have:=h a ha;show ((UInt8.ofNat a.toNat).toNat:Int)=a;rw[UInt8.toNat_ofNat'];omega
 rw[List.map_congr_left e,List.map_id']
theorem ow{a b:List Int}(ha:Bytes a)(hb:Bytes b):sNe (rowS a) (rowS b)=!decide (a=b):=by
 rw[LZ];congr 1;rw[VM,AU,A3];exact⟨fun h=>by rw[← Yp ha,h,Yp hb],fun h=>by rw[h]⟩
def Dh(m:Int)(K:List Int)(i p:Nat):Int:=if p=0 then m else if 2≤p∧p-2<i∧p-2<K.length then K.getD (p-2) 0+3 else 0
theorem ZQ(l:List Int)(p:Nat)(h:p<l.length):l[p]=l.getD p 0:=by rw[Bu,Ay h];rfl
theorem XF(m:Int)(K:List Int)(hr:RepOk (m,K))(hl:K.length≤6)(hv:Cz (m,K)=true):DN (m,K)=(List.range 8).map (Dh m K 6):=by
 rw[Wk,hv,show bNot true=false from by rw[A4];rfl,BQ];have hm:iConv .u8 m=m:=Rh hr.1.1 (by have:=hr.1.2;simp only at this;omega)
 have h0:lSet (lRep 8 (0:Int)) (iNat 0) m=[m,0,0,0,0,0,0,0]:=by rw[BO,B1,Aq];rfl
 obtain ⟨a1, k,hk,a2,a3⟩:=Q5 (c:=Mx) (f:=KK (m,K)) (p:=fun _=>True) 6 (fun i=>((List.range 8).map (Dh m K i),(i:Int))) (fun _=>true) (x0:=(lSet (lRep 8 (0:Int)) (iNat 0) (iConv .u8 m),0)) (by
  rw[hm,h0];simp[Dh,List.range_succ])
  (fun i hi _=>by
   simp only[Mx,AB,Gu]
   rw[decide_eq_decide];omega)
  (fun i hi _=>by
   simp only[KK,BS,CU,AB,Av,A3]
   have s1:iAdd .i64 (i:Int) 1=((i+1:Nat):Int):=by rw[Az (by unfold Am;omega)];omega
   have s2:iAdd .i64 (i:Int) 2=((i+2:Nat):Int):=by rw[Az (by unfold Am;omega)];omega
   rw[Ad (by omega),s1,s2];refine Prod.ext ?_ rfl
   · simp only;by_cases h:i<K.length
     · have hc:=(hr.2 i h).1;simp only at hc;rw[Ab (by omega),BO,Aq,AL,Aq,AE,AE,Az (by unfold Am;omega),Rh (by omega) (by omega)];refine N0 (by simp) (fun p h1 h2=>?_);rw[List.getElem_set,List.getElem_map,List.getElem_map,List.getElem_range];unfold Dh;by_cases hp:i+2=p
       · subst hp;rw[Ab (by omega),Ad (by omega),Ab ⟨by omega,by omega,by simpa using h⟩];rfl
       · rw[Ad (by omega)];by_cases hp0:p=0
         · rw[Ab hp0,Ab hp0]
         · rw[Ad hp0,Ad hp0]
           have:(2≤p∧p-2<i∧p-2<K.length)↔(2≤p∧p-2<i+1∧p-2<K.length):=by omega
           simp only[this]
     · rw[Ad (by omega)]
       refine List.map_congr_left fun p _=>?_
       unfold Dh
       have:(2≤p∧p-2<i∧p-2<K.length)↔(2≤p∧p-2<i+1∧p-2<K.length):=by omega
       simp only[this])
  (fun _ _ _=>trivial)
 have:k=6:=a3.2 (fun _ _=>rfl);subst this;rw[a2]
theorem nV{b:List Int}(K:List Int)(h8:b.length=8)(h1:b.getD 1 0=0):(List.range 8).map (Dh (b.getD 0 0) K 6)=b↔∀ i,i<6→(b.drop 2).getD i 0=if i<K.length then K.getD i 0+3 else 0:=by
 have hg:∀ i,(b.drop 2).getD i 0=b.getD (i+2) 0:=fun i=>by rw[Bu,Bu,Gm,Nat.add_comm]
 have hx:∀ p,p<8→((List.range 8).map (Dh (b.getD 0 0) K 6)).getD p 0=Dh (b.getD 0 0) K 6 p:=fun p hp=>by
  rw[Bu,EJ,List.getElem?_range hp];rfl
 constructor
 · intro h i hi;have:=hx (i+2) (by omega);rw[h] at this;rw[hg,this];unfold Dh;rw[Ad (by omega)]
   have e:(2≤i+2∧i<6∧i<K.length)↔i<K.length:=by omega
   simp only[Nat.add_sub_cancel,e]
 · intro h;refine N0 (by simp[h8]) (fun p q1 q2=>?_)
   have hp:p<8:=by omega
   rw[ZQ _ p q1,ZQ b p q2,hx p hp];unfold Dh;by_cases hp0:p=0
   · rw[Ab hp0,hp0]
   · rw[Ad hp0];by_cases hp1:p=1
     · subst hp1;rw[Ad (by omega),h1]
     · have e:=h (p-2) (by omega);rw[hg,show p-2+2=p by omega] at e;rw[e]
       have e:(2≤p∧p-2<6∧p-2<K.length)↔p-2<K.length:=by omega
       simp only[e]
theorem XX(m:Int)(K:List Int)(hr:RepOk (m,K)):Bytes ((List.range 8).map (Dh m K 6)):=by
 intro a ha;obtain⟨p,_,rfl⟩:=List.mem_map.1 ha;unfold Dh;have h1:=hr.1;simp only at h1;by_cases hp:p=0
 · rw[Ab hp];omega
 · rw[Ad hp];split
   · rename_i h;have:=(hr.2 (p-2) h.2.2).1;simp only at this;omega
   · omega
theorem iI(l:List Int)(h:l.length≤1048576):PA l∧PN l=lApp [] l:=by
 rw[dR,eB];exact⟨by unfold Aw;omega,by rw[Bt];rfl⟩
theorem gV(b:List Int)(last:Int×List Int)(hB:Bytes b)(hl:last.2.length≤1048576) :
 SJ (b,last)∧Pq (b,last)∧FB (b,last)=KZ (b,last)∧(KZ (b,last)).1.2.length≤1048576:=by
 rw[c9,dV,Wv,dF]
 obtain⟨i1,i2,i3,_⟩:=F7 last hl
 obtain⟨u1,u2⟩:=iI last.2 hl
 have la:lApp ([]:List Int) last.2=last.2:=by rw[Bt];rfl
 rw[la] at u2
 have bt:∀ a,bOr true a=true:=fun a=>by rw[Cj];rfl
 simp only[i1,i2,i3,u1,u2]
 by_cases h8:b.length=8
 · have t:iNe (lLen b) 8=false:=by rw[CA,Av,h8];rfl
   have g0:lGet b (iNat 0) 0=b.getD 0 0:=by rw[AL,Aq];rfl
   have g1:lGet b (iNat 1) 0=b.getD 1 0:=by rw[AL,Aq];rfl
   have c0:iConv .i64 (b.getD 0 0)=b.getD 0 0:=by
    obtain⟨n,h1,h2⟩:=hB.get 0;rw[h2,B0 (by omega) (by omega)]
   obtain⟨s1,k,hk,s2,s3⟩:=Ye b last h8 hB;obtain⟨o1,o2⟩:=kZ b last h8;obtain⟨q1,q2⟩:=kY b last h8 hB
   have hc:(b.drop 2).length=6:=by rw[BF];omega
   have hK:=Rk (b.drop 2);have hKk:=Rk ((b.drop 2).take k);rw[BT] at hKk;obtain⟨j1,j2,j3,j4⟩:=F7 (b.getD 0 0,kz (b.drop 2)) (by simp only;omega);obtain⟨k1,_,_,_⟩:=F7 (b.getD 0 0,kz ((b.drop 2).take k)) (by simp only;omega);obtain⟨_,l2,_,_⟩:=SU (b.getD 0 0,kz (b.drop 2)) (by simp only;omega)
   have n0:(0:Int)<(b.length:Int):=by omega
   have n1:(1:Int)<(b.length:Int):=by omega
   have n2:iNat 0<b.length:=by rw[Aq];omega
   have n3:iNat 1<b.length:=by rw[Aq];omega
   have n4:iNat 2≤lN b:=by rw[Aq,B4];omega
   have n5:lN b≤b.length:=by rw[B4];exact AF _
   have n6:0<b.length:=by omega
   have r:Aw ((List.length ([]:List Int)+List.length last.2)*1):=by unfold Aw;simp only[As];omega
   have r':Aw (List.length last.2*1):=by unfold Aw;omega
   have r'':Aw (List.length last.2):=by unfold Aw;omega
   simp only[t,g0,g1,c0,s1,s2,o1,o2,q1,q2,j1,j2,j3,k1,l2,n0,n1,n2,n3,n4,n5,n6,r,r',r'',la];generalize hG:bOr false (bOr (iGt (b.getD 0 0) 15) (bOr (iNe (b.getD 1 0) 0) (bNot (BI last))))=G
   cases G with
   |true=>simp[Co]
   | false =>
     simp only[Cj,CA,C7,Gw,A3,A4] at hG;have h1:b.getD 1 0=0:=hG.2.2.1;refine⟨by simp,by simp,?_⟩;rw[BQ,BQ]
     have hsn:BI (b.getD 0 0,kz (b.drop 2))=true→sNe (rowS (DN (b.getD 0 0,kz (b.drop 2)))) (rowS b)=!decide (k=6):=fun hv=>by
      have hr:=j4.1 hv;rw[XF _ _ hr (by omega) (by rw[j3];exact hv),ow (XX _ _ hr) hB];congr 1;rw[decide_eq_decide,nV _ h8 h1,← aZ hc,s3]
     by_cases hk6:k=6
     · subst hk6;have hno:=s3.1 rfl
       have e8:iLt ((6+2:Nat):Int) 8=false:=by rw[AB];rfl
       rw[FL (by omega),e8,BQ];have ho:=pq hc
       cases ha:(b.drop 2).all (fun n=>decide (n=1)) with
       | true=>
         rw[Dq,Ci (ho.2 ha),Co,Co];exact⟨rfl,by simp only[Bt,Cs];exact hl⟩
       | false=>
         rw[Dq,Db (fun h=>by rw[ho.1 h] at ha;cases ha),BQ,BQ]
         cases hv:BI (b.getD 0 0,kz (b.drop 2)) with
         |false=>simp[A4,Cj,Co]
         | true=>
           rw[hsn hv,Ci rfl];simp only[A4,Cj,Gn,Bool.or_false,BQ];exact⟨trivial,by omega⟩
     · have hno:¬ (∀ i,i<6→Ih (b.drop 2) i=false):=fun h=>hk6 (s3.2 h)
       have e8:iLt ((k+2:Nat):Int) 8=true:=by rw[AB];exact Ci (by omega)
       rw[e8,Co]
       cases ha:(b.drop 2).all (fun n=>decide (n=1)) with
       |true=>exact absurd (Yz hc ha) hno
       | false=>
         rw[BQ]
         cases hv:BI (b.getD 0 0,kz (b.drop 2)) with
         |false=>simp[A4,Cj,Co]
         | true=>
           rw[hsn hv,Db hk6];simp[A4,Cj,Co]
 · have t:iNe (lLen b) 8=true:=by rw[CA,Av,Db (by omega)];rfl
   simp only[t,bt,Co];simp
section
set_option maxRecDepth 20000
theorem lQ{b j:Nat}(hb:b<256)(hj:j<8):iEq (iAnd .i64 (iShr .i64 (iConv .i64 (b:Int)) (j:Int)) 1) 1=b.testBit j:=by
 have h:b / 2^j≤b:=Nat.div_le_self _ _;have e:iAnd .i64 ((b / 2^j:Nat):Int) 1=((b / 2^j &&& 1:Nat):Int):=Uq (b:=1) (by omega) (by omega);rw[B0 (by omega) (by omega),UA _ _ (by omega),e,Dq,Nat.and_one_is_mod,Nat.testBit_eq_decide_div_mod_eq];exact decide_eq_decide.2 (by omega)
def Ha(o:List Int)(z:Nat):Bool:=(o.getD (1+z / 8) 0).toNat.testBit (z % 8)
theorem h9(x:List Int)(hx:Bytes x)(hl:x.length=8)(h0:x.getD 0 0≤15):K4 x=((x.getD 0 0,((List.range 56).filter (Ha x)).map fun(z:Nat)=>(z:Int)+1),true):=by
 have e1:iNe (lLen x) 8=false:=by rw[CA,Av,hl];rfl
 obtain⟨b0,hb0,g0⟩:=hx.get 0
 have e2:iConv .i64 (lGet x (iNat 0) 0)=x.getD 0 0:=by rw[AL,Aq];show iConv .i64 (x.getD 0 0)=x.getD 0 0;rw[g0,B0 (by omega) (by omega)]
 have e3:iGt (x.getD 0 0) 15=false:=by rw[CU];exact Db (by omega)
 have L:=DW (c:=GM) (f:=Hz x) (p:=fun _=>True) 56 (fun k=>((k:Int),((List.range k).filter (Ha x)).map fun(z:Nat)=>(z:Int)+1)) (x0:=(0,[])) rfl (fun k hk=>by
  have s1:iAdd .i64 (k:Int) 1=(k:Int)+1:=Az (by unfold Am;omega)
  have s2:iAdd .i64 1 (iQuo .i64 (k:Int) 8)=((1+k / 8:Nat):Int):=by rw[B7 (by omega) (by unfold Am;omega),Az (by unfold Am;omega)];omega
  have s4:iRem (k:Int) 8=((k % 8:Nat):Int):=by rw[B3 (by omega)];omega
  obtain⟨b,hb,g⟩:=hx.get (1+k / 8)
  have s6:iEq (iAnd .i64 (iShr .i64 (iConv .i64 (lGet x (iNat ((1+k / 8:Nat):Int)) 0)) ((k % 8:Nat):Int)) 1) 1=Ha x k:=by
   rw[AL,Aq,AE];unfold Ha;rw[g,lQ hb (FM _ (by omega)),AE]
  refine⟨trivial,by unfold GM;rw[AB];exact Ci (by simp only;omega),?_⟩;simp only[Hz,s1,s2,s4,s6,Bt,BS];rw[List.range_succ,List.filter_append,D3]
  cases hB:Ha x k<;>simp[hB]) ⟨trivial,by unfold GM;rw[AB];rfl⟩
 rw[WA,e1,e2,e3,Cj,L.2];exact BQ _ _
theorem gM(m:Int)(K:List Int)(hr:RepOk (m,K)):∃ o,JH (m,K)=o∧o.length=8∧Bytes o∧o.getD 0 0=m∧∀ z,z<56→Ha o z=decide (((z:Int)+1)∈K):=by
 have hlen:=hr.len;simp only at hlen;obtain⟨_,_,_,a4⟩:=F7 (m,K) (by simp only;omega);have hv:=a4.2 hr;have hm:=hr.1;simp only at hm
 have e0:lSet (lRep 8 (0:Int)) (iNat 0) (iConv .u8 m)=[m,0,0,0,0,0,0,0]:=by rw[BO,B1,Aq,Rh (by omega) (by omega)];rfl
 rw[Wy,hv,A4];simp only[Gn,BQ,e0]
 have key:=je (c:=Hy (m,K)) (f:=Iy (m,K)) (fun st=>∃ (o:List Int) (k:Nat),st=(o,(k:Int))∧k≤K.length∧o.length=8∧Bytes o∧o.getD 0 0=m∧∀ z,z<56→Ha o z=decide (((z:Int)+1)∈K.take k))
  (fun st=>K.length-st.2.toNat) (fun st hI hc=>?_) (x0:=([m,0,0,0,0,0,0,0],0)) ⟨[m,0,0,0,0,0,0,0],0,rfl,Ff _,rfl,fun a ha=>by
   simp only[BM,List.mem_nil_iff,or_false] at ha;omega,rfl,fun z hz=>by
   have:z / 8<7:=by omega
   have e:([m,0,0,0,0,0,0,0]:List Int).getD (1+z / 8) 0=0:=by
    rcases (show z / 8=0∨z / 8=1∨z / 8=2∨z / 8=3∨z / 8=4∨z / 8=5∨z / 8=6 by omega) with h|h|h|h|h|h|h<;>rw[h]<;>rfl
   unfold Ha
   rw[e];simp⟩
 · obtain⟨⟨o,k,e,hk,h1,h2,h3,h4⟩,hc⟩:=key;rw[e] at hc ⊢;simp only[Hy,AB,Av,Cl] at hc
   have:k=K.length:=by omega
   subst this;rw[Ke] at h4;exact⟨o,rfl,h1,h2,h3,h4⟩
 · obtain⟨o,k,rfl,hk,h1,h2,h3,h4⟩:=hI;simp only[Hy,AB,Av,A3] at hc
   have hk:k<K.length:=by omega
   have hcd:=(hr.2 k hk).1;simp only at hcd;obtain⟨c,hcK⟩:∃ c:Nat,K.getD k 0=(c:Int)+1:=⟨(K.getD k 0-1).toNat,by omega⟩
   have hc56:c<56:=by omega
   obtain⟨b,hb,g⟩:=h2.get (1+c / 8)
   have gk:lGet K (iNat (k:Int)) 0=(c:Int)+1:=by rw[AL,Aq,AE,hcK]
   have s1:iSub .i64 ((c:Int)+1) 1=(c:Int):=by rw[BD (by unfold Am;omega)];omega
   have s2:iNat (iAdd .i64 1 (iQuo .i64 (c:Int) 8))=1+c / 8:=by rw[B7 (by omega) (by unfold Am;omega),Az (by unfold Am;omega),Aq];omega
   have s4:iRem (c:Int) 8=((c % 8:Nat):Int):=by rw[B3 (by omega)];omega
   have hj:c % 8<8:=FM _ (by omega);have hp:2^(c % 8)<256:=G9 (Nat.pow_lt_pow_right (by omega) hj) (by decide)
   have s5:iShl .u8 1 ((c % 8:Nat):Int)=((2^(c % 8):Nat):Int):=by
    have:=oE (a:=1) (k:=c % 8) (by omega) (by omega);rw[Ib] at this;exact this
   have s6:iAdd .i64 (k:Int) 1=((k+1:Nat):Int):=by rw[Az (by unfold Am;omega)];rfl
   have hor:b ||| 2^(c % 8)<256:=Nat.or_lt_two_pow (n:=8) hb hp
   simp only[Iy,gk,s1,s2,s4,s5,s6,AL,BO,g,pT hb hp]
   have gp:∀ i,(o.set (1+c / 8) ((b ||| 2^(c % 8):Nat):Int)).getD i 0=if i=1+c / 8 then ((b ||| 2^(c % 8):Nat):Int) else o.getD i 0:=fun i=>by
    rw[Bu,Fb];by_cases hi:1+c / 8=i
    · subst hi;rw[Ab rfl,Ab (by omega),Ab rfl];rfl
    · rw[Ad hi,Ad (E9 hi),Bu]
   refine⟨⟨_,k+1,rfl,by omega,by rw[List.length_set];exact h1,fun a ha=>?_,?_,fun z hz=>?_⟩,by omega⟩
   · rcases List.mem_or_eq_of_mem_set ha with h|h
     · exact h2 a h
     · subst h;omega
   · rw[gp,Ad (by omega)];exact h3
   · have ht:K.take (k+1)=K.take k++[(c:Int)+1]:=by rw[← JP K 0 hk,hcK]
     have h4z:=h4 z hz;unfold Ha at h4z ⊢;rw[gp,ht];by_cases hz8:z / 8=c / 8
     · rw[hz8] at h4z ⊢;rw[g] at h4z;rw[Ab rfl,AE,Nat.testBit_or,Nat.testBit_two_pow];rw[AE] at h4z;rw[h4z,VM];simp only[B8,A3,CS,List.mem_singleton];constructor
       · rintro(h|h)
         · exact .inl h
         · exact .inr (by omega)
       · rintro(h|h)
         · exact .inl h
         · exact .inr (by omega)
     · rw[Ad (by omega),h4z,decide_eq_decide];simp only[CS,List.mem_singleton];constructor
       · exact .inl
       · rintro(h|h)
         · exact h
         · exact absurd (by omega) hz8
theorem XR:∀ (l1 l2:List Int),l1.Pairwise (· < ·)→l2.Pairwise (· < ·)→(∀ z,z∈l1↔z∈l2)→l1=l2
 |[],[],_,_,_=>rfl
 |[],b::l2,_,_,h=>absurd ((h b).2 (by simp)) (by simp)
 |a::l1,[],_,_,h=>absurd ((h a).1 (by simp)) (by simp)
 | a :: l1,b::l2,h1,h2,h=>by
   rw[List.pairwise_cons] at h1 h2
   have e:a=b:=by
    rcases BM.1 ((h a).1 (by simp)) with e|e
    · exact e
    · rcases BM.1 ((h b).2 (by simp)) with e'|e'
      · exact e'.symm
      · have:=h2.1 a e;have:=h1.1 b e';omega
   subst e;congr 1
   refine XR l1 l2 h1.2 h2.2 fun z=>⟨fun hz=>?_,fun hz=>?_⟩
   · rcases BM.1 ((h z).1 (by simp[hz])) with e|e
     · subst e;have:=h1.1 _ hz;omega
     · exact e
   · rcases BM.1 ((h z).2 (by simp[hz])) with e|e
     · subst e;have:=h2.1 _ hz;omega
     · exact e
theorem jm{m:Int}{K:List Int}(h:RepOk (m,K)):K.Pairwise (· < ·):=by
 have key:∀ d i,i+d+1<K.length→K.getD i 0<K.getD (i+d+1) 0:=by
  intro d
  induction d with
  |zero=>intro i hi;have:=(h.2 (i+1) hi).2 (by omega);simpa using this
  | succ d ih=>
    intro i hi;have h1:=ih i (by omega);have h2:=(h.2 (i+(d+1)+1) hi).2 (by omega);rw[show i+(d+1)+1-1=i+d+1 by omega] at h2;simp only at h2;omega
 rw[List.pairwise_iff_getElem];intro i j hi hj hij;have:=key (j-i-1) i (by omega);rw[show i+(j-i-1)+1=j by omega,Bu,Bu,Ay hi,Ay hj] at this;exact this
theorem jZ(m:Int)(K:List Int)(hr:RepOk (m,K)):K4 (JH (m,K))=((m,K),true)∧Bytes (JH (m,K)):=by
 obtain⟨o,e,h1,h2,h3,h4⟩:=gM m K hr;have hm:=hr.1;simp only at hm;rw[e,h9 o h2 h1 (by omega),h3];refine⟨?_,h2⟩
 have hK:((List.range 56).filter (Ha o)).map (fun(z:Nat)=>(z:Int)+1)=K:=by
  refine XR _ _ ?_ (jm hr) fun z=>?_
  · rw[List.pairwise_map]
    exact((List.pairwise_lt_range).filter _).imp fun h=>by omega
  · rw[List.mem_map];constructor
    · rintro⟨y,hy,rfl⟩;rw[List.mem_filter,List.mem_range] at hy;have:=h4 y hy.1;rw[hy.2] at this;exact of_decide_eq_true this.symm
    · intro hz;obtain⟨i,hi,rfl⟩:=Ji hz;have hb:=(hr.2 i hi).1;simp only[Bu,Ay hi,FD] at hb;refine⟨(K[i]-1).toNat,?_,by omega⟩;rw[List.mem_filter,List.mem_range];refine⟨by omega,?_⟩;rw[h4 _ (by omega)];refine Ci ?_;rw[show (((K[i]-1).toNat:Nat):Int)+1=K[i] by omega];exact hz
 rw[hK]
end
section
set_option maxRecDepth 20000
def FX(m:Nat):Nat→List UInt8
 |0=>[]
 |k+1=>if m.testBit k then FX m k++[([67,83,65,71]:List UInt8).getD k 0] else FX m k
theorem nm{m k:Nat}(hm:m<16)(hk:k<4):V2 (m:Int) k=m.testBit k:=by
 have h:m / 2^k≤m:=Nat.div_le_self _ _;have e:iAnd .i64 ((m / 2^k:Nat):Int) 1=((m / 2^k &&& 1:Nat):Int):=Uq (b:=1) (by omega) (by omega);unfold V2;rw[UA _ _ (by omega),e,Dq,Nat.and_one_is_mod,Nat.testBit_eq_decide_div_mod_eq];exact decide_eq_decide.2 (by omega)
theorem aF{m:Nat}(hm:m<16):∀ k,k≤4→fm (m:Int) k=FX m k
 |0,_=>rfl
 | k+1,h=>by
   unfold fm FX
   rw[nm hm (by omega),aF hm k (by omega)]
theorem TM{m:Nat}(hm:m<16):CZ (m:Int)=FX m 4:=by
 rw[(TV _).2.2.2];split
 · exact aF hm 4 (AF _)
 · have:m=0:=by omega
   subst this;rfl
theorem nc:∀ a,a<16→∀ b,b<16→FX a 4=FX b 4→a=b:=by decide
theorem fC{m:Nat}(hm:m<16):Da (CZ (m:Int))=(m:Int):=by
 rw[TM hm,Wo]
 have L:=DW (c:=FY (FX m 4)) (f:=Hv) (p:=fun _=>True) (if m=0 then 15 else m-1) (fun k=>(k:Int)+1) (x0:=1) rfl (fun k hk=>by
  have hk15:k+1<16:=by split at hk<;>omega
  have hne:k+1≠m:=by split at hk<;>omega
  have i1:iLe ((k:Int)+1) 15=true:=by rw[B9];exact Ci (by omega)
  have e:CZ ((k:Int)+1)=FX (k+1) 4:=TM (m:=k+1) hk15
  have i2:sEq (CZ ((k:Int)+1)) (FX m 4)=false:=by
   rw[e,Jb]
   have:FX (k+1) 4≠FX m 4:=fun h=>hne (nc _ hk15 _ hm h)
   simpa using this
  refine⟨trivial,by simp only[FY,i1,i2,Br,A4];rfl,?_⟩;unfold Hv
  rw[Az (by unfold Am;omega)];simp) ⟨trivial,by
  by_cases h0:m=0
  · subst h0;simp only[FY,Br,AQ]
    have i1:iLe (((15:Nat):Int)+1) 15=false:=by rw[B9];rfl
    rw[i1];rfl
  · simp only[FY,Br,Ad h0]
    have e:((m-1:Nat):Int)+1=(m:Int):=by omega
    rw[e,TM hm,Jb,A4];simp⟩
 rw[L.2,B9,BS];by_cases h0:m=0
 · subst h0;rfl
 · rw[Ad h0,Ab (Ci (by omega))];omega
theorem jz{m:Int}{K:List Int}(hr:RepOk (m,K)):CW (Bc (K.map Bv) [44])=K:=by
 have hk:∀ k∈K,1≤k∧k≤56:=fun k h=>by
  obtain⟨i,hi,rfl⟩:=Ji h;have hb:=(hr.2 i hi).1;simpa only[Bu,Ay hi,FD] using hb
 have hn:∀ k,1≤k→k≤56→Bv k≠[]∧(44:UInt8) ∉ Bv k:=fun k h1 h2=>by
  obtain⟨j,rfl⟩:∃ j:Nat,k=(j:Int)+1:=⟨(k-1).toNat,by omega⟩;rw[Lk j (by omega),Bu,Ay (show j<Bi.length by show j<56;omega)];exact(show ∀ w∈Bi,w≠[]∧(44:UInt8) ∉ w by decide) _ (Dr _)
 cases K with
 |nil=>rfl
 | cons k r=>
   have hs:=XW ((k::r).map Bv) (by simp) (fun w hw=>by
    obtain⟨z,hz,rfl⟩:=List.mem_map.1 hw
    exact(hn z (hk z hz).1 (hk z hz).2).2)
   have hJ:Bc ((k::r).map Bv) [44]≠[]:=fun e=>by
    rw[e] at hs;have:(k::r).map Bv=[[]]:=hs.symm;simp only[BL,Fe] at this;exact(hn k (hk k (by simp)).1 (hk k (by simp)).2).1 this.1
   unfold CW;rw[Ad hJ,hs,List.map_map]
   conv=>rhs;rw[← List.map_id (k::r)]
   exact List.map_congr_left fun z hz=>ib z (hk z hz).1 (hk z hz).2
theorem jI(x:Int×List Int)(hr:RepOk x):MC (Dz x)=(x,true)∧(Dz x).length≤1048576:=by
 obtain⟨m,K⟩:=x;have hlen:=hr.len;have hm:=hr.1;simp only at hlen hm
 have kl:(m,K).2.length≤1048576:=by show K.length≤_;omega
 have hv:=(F7 (m,K) kl).2.2.2.2 hr;have hf:=(Wx (m,K) kl).1;rw[hv,A4,Gn,BQ] at hf;simp only at hf
 have wl:∀ w∈K.map Bv,w.length+([44]:List UInt8).length≤6:=fun w hw=>by
  obtain⟨k,_,rfl⟩:=List.mem_map.1 hw;have:=(IL k).2.2.2;simp only[Ar,As];omega
 have jl:=QX [44] 6 _ wl;rw[Bd] at jl;have jl:(Bc (K.map Bv) [44]).length≤336:=EK jl (Nat.mul_le_mul hlen (AF 6));have m4:=(Ns m).2.2.2
 have hfl:(Dz (m,K)).length≤1048576:=by
  rw[hf];simp only[Ba,Ar,As];omega
 refine⟨?_,hfl⟩
 have hb:(58:UInt8) ∉ Bc (K.map Bv) [44]:=Up (by decide) _ fun w hw=>by
  obtain⟨k,_,rfl⟩:=List.mem_map.1 hw;exact ZE k
 have ha:=Zw m;obtain⟨mn,rfl⟩:∃ n:Nat,m=n:=⟨m.toNat,by omega⟩;have hpm:=fC (m:=mn) (by omega);have hkb:=jz hr
 have ht:Dz ((mn:Int),K)=CZ (mn:Int)++58::Bc (K.map Bv) [44]:=by rw[hf];simp
 generalize hA:CZ (mn:Int)=A at *;generalize hB:Bc (K.map Bv) [44]=B at *;obtain⟨s1,s2⟩:=Nj (A++58::B) 58 (by rw[← ht];exact hfl)
 have hBl:B.length≤1048576:=by omega
 obtain⟨q1,q2⟩:=Nj B 44 hBl;have hL:=Qs B 44
 have e3:Bx (A++58::B) 58=[A,B]:=by rw[Qk ha,Tc hb]
 have e1:iNe (lLen ([A,B]:List (List UInt8))) 2=false:=by rw[CA,Av];rfl
 have g0:lGet ([A,B]:List (List UInt8)) (iNat 0) []=A:=by rw[AL,Aq];rfl
 have g1:lGet ([A,B]:List (List UInt8)) (iNat 1) []=B:=by rw[AL,Aq];rfl
 have L1:=Tj (c:=Iu (A++58::B)) (f:=Iv (A++58::B)) (p:=fun _=>True) (g:=Eg) (Bx B 44) (by omega) (fun w=>rfl)
  (fun i l=>by simp only[Iu,s2,e3,g1,q2]) (fun i l=>by simp only[Iv,s2,e3,g1,q2]) (fun i l _ _=>⟨fun _=>trivial,fun _=>trivial⟩)
 have eK:bSel (sNe B []) (Bx B 44 |>.map Eg) []=CW B:=by
  unfold CW;rw[LZ,BS];by_cases hb:B=[]
  · simp[hb]
  · have:(!(B == []))=true:=by simpa using hb
    rw[this,Ad hb];rfl
 rw[ht,Wd];simp only[s2,e3,e1,g0,g1,BQ,L1.2,eK,hkb,hpm,ht]
 have:sNe (A++58::B) (A++58::B)=false:=by rw[LZ];simp
 rw[this,BQ]
theorem W3(b:List Int)(last:Int×List Int)(h8:b.length=8)(hB:Bytes b)(h0:b.getD 0 0≤15)(h1:b.getD 1 0=0)(hl:BI last=true)(hg:∀ i,i<6→Ih (b.drop 2) i=false) :
 KZ (b,last)=bSel (iEq (D5 (b.drop 2)) 6) ((b.getD 0 0,last.2),true) (bSel (bNot (BI (b.getD 0 0,kz (b.drop 2)))) ((0,[]),false) ((b.getD 0 0,kz (b.drop 2)),true)):=by
 obtain⟨_,k,hk,s2,s3⟩:=Ye b last h8 hB
 have hk6:=s3.2 hg
 subst hk6
 have hc:(b.drop 2).length=6:=by rw[BF];omega
 rw[FL (by omega)] at s2
 have t:iNe (lLen b) 8=false:=by rw[CA,Av,h8];rfl
 have g0:lGet b (iNat 0) 0=b.getD 0 0:=by rw[AL,Aq];rfl
 have g1:lGet b (iNat 1) 0=0:=by rw[AL,Aq];exact h1
 have c0:iConv .i64 (b.getD 0 0)=b.getD 0 0:=by
  obtain⟨n,h1,h2⟩:=hB.get 0;rw[h2,B0 (by omega) (by omega)]
 have t2:iGt (b.getD 0 0) 15=false:=by rw[CU];exact Db (by omega)
 have t3:iNe (0:Int) 0=false:=by rw[CA];rfl
 have e8:iLt ((6+2:Nat):Int) 8=false:=by rw[AB];rfl
 rw[Wv]
 simp only[t,g0,g1,c0,t2,t3,hl,s2,e8,Cj,A4,Gn,Bool.or_false,BQ]
theorem ZB(n:Nat):∀ (K:List Int),(∀ k∈K,1≤k)→kz (K.map (·+3)++List.replicate n 0)=K∧D5 (K.map (·+3)++List.replicate n 0)=0
 |[],_=>by simp[kz,D5,List.filter_replicate]
 | k::r,h=>by
   obtain⟨a,b⟩:=ZB n r (fun z hz=>h z (by simp[hz]))
   have hk:=h k (by simp)
   have d1:decide (k+3=0)=false:=Db (by omega)
   have d2:decide (k+3=1)=false:=Db (by omega)
   unfold kz at a ⊢
   unfold D5 at b ⊢
   simp only[BL,Cn,List.filter_cons,d1,d2,Bool.not_false,AQ,AG,AR,BL]
   refine⟨?_,b⟩
   rw[a];congr 1;omega
theorem jS(m:Int)(K:List Int)(last:Int×List Int)(hr:RepOk (m,K))(hl:BI last=true) :
 KZ (IC (m,K),last)=(((m,if 6<K.length then last.2 else K):Int×List Int),true)∧Bytes (IC (m,K)):=by
 have hlen:=hr.len
 have hm:=hr.1
 simp only at hlen hm
 have kl:(m,K).2.length≤1048576:=by show K.length≤_;omega
 obtain⟨_,_,i3,i4⟩:=F7 (m,K) kl
 have hv:=i4.2 hr
 have hk:∀ k∈K,1≤k∧k≤56:=fun k h=>by
  obtain⟨i,hi,rfl⟩:=Ji h;have hb:=(hr.2 i hi).1;simpa only[Bu,Ay hi,FD] using hb
 by_cases h6:6<K.length
 · rw[Ab h6]
   have eb:IC (m,K)=[m,0,1,1,1,1,1,1]:=by
    have g6:iGt (lLen K) 6=true:=by rw[CU,Av];exact Ci (by omega)
    have L:=DW (c:=Hu) (f:=Hw (m,K)) (p:=fun _=>True) 6 (fun k=>(m::0::(List.replicate k 1++List.replicate (6-k) 0),(k:Int))) (x0:=([m,0,0,0,0,0,0,0],0)) rfl (fun k hk=>by
     have e2:iNat (iAdd .i64 2 (k:Int))=2+k:=by rw[Az (by unfold Am;omega),Aq];omega
     have e1:iAdd .i64 (k:Int) 1=((k+1:Nat):Int):=by rw[Az (by unfold Am;omega)];rfl
     refine⟨trivial,by unfold Hu;rw[AB];exact Ci (by omega),?_⟩;simp only[Hw,g6,Co,e1,e2,BO]
     rcases (show k=0∨k=1∨k=2∨k=3∨k=4∨k=5 by omega) with rfl|rfl|rfl|rfl|rfl|rfl<;>rfl) ⟨trivial,by unfold Hu;rw[AB];rfl⟩
    rw[Wl,hv,A4];simp only[Gn,BQ];rw[Rh (by omega) (by omega),L.2];rfl
   have hB:Bytes [m,0,1,1,1,1,1,1]:=fun a ha=>by
    simp only[BM,List.mem_nil_iff,or_false] at ha;omega
   rw[eb];refine⟨?_,hB⟩;rw[W3 _ last rfl hB hm.2 rfl hl (Yz rfl rfl)]
   have:iEq (D5 (List.drop 2 [m,0,1,1,1,1,1,1])) 6=true:=by rw[Dq];rfl
   rw[this,Co];rfl
 · rw[Ad h6]
   have eb:IC (m,K)=(List.range 8).map (Dh m K 6):=by
    rw[← (SU (m,K) kl).2.2.1];exact XF m K hr (by omega) (by rw[i3];exact hv)
   have hB:=XX m K hr
   have hd:((List.range 8).map (Dh m K 6)).drop 2=K.map (·+3)++List.replicate (6-K.length) 0:=by
    apply N0
    · simp;omega
    · intro i h1 h2;rw[List.getElem_drop,List.getElem_map,List.getElem_range,List.getElem_append];simp only[BF,Bd,List.length_range] at h1;unfold Dh;rw[Ad (by omega)];by_cases hi:i<K.length
      · rw[Ab ⟨by omega,by omega,by omega⟩,dif_pos (by simpa using hi),List.getElem_map,show 2+i-2=i by omega,Bu,Ay hi];rfl
      · rw[Ad (by omega),dif_neg (by simpa using hi),List.getElem_replicate]
   obtain⟨z1,z2⟩:=ZB (6-K.length) K (fun k h=>(hk k h).1);rw[eb];refine⟨?_,hB⟩
   have hg:∀ i,i<6→Ih (((List.range 8).map (Dh m K 6)).drop 2) i=false:=(aZ (by simp)).2 fun i hi=>by
    rw[hd,z1,Bu];by_cases hlt:i<K.length
    · rw[Ab hlt,Bh (by simpa using hlt),EJ,Ay hlt,Bu,Ay hlt];rfl
    · rw[Ad hlt,Cu (by simp;omega),List.getElem?_replicate];split<;>rfl
   rw[W3 _ last (by simp) hB (by show Dh m K 6 0≤15;exact hm.2) (by show Dh m K 6 1=0;rfl) hl hg,hd,z1,z2];have e0:((List.range 8).map (Dh m K 6)).getD 0 0=m:=rfl
   have:iEq (0:Int) 6=false:=by rw[Dq];rfl
   rw[e0,this,BQ,hv,A4];exact BQ _ _
theorem fZ(l:List Int)(h:l.length≤1048576):Ps (l,l)∧PI (l,l)=true:=by
 have e1:iNe (lLen l) (lLen l)=false:=by rw[CA];simp
 have key:∀ {p:Int→Prop},(∀ k:Nat,p (k:Int))→LoopOk (fun x0=>bAnd (iLt x0 (lLen l)) (bNot (iNe (lGet l (iNat x0) 0) (lGet l (iNat x0) 0)))) (fun x0=>iAdd .i64 x0 1) p 0∧Ap (fun x0=>bAnd (iLt x0 (lLen l)) (bNot (iNe (lGet l (iNat x0) 0) (lGet l (iNat x0) 0)))) (fun x0=>iAdd .i64 x0 1) 0=(l.length:Int):=fun hp=>
  DW l.length (fun k=>(k:Int)) rfl (fun k hk=>⟨hp k,by simp only[Br,A4,CA,AB,Av];simp;omega,by rw[Az (by unfold Am;omega)];rfl⟩) ⟨hp _,by simp only[Br,AB,Av];simp⟩
 rw[dQ,dD];refine⟨⟨fun _=>trivial,fun _=>(key fun k=>?_).1⟩,?_⟩
 · simp only[AB,Av,Aq,AE,A3,Cl];exact⟨fun h=>⟨⟨by omega,by omega⟩,by omega,⟨by omega,by omega⟩,by omega⟩,fun _=>trivial⟩
 · rw[(key (p:=fun _=>True) fun _=>trivial).2,e1,Br,A4,A4,AB,Av];simp
theorem Yg(r:Int×List Int)(h:r.2.length≤1048576):JD (r,r)∧ET (r,r)=true:=by
 obtain⟨a,b⟩:=fZ r.2 h
 have e:iEq r.1 r.1=true:=by rw[Dq];simp
 rw[b6,ck];simp only[e,a,b,Br];exact⟨⟨fun _=>trivial,fun h=>(by cases h)⟩,rfl⟩
theorem fh(x:List Int)(hw:TuX.wf FA.h x):Pm x∧Pv x=true:=by
 obtain⟨b1,b2⟩:=o0 x;rw[cR,cx,b1];by_cases hx:x.length≤1048576
 · rw[Db (by omega)];obtain⟨m1,m2⟩:=WX x 12 hx;obtain⟨l1,l2⟩:=WX x 13 hx;generalize Ax (x,12)=r at *;generalize Ax (x,13)=last at *
   have rl:r.2.length≤1048576:=by have:=m2.len;omega
   have ll:last.2.length≤1048576:=by have:=l2.len;omega
   have hlv:=(F7 last ll).2.2.2.2 l2;obtain⟨f1,f2,f3⟩:=Wt r rl;obtain⟨p1,p2⟩:=jI r m2;obtain⟨p3,p4,p5,_⟩:=eP _ p2;obtain⟨q1,q2,q3,_⟩:=gP r rl;obtain⟨q4,q5⟩:=jZ r.1 r.2 m2;obtain⟨_,q6,q7,_⟩:=gS _ q5;obtain⟨t1,t2,t3,_⟩:=SU r rl;obtain⟨t4,t5⟩:=jS r.1 r.2 last m2 hlv;obtain⟨_,t6,t7,_⟩:=gV _ last t5 ll;have e:(r.1,r.2)=r:=rfl;rw[e] at q4 q5 q6 q7 t4 t5 t6 t7;obtain⟨s1,s2⟩:=Yg r rl;have sl:(r.1,last.2).2.length≤1048576:=ll;obtain⟨s3,s4⟩:=Yg (r.1,last.2) sl;rw[f3,p5,p1,q3,q7,q4,t3,t7,t4];simp only[m1,l1,f2,p4,q2,q6,t2,t6,s1,s2,b2,A4,Cj,Br,CU,Av];by_cases h6:6<r.2.length
   · simp only[Ab h6,s3,s4]
     have:(6:Int)<(r.2.length:Int):=by omega
     simp[this,BS]
   · simp only[Ad h6]
     have:¬ (6:Int)<(r.2.length:Int):=by omega
     simp[this,BS,s1,s2]
 · rw[Ci (by omega)];simp[Cj,b2]
end
end
end Go.Ag
