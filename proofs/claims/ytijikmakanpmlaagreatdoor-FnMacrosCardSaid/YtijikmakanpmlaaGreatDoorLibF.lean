/- Part 6 of what FnMacros needs. No conditions. -/
import Derived.Sort.Row
import Derived.Test.YtijikmakanpmlaaGreatDoorLibE
namespace Go.Ag
set_option linter.unusedSimpArgs false
set_option linter.unusedVariables false
noncomputable section
section
set_option maxRecDepth 8000
def nG:DCode:=(.seq [0] (.region [oa 0 2 (.mv (.c (.str [])))]) (.seq [0] (.seq [8,0] (.region [om 0 3 0,oa 1 4 (.bin .lss (.t 3) (.c (.int .i64 1))),om 2 5 4,og 3 6 (.mv (.t 0)) 5 false,og 4 7 (.bin .gtr (.t 6) (.c (.int .i64 56))) 5 false,oa 5 8 (.pick (.t 5) (.c (.bool true)) (.t 7))]) (.cond (.t 8) (.seq [2] (.region [oa 0 2 (.mv (.c (.str [])))]) .ret) .skip)) (.seq [2] (.region [oc 0 9 LF Nk WB [(.c (.str [97,32,98,32,99,32,100,32,101,32,102,32,103,32,104,32,105,32,106,32,107,32,108,32,109,32,110,32,111,32,112,32,113,32,114,32,115,32,116,32,117,32,118,32,119,32,120,32,121,32,122,32,49,32,50,32,51,32,52,32,53,32,54,32,55,32,56,32,57,32,48,32,101,110,116,101,114,32,101,115,99,32,98,97,99,107,32,116,97,98,32,115,112,97,99,101,32,109,105,110,117,115,32,101,113,117,97,108,32,108,101,102,116,32,114,105,103,104,116,32,117,112,32,100,111,119,110,32,102,49,32,102,50,32,102,51,32,102,52,32,102,53,32,102,54,32,102,55,32,102,56,32,102,57])),(.c (.str [32]))],om 1 10 0,oa 2 11 (.bin .sub (.t 10) (.c (.int .i64 1))),oa 3 12 (.indexA 1 (.t 9) (.t 11)),ob 4 13 (.loadH none (.t 12)),om 5 2 13]) .ret)))
def EW:Fn:=⟨⟨1,14,0,true,[.tmp 2],nG⟩,[.one .frz (.int .i64)],.one (.one .own (.str))⟩
theorem SD:EW.A:=Bp ⟨bF,trivial⟩
def H9:Int→List UInt8:=EW.V
def Lx:Int→Prop:=EW.O
theorem SB:EW.B:=Bq ⟨bG,trivial⟩ (by kernel_rfl) (fun x=>by kernel_rfl)
def mM:DCode:=(.seq [0] (.region [oa 0 2 (.mv (.c (.str [])))]) (.seq [0] (.seq [11,0] (.region [om 0 6 0,oa 1 7 (.bin .lss (.t 6) (.c (.int .i64 1))),om 2 8 7,og 3 9 (.mv (.t 0)) 8 false,og 4 10 (.bin .gtr (.t 9) (.c (.int .i64 15))) 8 false,oa 5 11 (.pick (.t 8) (.c (.bool true)) (.t 10))]) (.cond (.t 11) (.seq [2] (.region [oa 0 2 (.mv (.c (.str [])))]) .ret) .skip)) (.seq [3,0] (.region [oa 0 3 (.mv (.c (.str [])))]) (.seq [3] (.seq [14,13,12,3,0] (.region [⟨0,some 12,.a false (.litSlice 1 4 [(.str []),(.str []),(.str []),(.str [])] [(0,1,(.c (.str [67]))),(1,1,(.c (.str [83]))),(2,1,(.c (.str [65]))),(3,1,(.c (.str [71])))]) (some (.one (.str))),none,[]⟩,oa 1 13 (.len (.t 12)),oi 2 14 0]) (.block 0 (.loop [0,3,12,13,14] 1 (.seq [15,14,13,12,3,0] (.region [oa 0 15 (.bin .lss (.t 14) (.t 13))]) (.seq [14,13,12,3,0] (.cond (.t 15) .skip (.exit 0)) (.seq [14,13,12,3,0] (.block 1 (.seq [14,13,12,5,4,3,0] (.region [om 0 16 14,oa 1 17 (.indexA 1 (.t 12) (.t 14)),oa 2 18 (.loadH none (.t 17)),om 3 4 16,om 4 5 18]) (.seq [22,14,13,12,5,3,0] (.region [om 0 19 0,om 1 20 4,oF 2 21 FO [(.t 19),(.t 20)],oa 3 22 (.bin .eql (.t 21) (.c (.int .i64 1)))]) (.cond (.t 22) (.region [om 0 23 3,om 1 24 5,oa 2 25 (.bin .add (.t 23) (.t 24)),om 3 3 25]) .skip)))) (.region [oa 0 26 (.bin .add (.t 14) (.c (.int .i64 1))),om 1 14 26]))))))) (.seq [2] (.region [om 0 27 3,om 1 2 27]) .ret)))))
def ET:Fn:=⟨⟨1,28,0,true,[.tmp 2],mM⟩,[.one .frz (.int .i64)],.one (.one .own (.str))⟩
theorem R9:ET.A:=Bp ⟨eS,trivial⟩
def FG:Int→List UInt8:=ET.V
def Ke:Int→Prop:=ET.O
theorem RY:ET.B:=Bq ⟨eF,trivial⟩ (by kernel_rfl) (fun x=>by kernel_rfl)
def n7:DCode:=(.seq [1,0] (.region [oa 0 4 (.mv (.c (.str [])))]) (.seq [4] (.region [on 0 5 0,om 1 6 1,oc 2 7 PC Pz di [(.t 5),(.t 6)],om 3 4 7]) .ret))
def Jo:Fn:=⟨⟨2,8,0,true,[.tmp 4],n7⟩,[.one .frz (.sl (.one (.str))),.one .frz (.str)],.one (.one .own (.str))⟩
theorem nN:Jo.A:=Bp ⟨oV,trivial⟩
def SN:List (List UInt8)×List UInt8→List UInt8:=Jo.V
def Sq:List (List UInt8)×List UInt8→Prop:=Jo.O
theorem nO:Jo.B:=Bq ⟨o9,trivial⟩ (by kernel_rfl) (fun x=>by kernel_rfl)
end
section
set_option maxRecDepth 100000
def O4(x:List UInt8×Int)(x0:((List (List UInt8))×(Int×Int))):Bool:=(iLe x0.2.2 (lLen x.1))
def RR(x:List UInt8×Int)(x0:((List (List UInt8))×(Int×Int))):((List (List UInt8))×(Int×Int)):=((bSel (bOr (iEq x0.2.2 (lLen x.1)) (iEq (sGet x.1 x0.2.2) x.2)) (lApp x0.1 [(lSub x.1 (iNat x0.2.1) (iNat x0.2.2))]) x0.1),(bSel (bOr (iEq x0.2.2 (lLen x.1)) (iEq (sGet x.1 x0.2.2) x.2)) (iAdd .i64 x0.2.2 1) x0.2.1),(iAdd .i64 x0.2.2 1))
def V9(x:List UInt8×Int)(x0:((List (List UInt8))×(Int×Int))):Prop:=(((iLe x0.2.2 (lLen x.1))=true→((((iEq x0.2.2 (lLen x.1))=true→True)∧((iEq x0.2.2 (lLen x.1))=false→(((0:Int)≤x0.2.2)∧(x0.2.2<(((List.length x.1):Int))))))∧(((bOr (iEq x0.2.2 (lLen x.1)) (iEq (sGet x.1 x0.2.2) x.2))=true→(((((0:Int)≤x0.2.1)∧((0:Int)≤x0.2.2))∧(((iNat x0.2.1)≤(iNat x0.2.2))∧((iNat x0.2.2)≤(List.length x.1))))∧(AA (((List.length x0.1)+(List.length [(lSub x.1 (iNat x0.2.1) (iNat x0.2.2))]))*1))))∧((bOr (iEq x0.2.2 (lLen x.1)) (iEq (sGet x.1 x0.2.2) x.2))=false→True))))∧((iLe x0.2.2 (lLen x.1))=false→True))
@[irreducible] def Wy(x:List UInt8×Int):List (List UInt8):=(Al (O4 x) (RR x) ([],0,0)).1
@[irreducible] def Wk(x:List UInt8×Int):Prop:=(LoopOk (O4 x) (RR x) (V9 x) ([],0,0))
@[irreducible] def PB(x:Unit):List (List UInt8):=(Wy ([(97:UInt8),32,98,32,99,32,100,32,101,32,102,32,103,32,104,32,105,32,106,32,107,32,108,32,109,32,110,32,111,32,112,32,113,32,114,32,115,32,116,32,117,32,118,32,119,32,120,32,121,32,122,32,49,32,50,32,51,32,52,32,53,32,54,32,55,32,56,32,57,32,48,32,101,110,116,101,114,32,101,115,99,32,98,97,99,107,32,116,97,98,32,115,112,97,99,101,32,109,105,110,117,115,32,101,113,117,97,108,32,108,101,102,116,32,114,105,103,104,116,32,117,112,32,100,111,119,110,32,102,49,32,102,50,32,102,51,32,102,52,32,102,53,32,102,54,32,102,55,32,102,56,32,102,57],32))
@[irreducible] def WD(x:Unit):Prop:=(Wk ([(97:UInt8),32,98,32,99,32,100,32,101,32,102,32,103,32,104,32,105,32,106,32,107,32,108,32,109,32,110,32,111,32,112,32,113,32,114,32,115,32,116,32,117,32,118,32,119,32,120,32,121,32,122,32,49,32,50,32,51,32,52,32,53,32,54,32,55,32,56,32,57,32,48,32,101,110,116,101,114,32,101,115,99,32,98,97,99,107,32,116,97,98,32,115,112,97,99,101,32,109,105,110,117,115,32,101,113,117,97,108,32,108,101,102,116,32,114,105,103,104,116,32,117,112,32,100,111,119,110,32,102,49,32,102,50,32,102,51,32,102,52,32,102,53,32,102,54,32,102,55,32,102,56,32,102,57],32))
@[irreducible] def Ca(x:Int):List UInt8:=(bSel (bNot (BP (x,1,56))) [] (lGet (PB PUnit.unit) (iNat (iSub .i64 x 1)) []))
@[irreducible] def Lz(x:Int):Prop:=((Gy (x,1,56))∧(((bNot (BP (x,1,56)))=true→True)∧((bNot (BP (x,1,56)))=false→((WD PUnit.unit)∧((((0:Int)≤(iSub .i64 x 1))∧((iSub .i64 x 1)<(((List.length (PB PUnit.unit)):Int))))∧((iNat (iSub .i64 x 1))<(List.length (PB PUnit.unit))))))))
def Lr(x:Int)(x0:((List UInt8)×Int)):Bool:=(bAnd (iLt x0.2 4) (BP (x,1,15)))
def OY(x:Int)(x0:((List UInt8)×Int)):((List UInt8)×Int):=((bSel (iEq (iAnd .i64 (iShr .i64 x x0.2) 1) 1) (sAdd x0.1 (lSub [(67:UInt8),83,65,71] (iNat x0.2) (iNat (iAdd .i64 x0.2 1)))) x0.1),(iAdd .i64 x0.2 1))
def MW(x:Int)(x0:((List UInt8)×Int)):Prop:=((((iLt x0.2 4)=true→(Gy (x,1,15)))∧((iLt x0.2 4)=false→True))∧(((bAnd (iLt x0.2 4) (BP (x,1,15)))=true→(((0:Int)≤x0.2)∧(((iEq (iAnd .i64 (iShr .i64 x x0.2) 1) 1)=true→(((((0:Int)≤x0.2)∧((0:Int)≤(iAdd .i64 x0.2 1)))∧(((iNat x0.2)≤(iNat (iAdd .i64 x0.2 1)))∧((iNat (iAdd .i64 x0.2 1))≤(List.length [(67:UInt8),83,65,71]))))∧(((List.length x0.1)+(List.length (lSub [(67:UInt8),83,65,71] (iNat x0.2) (iNat (iAdd .i64 x0.2 1)))))≤9223372036854775807)))∧((iEq (iAnd .i64 (iShr .i64 x x0.2) 1) 1)=false→True))))∧((bAnd (iLt x0.2 4) (BP (x,1,15)))=false→True)))
@[irreducible] def Cw(x:Int):List UInt8:=(Al (Lr x) (OY x) ([],0)).1
@[irreducible] def Lv(x:Int):Prop:=(LoopOk (Lr x) (OY x) (MW x) ([],0))
def O6(x:List (List UInt8)×List UInt8)(x0:((List Int)×Int)):Bool:=(iLt x0.2 (lLen x.1))
def Sc(x:List (List UInt8)×List UInt8)(x0:((List Int)×Int)):((List Int)×Int):=((lApp (bSel (iGt x0.2 0) (lApp x0.1 (sRow x.2)) x0.1) (sRow (lGet x.1 (iNat x0.2) []))),(iAdd .i64 x0.2 1))
def Se(x:List (List UInt8)×List UInt8)(x0:((List Int)×Int)):Prop:=(((iLt x0.2 (lLen x.1))=true→((((iGt x0.2 0)=true→(AA (((List.length x0.1)+(List.length (sRow x.2)))*1)))∧((iGt x0.2 0)=false→True))∧((((0:Int)≤x0.2)∧(x0.2<(((List.length x.1):Int))))∧(((iNat x0.2)<(List.length x.1))∧(AA (((List.length (bSel (iGt x0.2 0) (lApp x0.1 (sRow x.2)) x0.1))+(List.length (sRow (lGet x.1 (iNat x0.2) []))))*1))))))∧((iLt x0.2 (lLen x.1))=false→True))
@[irreducible] def SJ(x:List (List UInt8)×List UInt8):List UInt8:=(rowS (Al (O6 x) (Sc x) ([],0)).1)
@[irreducible] def Sw(x:List (List UInt8)×List UInt8):Prop:=(LoopOk (O6 x) (Sc x) (Se x) ([],0))
theorem n5 (x):H9 x=(bSel (bOr (iLt x 1) (iGt x 56)) [] (lGet (En ([(97:UInt8),32,98,32,99,32,100,32,101,32,102,32,103,32,104,32,105,32,106,32,107,32,108,32,109,32,110,32,111,32,112,32,113,32,114,32,115,32,116,32,117,32,118,32,119,32,120,32,121,32,122,32,49,32,50,32,51,32,52,32,53,32,54,32,55,32,56,32,57,32,48,32,101,110,116,101,114,32,101,115,99,32,98,97,99,107,32,116,97,98,32,115,112,97,99,101,32,109,105,110,117,115,32,101,113,117,97,108,32,108,101,102,116,32,114,105,103,104,116,32,117,112,32,100,111,119,110,32,102,49,32,102,50,32,102,51,32,102,52,32,102,53,32,102,54,32,102,55,32,102,56,32,102,57],[(32:UInt8)])) (iNat (iSub .i64 x 1)) [])):=(EW.v x).trans (by kernel_rfl)
theorem ot (x):Lx x=(((bOr (iLt x 1) (iGt x 56))=true→True)∧((bOr (iLt x 1) (iGt x 56))=false→((Kk ([(97:UInt8),32,98,32,99,32,100,32,101,32,102,32,103,32,104,32,105,32,106,32,107,32,108,32,109,32,110,32,111,32,112,32,113,32,114,32,115,32,116,32,117,32,118,32,119,32,120,32,121,32,122,32,49,32,50,32,51,32,52,32,53,32,54,32,55,32,56,32,57,32,48,32,101,110,116,101,114,32,101,115,99,32,98,97,99,107,32,116,97,98,32,115,112,97,99,101,32,109,105,110,117,115,32,101,113,117,97,108,32,108,101,102,116,32,114,105,103,104,116,32,117,112,32,100,111,119,110,32,102,49,32,102,50,32,102,51,32,102,52,32,102,53,32,102,54,32,102,55,32,102,56,32,102,57],[(32:UInt8)]))∧((((0:Int)≤(iSub .i64 x 1))∧((iSub .i64 x 1)<(((List.length (En ([(97:UInt8),32,98,32,99,32,100,32,101,32,102,32,103,32,104,32,105,32,106,32,107,32,108,32,109,32,110,32,111,32,112,32,113,32,114,32,115,32,116,32,117,32,118,32,119,32,120,32,121,32,122,32,49,32,50,32,51,32,52,32,53,32,54,32,55,32,56,32,57,32,48,32,101,110,116,101,114,32,101,115,99,32,98,97,99,107,32,116,97,98,32,115,112,97,99,101,32,109,105,110,117,115,32,101,113,117,97,108,32,108,101,102,116,32,114,105,103,104,116,32,117,112,32,100,111,119,110,32,102,49,32,102,50,32,102,51,32,102,52,32,102,53,32,102,54,32,102,55,32,102,56,32,102,57],[(32:UInt8)]))):Int))))∧((iNat (iSub .i64 x 1))<(List.length (En ([(97:UInt8),32,98,32,99,32,100,32,101,32,102,32,103,32,104,32,105,32,106,32,107,32,108,32,109,32,110,32,111,32,112,32,113,32,114,32,115,32,116,32,117,32,118,32,119,32,120,32,121,32,122,32,49,32,50,32,51,32,52,32,53,32,54,32,55,32,56,32,57,32,48,32,101,110,116,101,114,32,101,115,99,32,98,97,99,107,32,116,97,98,32,115,112,97,99,101,32,109,105,110,117,115,32,101,113,117,97,108,32,108,101,102,116,32,114,105,103,104,116,32,117,112,32,100,111,119,110,32,102,49,32,102,50,32,102,51,32,102,52,32,102,53,32,102,54,32,102,55,32,102,56,32,102,57],[(32:UInt8)])))))))):=(EW.o x).trans (by kernel_rfl)
def OZ(x0:((List UInt8)×Int)):Bool:=(iLt x0.2 (lLen [[(67:UInt8)],[(83:UInt8)],[(65:UInt8)],[(71:UInt8)]]))
def RO(x:Int)(x0:((List UInt8)×Int)):((List UInt8)×Int):=((bSel (iEq (E2 (x,x0.2)) 1) (sAdd x0.1 (lGet [[(67:UInt8)],[(83:UInt8)],[(65:UInt8)],[(71:UInt8)]] (iNat x0.2) [])) x0.1),(iAdd .i64 x0.2 1))
def RL(x:Int)(x0:((List UInt8)×Int)):Prop:=(((iLt x0.2 (lLen [[(67:UInt8)],[(83:UInt8)],[(65:UInt8)],[(71:UInt8)]]))=true→((((0:Int)≤x0.2)∧(x0.2<(((List.length [[(67:UInt8)],[(83:UInt8)],[(65:UInt8)],[(71:UInt8)]]):Int))))∧(((iNat x0.2)<(List.length [[(67:UInt8)],[(83:UInt8)],[(65:UInt8)],[(71:UInt8)]]))∧((TS (x,x0.2))∧(((iEq (E2 (x,x0.2)) 1)=true→(((List.length x0.1)+(List.length (lGet [[(67:UInt8)],[(83:UInt8)],[(65:UInt8)],[(71:UInt8)]] (iNat x0.2) [])))≤9223372036854775807))∧((iEq (E2 (x,x0.2)) 1)=false→True))))))∧((iLt x0.2 (lLen [[(67:UInt8)],[(83:UInt8)],[(65:UInt8)],[(71:UInt8)]]))=false→True))
theorem mG (x):FG x=(bSel (bOr (iLt x 1) (iGt x 15)) [] (Al OZ (RO x) ([],0)).1):=(ET.v x).trans (by kernel_rfl)
theorem mI (x):Ke x=(((bOr (iLt x 1) (iGt x 15))=true→True)∧((bOr (iLt x 1) (iGt x 15))=false→(LoopOk OZ (RO x) (RL x) ([],0)))):=(ET.o x).trans (by kernel_rfl)
theorem nU (x):SN x=(Ns x):=(Jo.v x).trans (by kernel_rfl)
theorem nL (x):Sq x=(Ni x):=(Jo.o x).trans (by kernel_rfl)
attribute [irreducible] H9 Lx FG Ke SN Sq
end
section
set_option maxRecDepth 8000
def lX:DCode:=(.seq [1,0] (.region [oa 0 4 (.mv (.c (.str []))),oa 1 5 (.mv (.c (.str []))),oa 2 6 (.mv (.c (.bool false)))]) (.seq [0] (.seq [7,1,0] (.region [om 0 8 0,om 1 9 1,oc 2 10 OW OV aJ [(.t 8),(.t 9)],om 3 7 10]) (.seq [12,7,1,0] (.region [om 0 11 7,oa 1 12 (.bin .geq (.t 11) (.c (.int .i64 0)))]) (.cond (.t 12) (.seq [6,5,4] (.region [om 0 13 0,om 1 14 7,xA 2 15 (.substr (.t 13) none (some (.t 14))) (rg 2),om 3 16 0,om 4 17 7,om 5 18 1,xA 6 19 (.lenT (.t 18)) [5],xA 7 20 (.bin .add (.t 17) (.t 19)) [4,5,6],xA 8 21 (.substr (.t 16) (some (.t 20)) none) [3,4,5,6,7],xA 9 4 (.mv (.t 15)) [0,1,2],xA 10 5 (.mv (.t 21)) (rg 10),xA 11 6 (.mv (.c (.bool true))) (rg 11)]) .ret) .skip))) (.seq [6,5,4] (.region [om 0 22 0,om 1 4 22,oa 2 5 (.mv (.c (.str []))),oa 3 6 (.mv (.c (.bool false)))]) .ret)))
def I3:Fn:=⟨⟨2,23,0,true,[.tmp 4,.tmp 5,.tmp 6],lX⟩,[.one .frz (.str),.one .frz (.str)],.tup [.one .own (.str),.one .own (.str),.one .own (.bool)]⟩
theorem lV:I3.A:=Bp ⟨lS,trivial⟩
def V7:List UInt8×List UInt8→List UInt8×List UInt8×Bool:=I3.V
def V6:List UInt8×List UInt8→Prop:=I3.O
theorem lW:I3.B:=Bq ⟨lR,trivial⟩ (by kernel_rfl) (fun x=>by kernel_rfl)
def pS:DCode:=(.seq [1,0] (.region [oa 0 4 (.mv (.c (.str []))),oa 1 5 (.mv (.c (.str []))),oa 2 6 (.mv (.c (.bool false)))]) (.seq [6,5,4] (.region [om 0 7 0,om 1 8 1,oF 2 9 I3 [(.t 7),(.t 8)],oa 3 10 (.extract (.t 9) 0),oa 4 11 (.extract (.t 9) 1),oa 5 12 (.extract (.t 9) 2),om 6 4 10,om 7 5 11,om 8 6 12]) .ret))
def FM:Fn:=⟨⟨2,13,0,true,[.tmp 4,.tmp 5,.tmp 6],pS⟩,[.one .frz (.str),.one .frz (.str)],.tup [.one .own (.str),.one .own (.str),.one .own (.bool)]⟩
theorem WO:FM.A:=Bp ⟨lV,trivial⟩
def AN:List UInt8×List UInt8→List UInt8×List UInt8×Bool:=FM.V
def Ks:List UInt8×List UInt8→Prop:=FM.O
theorem WN:FM.B:=Bq ⟨lW,trivial⟩ (by kernel_rfl) (fun x=>by kernel_rfl)
def mV:DCode:=(.seq [0] (.region [oi 0 2 0]) (.seq [] (.seq [3,0] (.region [oi 0 3 1]) (.block 0 (.loop [0,3] 1 (.seq [3,0] (.seq [5,3,0] (.region [om 0 4 3,oa 1 5 (.bin .leq (.t 4) (.c (.int .i64 15)))]) (.cond (.t 5) .skip (.exit 0))) (.seq [3,0] (.block 1 (.seq [11,3,0] (.region [om 0 8 3,oF 1 9 ET [(.t 8)],om 2 10 0,oa 3 11 (.bin .eql (.t 9) (.t 10))]) (.cond (.t 11) (.seq [2] (.region [om 0 12 3,om 1 2 12]) .ret) .skip))) (.region [om 0 6 3,oa 1 7 (.bin .add (.t 6) (.c (.int .i64 1))),om 2 3 7])))))) (.seq [2] (.region [oi 0 2 0]) .ret)))
def FH:Fn:=⟨⟨1,13,0,true,[.tmp 2],mV⟩,[.one .frz (.str)],.one (.one .own (.int .i64))⟩
theorem Wl:FH.A:=Bp ⟨R9,trivial⟩
def Kj:List UInt8→Int:=FH.V
def Lw:List UInt8→Prop:=FH.O
theorem Wm:FH.B:=Bq ⟨RY,trivial⟩ (by kernel_rfl) (fun x=>by kernel_rfl)
def mS:DCode:=(.seq [1,0] (.region [oa 0 4 (.mv (.c .nils))]) (.seq [5,1,0] (.region [oa 0 5 (.mv (.c .nils))]) (.seq [6,5,1,0] (.region [oi 0 6 0]) (.seq [6,5,0] (.seq [7,6,5,1,0] (.region [oi 0 7 0]) (.block 0 (.loop [0,1,5,6,7] 1 (.seq [7,6,5,1,0] (.seq [11,7,6,5,1,0] (.region [om 0 8 7,om 1 9 0,oa 2 10 (.lenT (.t 9)),oa 3 11 (.bin .lss (.t 8) (.t 10))]) (.cond (.t 11) .skip (.exit 0))) (.seq [7,6,5,1,0] (.block 1 (.seq [18,7,6,5,1,0] (.region [om 0 14 0,om 1 15 7,oa 2 16 (.index (.t 14) (.t 15)),om 3 17 1,oa 4 18 (.bin .eql (.t 16) (.t 17))]) (.cond (.t 18) (.seq [7,5,1,0] (.region [om 0 19 5,om 1 20 0,om 2 21 6,om 3 22 7,oa 4 23 (.substr (.t 20) (some (.t 21)) (some (.t 22))),⟨5,some 24,.a false (.litSlice 1 1 [(.str [])] [(0,1,(.t 23))]) (some (.one (.str))),none,[]⟩,oa 6 25 (.app 1 (.t 19) (.t 24)),om 7 5 25]) (.region [om 0 26 7,oa 1 27 (.bin .add (.t 26) (.c (.int .i64 1))),om 2 6 27])) .skip))) (.region [om 0 12 7,oa 1 13 (.bin .add (.t 12) (.c (.int .i64 1))),om 2 7 13])))))) (.seq [4] (.region [om 0 28 5,om 1 29 0,om 2 30 6,oa 3 31 (.substr (.t 29) (some (.t 30)) none),⟨4,some 32,.a false (.litSlice 1 1 [(.str [])] [(0,1,(.t 31))]) (some (.one (.str))),none,[]⟩,oa 5 33 (.app 1 (.t 28) (.t 32)),om 6 4 33]) .ret)))))
def Jj:Fn:=⟨⟨2,34,0,false,[.tmp 4],mS⟩,[.one .frz (.str),.one .frz (.int .u8)],.one (.one .own (.sl (.one (.str))))⟩
theorem m7:Jj.A:=Bp trivial
def BJ:List UInt8×Int→List (List UInt8):=Jj.V
def Sm:List UInt8×Int→Prop:=Jj.O
theorem na:Jj.B:=Bq trivial (by kernel_rfl) (fun x=>by kernel_rfl)
def p7:DCode:=(.seq [0] (.region [oi 0 2 0]) (.seq [] (.seq [7,6,5,0] (.region [oc 0 5 LF Nk WB [(.c (.str [97,32,98,32,99,32,100,32,101,32,102,32,103,32,104,32,105,32,106,32,107,32,108,32,109,32,110,32,111,32,112,32,113,32,114,32,115,32,116,32,117,32,118,32,119,32,120,32,121,32,122,32,49,32,50,32,51,32,52,32,53,32,54,32,55,32,56,32,57,32,48,32,101,110,116,101,114,32,101,115,99,32,98,97,99,107,32,116,97,98,32,115,112,97,99,101,32,109,105,110,117,115,32,101,113,117,97,108,32,108,101,102,116,32,114,105,103,104,116,32,117,112,32,100,111,119,110,32,102,49,32,102,50,32,102,51,32,102,52,32,102,53,32,102,54,32,102,55,32,102,56,32,102,57])),(.c (.str [32]))],oa 1 6 (.len (.t 5)),oi 2 7 0]) (.block 0 (.loop [0,5,6,7] 1 (.seq [8,7,6,5,0] (.region [oa 0 8 (.bin .lss (.t 7) (.t 6))]) (.seq [7,6,5,0] (.cond (.t 8) .skip (.exit 0)) (.seq [7,6,5,0] (.block 1 (.seq [7,6,5,4,3,0] (.region [om 0 9 7,oa 1 10 (.indexA 1 (.t 5) (.t 7)),oa 2 11 (.loadH none (.t 10)),om 3 3 9,om 4 4 11]) (.seq [14,7,6,5,3,0] (.region [om 0 12 4,om 1 13 0,oa 2 14 (.bin .eql (.t 12) (.t 13))]) (.cond (.t 14) (.seq [2] (.region [om 0 15 3,oa 1 16 (.bin .add (.t 15) (.c (.int .i64 1))),om 2 2 16]) .ret) .skip)))) (.region [oa 0 17 (.bin .add (.t 7) (.c (.int .i64 1))),om 1 7 17]))))))) (.seq [2] (.region [oi 0 2 0]) .ret)))
def EZ:Fn:=⟨⟨1,18,0,true,[.tmp 2],p7⟩,[.one .frz (.str)],.one (.one .own (.int .i64))⟩
theorem SO:EZ.A:=Bp ⟨bF,trivial⟩
def Hf:List UInt8→Int:=EZ.V
def Kt:List UInt8→Prop:=EZ.O
theorem S6:EZ.B:=Bq ⟨bG,trivial⟩ (by kernel_rfl) (fun x=>by kernel_rfl)
end
section
set_option maxRecDepth 100000
def GX(x:List UInt8)(x0:Int):Bool:=(bAnd (iLe x0 15) (bNot (sEq (Cw x0) x)))
def I5(x0:Int):Int:=(iAdd .i64 x0 1)
def my(x0:Int):Prop:=(((iLe x0 15)=true→(Lv x0))∧((iLe x0 15)=false→True))
@[irreducible] def Kl(x:List UInt8):Int:=(bSel (iLe (Al (GX x) I5 1) 15) (Al (GX x) I5 1) 0)
@[irreducible] def bj(x:List UInt8):Prop:=(LoopOk (GX x) I5 my 1)
def Jk(x:List UInt8)(x0:Int):Bool:=(bAnd (iLe x0 56) (bNot (sEq (Ca x0) x)))
def Ly(x0:Int):Int:=(iAdd .i64 x0 1)
def LB(x0:Int):Prop:=(((iLe x0 56)=true→(Lz x0))∧((iLe x0 56)=false→True))
@[irreducible] def Ic(x:List UInt8):Int:=(bSel (iLe (Al (Jk x) Ly 1) 56) (Al (Jk x) Ly 1) 0)
@[irreducible] def cy(x:List UInt8):Prop:=(LoopOk (Jk x) Ly LB 1)
theorem aM (x):V7 x=(bSel (iGe (D9 x) 0) ((lSub x.1 0 (iNat (D9 x))),(lSub x.1 (iNat (iAdd .i64 (D9 x) (lLen x.2))) (lN x.1)),true) (x.1,[],false)):=(I3.v x).trans (by kernel_rfl)
theorem aN (x):V6 x=((Kb x)∧(((iGe (D9 x) 0)=true→((((0:Int)≤(D9 x))∧((0≤(iNat (D9 x)))∧((iNat (D9 x))≤(List.length x.1))))∧(((0:Int)≤(iAdd .i64 (D9 x) (lLen x.2)))∧(((iNat (iAdd .i64 (D9 x) (lLen x.2)))≤(lN x.1))∧((lN x.1)≤(List.length x.1))))))∧((iGe (D9 x) 0)=false→True))):=(I3.o x).trans (by kernel_rfl)
theorem dg (x):AN x=(V7 x):=(FM.v x).trans (by kernel_rfl)
theorem cT (x):Ks x=(V6 x):=(FM.o x).trans (by kernel_rfl)
def O1(x:List UInt8)(x0:Int):Bool:=(bAnd (iLe x0 15) (bNot (sEq (FG x0) x)))
def RU(x0:Int):Int:=(iAdd .i64 x0 1)
def mw(x0:Int):Prop:=(((iLe x0 15)=true→(Ke x0))∧((iLe x0 15)=false→True))
theorem mU (x):Kj x=(bSel (iLe (Al (O1 x) RU 1) 15) (Al (O1 x) RU 1) 0):=(FH.v x).trans (by kernel_rfl)
theorem nq (x):Lw x=(LoopOk (O1 x) RU mw 1):=(FH.o x).trans (by kernel_rfl)
def H6(x:List UInt8×Int)(x0:((List (List UInt8))×(Int×Int))):Bool:=(iLt x0.2.2 (lLen x.1))
def I7(x:List UInt8×Int)(x0:((List (List UInt8))×(Int×Int))):((List (List UInt8))×(Int×Int)):=((bSel (iEq (sGet x.1 x0.2.2) x.2) (lApp x0.1 [(lSub x.1 (iNat x0.2.1) (iNat x0.2.2))]) x0.1),(bSel (iEq (sGet x.1 x0.2.2) x.2) (iAdd .i64 x0.2.2 1) x0.2.1),(iAdd .i64 x0.2.2 1))
def Wa(x:List UInt8×Int)(x0:((List (List UInt8))×(Int×Int))):Prop:=(((iLt x0.2.2 (lLen x.1))=true→((((0:Int)≤x0.2.2)∧(x0.2.2<(((List.length x.1):Int))))∧(((iEq (sGet x.1 x0.2.2) x.2)=true→(((((0:Int)≤x0.2.1)∧((0:Int)≤x0.2.2))∧(((iNat x0.2.1)≤(iNat x0.2.2))∧((iNat x0.2.2)≤(List.length x.1))))∧(AA (((List.length x0.1)+(List.length [(lSub x.1 (iNat x0.2.1) (iNat x0.2.2))]))*1))))∧((iEq (sGet x.1 x0.2.2) x.2)=false→True))))∧((iLt x0.2.2 (lLen x.1))=false→True))
theorem m8 (x):BJ x=(lApp (Al (H6 x) (I7 x) ([],0,0)).1 [(lSub x.1 (iNat (Al (H6 x) (I7 x) ([],0,0)).2.1) (lN x.1))]):=(Jj.v x).trans (by kernel_rfl)
theorem mX (x):Sm x=((LoopOk (H6 x) (I7 x) (Wa x) ([],0,0))∧((((0:Int)≤(Al (H6 x) (I7 x) ([],0,0)).2.1)∧(((iNat (Al (H6 x) (I7 x) ([],0,0)).2.1)≤(lN x.1))∧((lN x.1)≤(List.length x.1))))∧(AA (((List.length (Al (H6 x) (I7 x) ([],0,0)).1)+(List.length [(lSub x.1 (iNat (Al (H6 x) (I7 x) ([],0,0)).2.1) (lN x.1))]))*1)))):=(Jj.o x).trans (by kernel_rfl)
def Ng(x:List UInt8)(x0:Int):Bool:=(bAnd (iLt x0 (lLen (En ([(97:UInt8),32,98,32,99,32,100,32,101,32,102,32,103,32,104,32,105,32,106,32,107,32,108,32,109,32,110,32,111,32,112,32,113,32,114,32,115,32,116,32,117,32,118,32,119,32,120,32,121,32,122,32,49,32,50,32,51,32,52,32,53,32,54,32,55,32,56,32,57,32,48,32,101,110,116,101,114,32,101,115,99,32,98,97,99,107,32,116,97,98,32,115,112,97,99,101,32,109,105,110,117,115,32,101,113,117,97,108,32,108,101,102,116,32,114,105,103,104,116,32,117,112,32,100,111,119,110,32,102,49,32,102,50,32,102,51,32,102,52,32,102,53,32,102,54,32,102,55,32,102,56,32,102,57],[(32:UInt8)])))) (bNot (sEq (lGet (En ([(97:UInt8),32,98,32,99,32,100,32,101,32,102,32,103,32,104,32,105,32,106,32,107,32,108,32,109,32,110,32,111,32,112,32,113,32,114,32,115,32,116,32,117,32,118,32,119,32,120,32,121,32,122,32,49,32,50,32,51,32,52,32,53,32,54,32,55,32,56,32,57,32,48,32,101,110,116,101,114,32,101,115,99,32,98,97,99,107,32,116,97,98,32,115,112,97,99,101,32,109,105,110,117,115,32,101,113,117,97,108,32,108,101,102,116,32,114,105,103,104,116,32,117,112,32,100,111,119,110,32,102,49,32,102,50,32,102,51,32,102,52,32,102,53,32,102,54,32,102,55,32,102,56,32,102,57],[(32:UInt8)])) (iNat x0) []) x)))
def Pd(x0:Int):Int:=(iAdd .i64 x0 1)
def Sp(x0:Int):Prop:=(((iLt x0 (lLen (En ([(97:UInt8),32,98,32,99,32,100,32,101,32,102,32,103,32,104,32,105,32,106,32,107,32,108,32,109,32,110,32,111,32,112,32,113,32,114,32,115,32,116,32,117,32,118,32,119,32,120,32,121,32,122,32,49,32,50,32,51,32,52,32,53,32,54,32,55,32,56,32,57,32,48,32,101,110,116,101,114,32,101,115,99,32,98,97,99,107,32,116,97,98,32,115,112,97,99,101,32,109,105,110,117,115,32,101,113,117,97,108,32,108,101,102,116,32,114,105,103,104,116,32,117,112,32,100,111,119,110,32,102,49,32,102,50,32,102,51,32,102,52,32,102,53,32,102,54,32,102,55,32,102,56,32,102,57],[(32:UInt8)]))))=true→((((0:Int)≤x0)∧(x0<(((List.length (En ([(97:UInt8),32,98,32,99,32,100,32,101,32,102,32,103,32,104,32,105,32,106,32,107,32,108,32,109,32,110,32,111,32,112,32,113,32,114,32,115,32,116,32,117,32,118,32,119,32,120,32,121,32,122,32,49,32,50,32,51,32,52,32,53,32,54,32,55,32,56,32,57,32,48,32,101,110,116,101,114,32,101,115,99,32,98,97,99,107,32,116,97,98,32,115,112,97,99,101,32,109,105,110,117,115,32,101,113,117,97,108,32,108,101,102,116,32,114,105,103,104,116,32,117,112,32,100,111,119,110,32,102,49,32,102,50,32,102,51,32,102,52,32,102,53,32,102,54,32,102,55,32,102,56,32,102,57],[(32:UInt8)]))):Int))))∧((iNat x0)<(List.length (En ([(97:UInt8),32,98,32,99,32,100,32,101,32,102,32,103,32,104,32,105,32,106,32,107,32,108,32,109,32,110,32,111,32,112,32,113,32,114,32,115,32,116,32,117,32,118,32,119,32,120,32,121,32,122,32,49,32,50,32,51,32,52,32,53,32,54,32,55,32,56,32,57,32,48,32,101,110,116,101,114,32,101,115,99,32,98,97,99,107,32,116,97,98,32,115,112,97,99,101,32,109,105,110,117,115,32,101,113,117,97,108,32,108,101,102,116,32,114,105,103,104,116,32,117,112,32,100,111,119,110,32,102,49,32,102,50,32,102,51,32,102,52,32,102,53,32,102,54,32,102,55,32,102,56,32,102,57],[(32:UInt8)]))))))∧((iLt x0 (lLen (En ([(97:UInt8),32,98,32,99,32,100,32,101,32,102,32,103,32,104,32,105,32,106,32,107,32,108,32,109,32,110,32,111,32,112,32,113,32,114,32,115,32,116,32,117,32,118,32,119,32,120,32,121,32,122,32,49,32,50,32,51,32,52,32,53,32,54,32,55,32,56,32,57,32,48,32,101,110,116,101,114,32,101,115,99,32,98,97,99,107,32,116,97,98,32,115,112,97,99,101,32,109,105,110,117,115,32,101,113,117,97,108,32,108,101,102,116,32,114,105,103,104,116,32,117,112,32,100,111,119,110,32,102,49,32,102,50,32,102,51,32,102,52,32,102,53,32,102,54,32,102,55,32,102,56,32,102,57],[(32:UInt8)]))))=false→True))
theorem qd (x):Hf x=(bSel (iLt (Al (Ng x) Pd 0) (lLen (En ([(97:UInt8),32,98,32,99,32,100,32,101,32,102,32,103,32,104,32,105,32,106,32,107,32,108,32,109,32,110,32,111,32,112,32,113,32,114,32,115,32,116,32,117,32,118,32,119,32,120,32,121,32,122,32,49,32,50,32,51,32,52,32,53,32,54,32,55,32,56,32,57,32,48,32,101,110,116,101,114,32,101,115,99,32,98,97,99,107,32,116,97,98,32,115,112,97,99,101,32,109,105,110,117,115,32,101,113,117,97,108,32,108,101,102,116,32,114,105,103,104,116,32,117,112,32,100,111,119,110,32,102,49,32,102,50,32,102,51,32,102,52,32,102,53,32,102,54,32,102,55,32,102,56,32,102,57],[(32:UInt8)])))) (iAdd .i64 (Al (Ng x) Pd 0) 1) 0):=(EZ.v x).trans (by kernel_rfl)
theorem pW (x):Kt x=((Kk ([(97:UInt8),32,98,32,99,32,100,32,101,32,102,32,103,32,104,32,105,32,106,32,107,32,108,32,109,32,110,32,111,32,112,32,113,32,114,32,115,32,116,32,117,32,118,32,119,32,120,32,121,32,122,32,49,32,50,32,51,32,52,32,53,32,54,32,55,32,56,32,57,32,48,32,101,110,116,101,114,32,101,115,99,32,98,97,99,107,32,116,97,98,32,115,112,97,99,101,32,109,105,110,117,115,32,101,113,117,97,108,32,108,101,102,116,32,114,105,103,104,116,32,117,112,32,100,111,119,110,32,102,49,32,102,50,32,102,51,32,102,52,32,102,53,32,102,54,32,102,55,32,102,56,32,102,57],[(32:UInt8)]))∧(LoopOk (Ng x) Pd Sp 0)):=(EZ.o x).trans (by kernel_rfl)
attribute [irreducible] V7 V6 AN Ks Kj Lw BJ Sm Hf Kt
end
section
set_option maxRecDepth 8000
def nf:DCode:=(.seq [0] (.region [oa 0 2 (.mv (.c (.str [])))]) (.seq [2] (.region [om 0 3 0,oc 1 4 Pv PD cz [(.t 3)],om 2 2 4]) .ret))
def EU:Fn:=⟨⟨1,5,0,true,[.tmp 2],nf⟩,[.one .frz (.int .i64)],.one (.one .own (.str))⟩
theorem Wn:EU.A:=Bp ⟨oZ,trivial⟩
def FI:Int→List UInt8:=EU.V
def Jg:Int→Prop:=EU.O
theorem Wh:EU.B:=Bq ⟨oN,trivial⟩ (by kernel_rfl) (fun x=>by kernel_rfl)
def qb:DCode:=(.seq [0] (.region [oa 0 2 (.mv (.c (.str [])))]) (.seq [] (.seq [3] (.region [om 0 3 0]) (.block 0 (.seq [4,3] (.region [oa 0 5 (.bin .eql (.t 3) (.c (.int .i64 3))),om 1 4 5]) (.cond (.t 4) (.seq [2] (.region [oa 0 2 (.mv (.c (.str [109,111,58])))]) .ret) (.seq [6,3] (.region [oa 0 7 (.bin .eql (.t 3) (.c (.int .i64 4))),om 1 6 7]) (.cond (.t 6) (.seq [2] (.region [oa 0 2 (.mv (.c (.str [116,103,58])))]) .ret) (.seq [8,3] (.region [oa 0 9 (.bin .eql (.t 3) (.c (.int .i64 5))),om 1 8 9]) (.cond (.t 8) (.seq [2] (.region [oa 0 2 (.mv (.c (.str [116,111,58])))]) .ret) (.seq [10] (.region [oa 0 11 (.bin .eql (.t 3) (.c (.int .i64 9))),om 1 10 11]) (.cond (.t 10) (.seq [2] (.region [oa 0 2 (.mv (.c (.str [109,97,99,114,111,58])))]) .ret) .skip)))))))))) (.seq [2] (.region [oa 0 2 (.mv (.c (.str [])))]) .ret)))
def Hg:Fn:=⟨⟨1,12,0,true,[.tmp 2],qb⟩,[.one .frz (.int .i64)],.one (.one .own (.str))⟩
theorem cL:Hg.A:=Bp trivial
def Hh:Int→List UInt8:=Hg.V
def PA:Int→Prop:=Hg.O
theorem cY:Hg.B:=Bq trivial (by kernel_rfl) (fun x=>by kernel_rfl)
def l9:DCode:=(.seq [1] (.region [oa 0 1 (.boxB 0 4 (.t 0)),oa 1 2 (.mv (.c (.str [])))]) (.seq [1] (.seq [5,1] (.region [oa 0 3 (.loadB 0 (some 4) (.t 1)),oF 1 4 Ea [(.t 3)],oa 2 5 (.un .not (.t 4))]) (.cond (.t 5) (.seq [2] (.region [oa 0 2 (.mv (.c (.str [])))]) .ret) .skip)) (.seq [1] (.seq [7,1] (.region [oa 0 6 (.fieldA 0 (.t 1)),oa 1 7 (.loadB 0 none (.t 6))]) (.block 0 (.seq [8,7,1] (.region [oa 0 9 (.bin .eql (.t 7) (.c (.int .i64 0))),om 1 8 9]) (.cond (.t 8) (.seq [2] (.region [oa 0 2 (.mv (.c (.str [110,111,110,101])))]) .ret) (.seq [10,7,1] (.region [oa 0 11 (.bin .eql (.t 7) (.c (.int .i64 1))),om 1 10 11]) (.cond (.t 10) (.seq [2] (.region [oa 0 2 (.mv (.c (.str [112,97,115,115])))]) .ret) (.seq [12,7,1] (.region [oa 0 13 (.bin .eql (.t 7) (.c (.int .i64 10))),om 1 12 13]) (.cond (.t 12) (.seq [2] (.region [oa 0 2 (.mv (.c (.str [99,97,112,115])))]) .ret) (.seq [14,7,1] (.region [oa 0 15 (.bin .eql (.t 7) (.c (.int .i64 2))),om 1 14 15]) (.cond (.t 14) (.seq [1] (.seq [18,1] (.region [oa 0 16 (.fieldA 2 (.t 1)),oa 1 17 (.loadB 0 none (.t 16)),oa 2 18 (.bin .neq (.t 17) (.c (.int .i64 0)))]) (.cond (.t 18) (.seq [2] (.region [oa 0 19 (.fieldA 2 (.t 1)),xA 1 20 (.loadB 0 none (.t 19)) (rg 1),oa 4 23 (.fieldA 1 (.t 1)),xA 5 24 (.loadB 0 none (.t 23)) [4],xF 2 21 ET [(.t 20)] (rg 2),xA 3 22 (.bin .add (.t 21) (.c (.str [45]))) (rg 3),xF 6 25 EW [(.t 24)] [0,1,2,4,5],xA 7 26 (.bin .add (.t 22) (.t 25)) (rg 7),xA 8 2 (.mv (.t 26)) (rg 8)]) .ret) .skip)) (.seq [2] (.region [oa 0 27 (.fieldA 1 (.t 1)),oa 1 28 (.loadB 0 none (.t 27)),oF 2 29 EW [(.t 28)],om 3 2 29]) .ret)) (.seq [30,7,1] (.region [oa 0 31 (.bin .eql (.t 7) (.c (.int .i64 6))),om 1 30 31]) (.cond (.t 30) (.seq [2] (.region [oa 0 32 (.fieldA 2 (.t 1)),xA 1 33 (.loadB 0 none (.t 32)) (rg 1),oa 4 36 (.fieldA 1 (.t 1)),xA 5 37 (.loadB 0 none (.t 36)) [4],xF 2 34 ET [(.t 33)] (rg 2),xA 3 35 (.bin .add (.t 34) (.c (.str [47]))) (rg 3),xF 6 38 EW [(.t 37)] [0,1,2,4,5],xA 7 39 (.bin .add (.t 35) (.t 38)) (rg 7),xA 8 2 (.mv (.t 39)) (rg 8)]) .ret) (.seq [40,7,1] (.region [oa 0 41 (.bin .eql (.t 7) (.c (.int .i64 7))),om 1 40 41]) (.cond (.t 40) (.seq [2] (.region [oa 0 42 (.fieldA 3 (.t 1)),xA 1 43 (.loadB 0 none (.t 42)) (rg 1),oa 4 46 (.fieldA 1 (.t 1)),xA 5 47 (.loadB 0 none (.t 46)) [4],xF 2 44 EU [(.t 43)] (rg 2),xA 3 45 (.bin .add (.t 44) (.c (.str [47]))) (rg 3),xF 6 48 EW [(.t 47)] [0,1,2,4,5],xA 7 49 (.bin .add (.t 45) (.t 48)) (rg 7),xA 8 2 (.mv (.t 49)) (rg 8)]) .ret) (.seq [50,1] (.region [oa 0 51 (.bin .eql (.t 7) (.c (.int .i64 8))),om 1 50 51]) (.cond (.t 50) (.seq [2] (.region [oa 0 52 (.fieldA 2 (.t 1)),oa 1 53 (.loadB 0 none (.t 52)),oF 2 54 ET [(.t 53)],oa 3 55 (.bin .add (.c (.str [111,110,99,101,58])) (.t 54)),om 4 2 55]) .ret) .skip)))))))))))))))) (.seq [2] (.region [oa 0 56 (.fieldA 0 (.t 1)),xA 1 57 (.loadB 0 none (.t 56)) (rg 1),oa 3 59 (.fieldA 3 (.t 1)),xA 4 60 (.loadB 0 none (.t 59)) [3],xF 2 58 Hg [(.t 57)] (rg 2),xF 5 61 EU [(.t 60)] (rg 5),xA 6 62 (.bin .add (.t 58) (.t 61)) (rg 6),xA 7 2 (.mv (.t 62)) (rg 7)]) .ret))))
def FE:Fn:=⟨⟨1,63,1,true,[.tmp 2],l9⟩,[.agg [(.frz,.int .i64),(.frz,.int .i64),(.frz,.int .i64),(.frz,.int .i64)]],.one (.one .own (.str))⟩
theorem aO:FE.A:=Bp ⟨Sy,R9,SD,SD,R9,SD,Wn,SD,R9,cL,Wn,trivial⟩
def Lt:Int×Int×Int×Int→List UInt8:=FE.V
def O0:Int×Int×Int×Int→Prop:=FE.O
theorem aR:FE.B:=Bq ⟨Sr,RY,SB,SB,RY,SB,Wh,SB,RY,cY,Wh,trivial⟩ (by kernel_rfl) (fun x=>by kernel_rfl)
def mq:DCode:=(.seq [0] (.region [oa 0 2 (.mv (.c (.str [])))]) (.seq [0] (.seq [8,0] (.region [on 0 6 0,oF 1 7 Eb [(.t 6)],oa 2 8 (.un .not (.t 7))]) (.cond (.t 8) (.seq [2] (.region [oa 0 2 (.mv (.c (.str [])))]) .ret) .skip)) (.seq [3,0] (.region [oa 0 3 (.mv (.c .nils))]) (.seq [3] (.seq [11,10,9,3] (.region [on 0 9 0,oa 1 10 (.len (.t 9)),oi 2 11 0]) (.block 0 (.loop [3,9,10,11] 1 (.seq [12,11,10,9,3] (.region [oa 0 12 (.bin .lss (.t 11) (.t 10))]) (.seq [11,10,9,3] (.cond (.t 12) .skip (.exit 0)) (.seq [11,10,9,3] (.block 1 (.seq [11,10,9,5,3] (.region [oa 0 13 (.indexA 3 (.t 9) (.t 11)),ob 1 14 (.loadH (some 3) (.t 13)),oa 2 5 (.allocB 0 [(.int .i64 0),(.int .i64 0),(.int .i64 0)]),os 3 (.storeB 0 3 (.t 5) (.t 14))]) (.region [om 0 15 3,oa 1 16 (.fieldA 0 (.t 5)),xA 2 17 (.loadB 0 none (.t 16)) [1],oa 3 18 (.fieldA 0 (.t 5)),xA 4 19 (.loadB 0 none (.t 18)) [3],xA 5 20 (.bin .add (.t 19) (.c (.int .i64 1))) [3,4],xA 6 21 (.substr (.c (.str [116,100,117])) (some (.t 17)) (some (.t 20))) [1,2,3,4,5],xA 7 22 (.bin .add (.t 21) (.c (.str [61]))) [1,2,3,4,5,6],oa 8 23 (.fieldA 1 (.t 5)),xB 9 24 (.loadB 0 none (.t 23)) [8],oa 10 25 (.fieldA 2 (.t 5)),xB 11 26 (.loadB 0 none (.t 25)) [10],xA 12 27 (.build [(.int .i64 0),(.int .i64 0),(.int .i64 0),(.int .i64 0)] [(0,1,(.c (.int .i64 2))),(1,1,(.t 24)),(2,1,(.t 26))]) [8,9,10,11],xF 13 28 FE [(.t 27)] [8,9,10,11,12],xA 14 29 (.bin .add (.t 22) (.t 28)) [1,2,3,4,5,6,7,8,9,10,11,12,13],⟨15,some 30,.a false (.litSlice 1 1 [(.str [])] [(0,1,(.t 29))]) (some (.one (.str))),none,[1,2,3,4,5,6,7,8,9,10,11,12,13,14]⟩,xA 16 31 (.app 1 (.t 15) (.t 30)) (rg 16),xA 17 3 (.mv (.t 31)) (rg 17)]))) (.region [oa 0 32 (.bin .add (.t 11) (.c (.int .i64 1))),om 1 11 32]))))))) (.seq [2] (.region [on 0 33 3,oF 1 34 Jo [(.t 33),(.c (.str [32]))],om 2 2 34]) .ret)))))
def FF:Fn:=⟨⟨1,35,1,true,[.tmp 2],mq⟩,[.one .frz (.sl I0)],.one (.one .own (.str))⟩
theorem aY:FF.A:=Bp ⟨SK,aO,nN,trivial⟩
def CO:List (Int×Int×Int)→List UInt8:=FF.V
def O3:List (Int×Int×Int)→Prop:=FF.O
theorem aZ:FF.B:=Bq ⟨SH,aR,nO,trivial⟩ (by kernel_rfl) (fun x=>by kernel_rfl)
end
section
set_option maxRecDepth 100000
def Gr(x0:((List UInt8)×Int)):Bool:=(iNe x0.2 0)
def I8(x0:((List UInt8)×Int)):((List UInt8)×Int):=((sAdd (rowS [(iConv .u8 (iAdd .i64 48 (bSel (iLt (iRem x0.2 10) 0) (iNeg .i64 (iRem x0.2 10)) (iRem x0.2 10))))]) x0.1),(iQuo .i64 x0.2 10))
def I6(x0:((List UInt8)×Int)):Prop:=(((iNe x0.2 0)=true→(((10:Int)≠0)∧((((List.length (rowS [(iConv .u8 (iAdd .i64 48 (bSel (iLt (iRem x0.2 10) 0) (iNeg .i64 (iRem x0.2 10)) (iRem x0.2 10))))]))+(List.length x0.1))≤9223372036854775807)∧((10:Int)≠0))))∧((iNe x0.2 0)=false→True))
@[irreducible] def Dn(x:Int):List UInt8:=(bSel (iEq x 0) [(48:UInt8)] (bSel (iLt x 0) (sAdd [(45:UInt8)] (Al Gr I8 ([],x)).1) (Al Gr I8 ([],x)).1))
@[irreducible] def GZ(x:Int):Prop:=(((iEq x 0)=true→True)∧((iEq x 0)=false→((LoopOk Gr I8 I6 ([],x))∧(((iLt x 0)=true→(((List.length [(45:UInt8)])+(List.length (Al Gr I8 ([],x)).1))≤9223372036854775807))∧((iLt x 0)=false→True)))))
@[irreducible] def B7(x:Int×Int×Int×Int):List UInt8:=(bSel (bNot (Cj x)) [] (bSel (iEq x.1 0) [(110:UInt8),111,110,101] (bSel (iEq x.1 1) [(112:UInt8),97,115,115] (bSel (iEq x.1 3) (sAdd [(109:UInt8),111,58] (Dn x.2.2.2)) (bSel (iEq x.1 4) (sAdd [(116:UInt8),103,58] (Dn x.2.2.2)) (bSel (iEq x.1 5) (sAdd [(116:UInt8),111,58] (Dn x.2.2.2)) (bSel (iEq x.1 6) (sAdd (sAdd (Cw x.2.2.1) [(47:UInt8)]) (Ca x.2.1)) (bSel (iEq x.1 7) (sAdd (sAdd (Dn x.2.2.2) [(47:UInt8)]) (Ca x.2.1)) (bSel (iEq x.1 8) (sAdd [(111:UInt8),110,99,101,58] (Cw x.2.2.1)) (bSel (iEq x.1 9) (sAdd [(109:UInt8),97,99,114,111,58] (Dn x.2.2.2)) (bSel (iEq x.1 10) [(99:UInt8),97,112,115] (bSel (iEq x.2.2.1 0) (Ca x.2.1) (sAdd (sAdd (Cw x.2.2.1) [(45:UInt8)]) (Ca x.2.1))))))))))))))
@[irreducible] def V8(x:Int×Int×Int×Int):Prop:=((Ko x)∧(((bNot (Cj x))=true→True)∧((bNot (Cj x))=false→(((iEq x.1 0)=true→True)∧((iEq x.1 0)=false→(((iEq x.1 1)=true→True)∧((iEq x.1 1)=false→(((iEq x.1 3)=true→((GZ x.2.2.2)∧(((List.length [(109:UInt8),111,58])+(List.length (Dn x.2.2.2)))≤9223372036854775807)))∧((iEq x.1 3)=false→(((iEq x.1 4)=true→((GZ x.2.2.2)∧(((List.length [(116:UInt8),103,58])+(List.length (Dn x.2.2.2)))≤9223372036854775807)))∧((iEq x.1 4)=false→(((iEq x.1 5)=true→((GZ x.2.2.2)∧(((List.length [(116:UInt8),111,58])+(List.length (Dn x.2.2.2)))≤9223372036854775807)))∧((iEq x.1 5)=false→(((iEq x.1 6)=true→((Lv x.2.2.1)∧((((List.length (Cw x.2.2.1))+(List.length [(47:UInt8)]))≤9223372036854775807)∧((Lz x.2.1)∧(((List.length (sAdd (Cw x.2.2.1) [(47:UInt8)]))+(List.length (Ca x.2.1)))≤9223372036854775807)))))∧((iEq x.1 6)=false→(((iEq x.1 7)=true→((GZ x.2.2.2)∧((((List.length (Dn x.2.2.2))+(List.length [(47:UInt8)]))≤9223372036854775807)∧((Lz x.2.1)∧(((List.length (sAdd (Dn x.2.2.2) [(47:UInt8)]))+(List.length (Ca x.2.1)))≤9223372036854775807)))))∧((iEq x.1 7)=false→(((iEq x.1 8)=true→((Lv x.2.2.1)∧(((List.length [(111:UInt8),110,99,101,58])+(List.length (Cw x.2.2.1)))≤9223372036854775807)))∧((iEq x.1 8)=false→(((iEq x.1 9)=true→((GZ x.2.2.2)∧(((List.length [(109:UInt8),97,99,114,111,58])+(List.length (Dn x.2.2.2)))≤9223372036854775807)))∧((iEq x.1 9)=false→(((iEq x.1 10)=true→True)∧((iEq x.1 10)=false→(((iEq x.2.2.1 0)=true→(Lz x.2.1))∧((iEq x.2.2.1 0)=false→((Lv x.2.2.1)∧((((List.length (Cw x.2.2.1))+(List.length [(45:UInt8)]))≤9223372036854775807)∧((Lz x.2.1)∧(((List.length (sAdd (Cw x.2.2.1) [(45:UInt8)]))+(List.length (Ca x.2.1)))≤9223372036854775807)))))))))))))))))))))))))))))
def Kc(x:List (Int×Int×Int))(x0:((List (List UInt8))×Int)):Bool:=(bAnd (iLt x0.2 (lLen x)) (Dc x))
def MU(x:List (Int×Int×Int))(x0:((List (List UInt8))×Int)):((List (List UInt8))×Int):=((lApp x0.1 [(sAdd (sAdd (lSub [(116:UInt8),100,117] (iNat (lGet x (iNat x0.2) (0,0,0)).1) (iNat (iAdd .i64 (lGet x (iNat x0.2) (0,0,0)).1 1))) [(61:UInt8)]) (B7 (AF (lGet x (iNat x0.2) (0,0,0)))))]),(iAdd .i64 x0.2 1))
def MV(x:List (Int×Int×Int))(x0:((List (List UInt8))×Int)):Prop:=((((iLt x0.2 (lLen x))=true→(SL x))∧((iLt x0.2 (lLen x))=false→True))∧(((bAnd (iLt x0.2 (lLen x)) (Dc x))=true→((((0:Int)≤x0.2)∧(x0.2<(((List.length x):Int))))∧(((iNat x0.2)<(List.length x))∧((((0:Int)≤x0.2)∧(x0.2<(((List.length x):Int))))∧(((iNat x0.2)<(List.length x))∧(((((0:Int)≤(lGet x (iNat x0.2) (0,0,0)).1)∧((0:Int)≤(iAdd .i64 (lGet x (iNat x0.2) (0,0,0)).1 1)))∧(((iNat (lGet x (iNat x0.2) (0,0,0)).1)≤(iNat (iAdd .i64 (lGet x (iNat x0.2) (0,0,0)).1 1)))∧((iNat (iAdd .i64 (lGet x (iNat x0.2) (0,0,0)).1 1))≤(List.length [(116:UInt8),100,117]))))∧((((List.length (lSub [(116:UInt8),100,117] (iNat (lGet x (iNat x0.2) (0,0,0)).1) (iNat (iAdd .i64 (lGet x (iNat x0.2) (0,0,0)).1 1))))+(List.length [(61:UInt8)]))≤9223372036854775807)∧((((0:Int)≤x0.2)∧(x0.2<(((List.length x):Int))))∧(((iNat x0.2)<(List.length x))∧((LA (lGet x (iNat x0.2) (0,0,0)))∧((V8 (AF (lGet x (iNat x0.2) (0,0,0))))∧((((List.length (sAdd (lSub [(116:UInt8),100,117] (iNat (lGet x (iNat x0.2) (0,0,0)).1) (iNat (iAdd .i64 (lGet x (iNat x0.2) (0,0,0)).1 1))) [(61:UInt8)]))+(List.length (B7 (AF (lGet x (iNat x0.2) (0,0,0))))))≤9223372036854775807)∧(AA (((List.length x0.1)+(List.length [(sAdd (sAdd (lSub [(116:UInt8),100,117] (iNat (lGet x (iNat x0.2) (0,0,0)).1) (iNat (iAdd .i64 (lGet x (iNat x0.2) (0,0,0)).1 1))) [(61:UInt8)]) (B7 (AF (lGet x (iNat x0.2) (0,0,0)))))]))*1))))))))))))))∧((bAnd (iLt x0.2 (lLen x)) (Dc x))=false→True)))
@[irreducible] def We(x:List (Int×Int×Int)):List UInt8:=(SJ ((Al (Kc x) (MU x) ([],0)).1,[(32:UInt8)]))
@[irreducible] def aV(x:List (Int×Int×Int)):Prop:=((LoopOk (Kc x) (MU x) (MV x) ([],0))∧(Sw ((Al (Kc x) (MU x) ([],0)).1,[(32:UInt8)])))
theorem bl (x):FI x=(Nr x):=(EU.v x).trans (by kernel_rfl)
theorem bm (x):Jg x=(Nj x):=(EU.o x).trans (by kernel_rfl)
theorem cC (x):Hh x=(bSel (iEq x 3) [(109:UInt8),111,58] (bSel (iEq x 4) [(116:UInt8),103,58] (bSel (iEq x 5) [(116:UInt8),111,58] (bSel (iEq x 9) [(109:UInt8),97,99,114,111,58] [])))):=(Hg.v x).trans (by kernel_rfl)
theorem cv (x):PA x=True:=(Hg.o x).trans (by kernel_rfl)
theorem mb (x):Lt x=(bSel (bNot (B8 x)) [] (bSel (iEq x.1 0) [(110:UInt8),111,110,101] (bSel (iEq x.1 1) [(112:UInt8),97,115,115] (bSel (iEq x.1 10) [(99:UInt8),97,112,115] (bSel (iEq x.1 2) (bSel (iNe x.2.2.1 0) (sAdd (sAdd (FG x.2.2.1) [(45:UInt8)]) (H9 x.2.1)) (H9 x.2.1)) (bSel (iEq x.1 6) (sAdd (sAdd (FG x.2.2.1) [(47:UInt8)]) (H9 x.2.1)) (bSel (iEq x.1 7) (sAdd (sAdd (FI x.2.2.2) [(47:UInt8)]) (H9 x.2.1)) (bSel (iEq x.1 8) (sAdd [(111:UInt8),110,99,101,58] (FG x.2.2.1)) (sAdd (Hh x.1) (FI x.2.2.2)))))))))):=(FE.v x).trans (by kernel_rfl)
theorem mc (x):O0 x=((Km x)∧(((bNot (B8 x))=true→True)∧((bNot (B8 x))=false→(((iEq x.1 0)=true→True)∧((iEq x.1 0)=false→(((iEq x.1 1)=true→True)∧((iEq x.1 1)=false→(((iEq x.1 10)=true→True)∧((iEq x.1 10)=false→(((iEq x.1 2)=true→(((iNe x.2.2.1 0)=true→((Ke x.2.2.1)∧((((List.length (FG x.2.2.1))+(List.length [(45:UInt8)]))≤9223372036854775807)∧((Lx x.2.1)∧(((List.length (sAdd (FG x.2.2.1) [(45:UInt8)]))+(List.length (H9 x.2.1)))≤9223372036854775807)))))∧((iNe x.2.2.1 0)=false→(Lx x.2.1))))∧((iEq x.1 2)=false→(((iEq x.1 6)=true→((Ke x.2.2.1)∧((((List.length (FG x.2.2.1))+(List.length [(47:UInt8)]))≤9223372036854775807)∧((Lx x.2.1)∧(((List.length (sAdd (FG x.2.2.1) [(47:UInt8)]))+(List.length (H9 x.2.1)))≤9223372036854775807)))))∧((iEq x.1 6)=false→(((iEq x.1 7)=true→((Jg x.2.2.2)∧((((List.length (FI x.2.2.2))+(List.length [(47:UInt8)]))≤9223372036854775807)∧((Lx x.2.1)∧(((List.length (sAdd (FI x.2.2.2) [(47:UInt8)]))+(List.length (H9 x.2.1)))≤9223372036854775807)))))∧((iEq x.1 7)=false→(((iEq x.1 8)=true→((Ke x.2.2.1)∧(((List.length [(111:UInt8),110,99,101,58])+(List.length (FG x.2.2.1)))≤9223372036854775807)))∧((iEq x.1 8)=false→((PA x.1)∧((Jg x.2.2.2)∧(((List.length (Hh x.1))+(List.length (FI x.2.2.2)))≤9223372036854775807)))))))))))))))))))):=(FE.o x).trans (by kernel_rfl)
def MT(x:List (Int×Int×Int))(x0:((List (List UInt8))×Int)):Bool:=(iLt x0.2 (lLen x))
def OX(x:List (Int×Int×Int))(x0:((List (List UInt8))×Int)):((List (List UInt8))×Int):=((lApp x0.1 [(sAdd (sAdd (lSub [(116:UInt8),100,117] (iNat (lGet x (iNat x0.2) (0,0,0)).1) (iNat (iAdd .i64 (lGet x (iNat x0.2) (0,0,0)).1 1))) [(61:UInt8)]) (Lt (2,(lGet x (iNat x0.2) (0,0,0)).2.1,(lGet x (iNat x0.2) (0,0,0)).2.2,0)))]),(iAdd .i64 x0.2 1))
def RI(x:List (Int×Int×Int))(x0:((List (List UInt8))×Int)):Prop:=(((iLt x0.2 (lLen x))=true→((((0:Int)≤x0.2)∧(x0.2<(((List.length x):Int))))∧(((iNat x0.2)<(List.length x))∧(((((0:Int)≤(lGet x (iNat x0.2) (0,0,0)).1)∧((0:Int)≤(iAdd .i64 (lGet x (iNat x0.2) (0,0,0)).1 1)))∧(((iNat (lGet x (iNat x0.2) (0,0,0)).1)≤(iNat (iAdd .i64 (lGet x (iNat x0.2) (0,0,0)).1 1)))∧((iNat (iAdd .i64 (lGet x (iNat x0.2) (0,0,0)).1 1))≤(List.length [(116:UInt8),100,117]))))∧((((List.length (lSub [(116:UInt8),100,117] (iNat (lGet x (iNat x0.2) (0,0,0)).1) (iNat (iAdd .i64 (lGet x (iNat x0.2) (0,0,0)).1 1))))+(List.length [(61:UInt8)]))≤9223372036854775807)∧((O0 (2,(lGet x (iNat x0.2) (0,0,0)).2.1,(lGet x (iNat x0.2) (0,0,0)).2.2,0))∧((((List.length (sAdd (lSub [(116:UInt8),100,117] (iNat (lGet x (iNat x0.2) (0,0,0)).1) (iNat (iAdd .i64 (lGet x (iNat x0.2) (0,0,0)).1 1))) [(61:UInt8)]))+(List.length (Lt (2,(lGet x (iNat x0.2) (0,0,0)).2.1,(lGet x (iNat x0.2) (0,0,0)).2.2,0))))≤9223372036854775807)∧(AA (((List.length x0.1)+(List.length [(sAdd (sAdd (lSub [(116:UInt8),100,117] (iNat (lGet x (iNat x0.2) (0,0,0)).1) (iNat (iAdd .i64 (lGet x (iNat x0.2) (0,0,0)).1 1))) [(61:UInt8)]) (Lt (2,(lGet x (iNat x0.2) (0,0,0)).2.1,(lGet x (iNat x0.2) (0,0,0)).2.2,0)))]))*1)))))))))∧((iLt x0.2 (lLen x))=false→True))
theorem mE (x):CO x=(bSel (bNot (Ep x)) [] (SN ((Al (MT x) (OX x) ([],0)).1,[(32:UInt8)]))):=(FF.v x).trans (by kernel_rfl)
theorem mg (x):O3 x=((LG x)∧(((bNot (Ep x))=true→True)∧((bNot (Ep x))=false→((LoopOk (MT x) (OX x) (RI x) ([],0))∧(Sq ((Al (MT x) (OX x) ([],0)).1,[(32:UInt8)])))))):=(FF.o x).trans (by kernel_rfl)
attribute [irreducible] FI Jg Hh PA Lt O0 CO O3
end
section
set_option maxRecDepth 100000
def ER(x:List UInt8)(x0:(Int×Int)):Bool:=(bAnd (iLt x0.2 (lLen (bSel (bAnd (iGt (lLen x) 0) (iEq (sGet x 0) 45)) (lSub x (iNat 1) (lN x)) x))) (bNot (bOr (iLt (sGet (bSel (bAnd (iGt (lLen x) 0) (iEq (sGet x 0) 45)) (lSub x (iNat 1) (lN x)) x) x0.2) 48) (iGt (sGet (bSel (bAnd (iGt (lLen x) 0) (iEq (sGet x 0) 45)) (lSub x (iNat 1) (lN x)) x) x0.2) 57))))
def Fl(x:List UInt8)(x0:(Int×Int)):(Int×Int):=((iSub .i64 (iAdd .i64 (iMul .i64 10 x0.1) (iConv .i64 (sGet (bSel (bAnd (iGt (lLen x) 0) (iEq (sGet x 0) 45)) (lSub x (iNat 1) (lN x)) x) x0.2))) 48),(iAdd .i64 x0.2 1))
def Sf(x:List UInt8)(x0:(Int×Int)):Prop:=(((iLt x0.2 (lLen (bSel (bAnd (iGt (lLen x) 0) (iEq (sGet x 0) 45)) (lSub x (iNat 1) (lN x)) x)))=true→(((((0:Int)≤x0.2)∧(x0.2<(((List.length (bSel (bAnd (iGt (lLen x) 0) (iEq (sGet x 0) 45)) (lSub x (iNat 1) (lN x)) x)):Int))))∧(((iLt (sGet (bSel (bAnd (iGt (lLen x) 0) (iEq (sGet x 0) 45)) (lSub x (iNat 1) (lN x)) x) x0.2) 48)=true→True)∧((iLt (sGet (bSel (bAnd (iGt (lLen x) 0) (iEq (sGet x 0) 45)) (lSub x (iNat 1) (lN x)) x) x0.2) 48)=false→(((0:Int)≤x0.2)∧(x0.2<(((List.length (bSel (bAnd (iGt (lLen x) 0) (iEq (sGet x 0) 45)) (lSub x (iNat 1) (lN x)) x)):Int)))))))∧(((bOr (iLt (sGet (bSel (bAnd (iGt (lLen x) 0) (iEq (sGet x 0) 45)) (lSub x (iNat 1) (lN x)) x) x0.2) 48) (iGt (sGet (bSel (bAnd (iGt (lLen x) 0) (iEq (sGet x 0) 45)) (lSub x (iNat 1) (lN x)) x) x0.2) 57))=true→True)∧((bOr (iLt (sGet (bSel (bAnd (iGt (lLen x) 0) (iEq (sGet x 0) 45)) (lSub x (iNat 1) (lN x)) x) x0.2) 48) (iGt (sGet (bSel (bAnd (iGt (lLen x) 0) (iEq (sGet x 0) 45)) (lSub x (iNat 1) (lN x)) x) x0.2) 57))=false→(((0:Int)≤x0.2)∧(x0.2<(((List.length (bSel (bAnd (iGt (lLen x) 0) (iEq (sGet x 0) 45)) (lSub x (iNat 1) (lN x)) x)):Int))))))))∧((iLt x0.2 (lLen (bSel (bAnd (iGt (lLen x) 0) (iEq (sGet x 0) 45)) (lSub x (iNat 1) (lN x)) x)))=false→True))
@[irreducible] def Jp(x:List UInt8):Int×Bool:=(bSel (bOr (iLt (lLen (bSel (bAnd (iGt (lLen x) 0) (iEq (sGet x 0) 45)) (lSub x (iNat 1) (lN x)) x)) 1) (iGt (lLen (bSel (bAnd (iGt (lLen x) 0) (iEq (sGet x 0) 45)) (lSub x (iNat 1) (lN x)) x)) 9)) (0,false) (bSel (iLt (Al (ER x) (Fl x) (0,0)).2 (lLen (bSel (bAnd (iGt (lLen x) 0) (iEq (sGet x 0) 45)) (lSub x (iNat 1) (lN x)) x))) (0,false) (bSel (sNe (Dn (bSel (iLt (lLen (bSel (bAnd (iGt (lLen x) 0) (iEq (sGet x 0) 45)) (lSub x (iNat 1) (lN x)) x)) (lLen x)) (iNeg .i64 (Al (ER x) (Fl x) (0,0)).1) (Al (ER x) (Fl x) (0,0)).1)) x) (0,false) ((bSel (iLt (lLen (bSel (bAnd (iGt (lLen x) 0) (iEq (sGet x 0) 45)) (lSub x (iNat 1) (lN x)) x)) (lLen x)) (iNeg .i64 (Al (ER x) (Fl x) (0,0)).1) (Al (ER x) (Fl x) (0,0)).1),true))))
@[irreducible] def Wx(x:List UInt8):Prop:=(((((iGt (lLen x) 0)=true→(((0:Int)≤0)∧((0:Int)<(((List.length x):Int)))))∧((iGt (lLen x) 0)=false→True))∧(((bAnd (iGt (lLen x) 0) (iEq (sGet x 0) 45))=true→(((0:Int)≤1)∧(((iNat 1)≤(lN x))∧((lN x)≤(List.length x)))))∧((bAnd (iGt (lLen x) 0) (iEq (sGet x 0) 45))=false→True)))∧(((bOr (iLt (lLen (bSel (bAnd (iGt (lLen x) 0) (iEq (sGet x 0) 45)) (lSub x (iNat 1) (lN x)) x)) 1) (iGt (lLen (bSel (bAnd (iGt (lLen x) 0) (iEq (sGet x 0) 45)) (lSub x (iNat 1) (lN x)) x)) 9))=true→True)∧((bOr (iLt (lLen (bSel (bAnd (iGt (lLen x) 0) (iEq (sGet x 0) 45)) (lSub x (iNat 1) (lN x)) x)) 1) (iGt (lLen (bSel (bAnd (iGt (lLen x) 0) (iEq (sGet x 0) 45)) (lSub x (iNat 1) (lN x)) x)) 9))=false→((LoopOk (ER x) (Fl x) (Sf x) (0,0))∧(((iLt (Al (ER x) (Fl x) (0,0)).2 (lLen (bSel (bAnd (iGt (lLen x) 0) (iEq (sGet x 0) 45)) (lSub x (iNat 1) (lN x)) x)))=true→True)∧((iLt (Al (ER x) (Fl x) (0,0)).2 (lLen (bSel (bAnd (iGt (lLen x) 0) (iEq (sGet x 0) 45)) (lSub x (iNat 1) (lN x)) x)))=false→(GZ (bSel (iLt (lLen (bSel (bAnd (iGt (lLen x) 0) (iEq (sGet x 0) 45)) (lSub x (iNat 1) (lN x)) x)) (lLen x)) (iNeg .i64 (Al (ER x) (Fl x) (0,0)).1) (Al (ER x) (Fl x) (0,0)).1))))))))
end
section
set_option maxRecDepth 8000
def pX:DCode:=(.seq [1,0] (.region [oa 0 4 (.mv (.c .undef))]) (.seq [5,1] (.region [on 0 6 0,op 1 7 NF PL dP [(.t 6)],om 2 5 7]) (.seq [5] (.region [om 0 8 5,om 1 9 5,oa 2 10 (.nilck (.t 9)),oa 3 11 (.fieldA 2 (.t 10)),oa 4 12 (.loadH none (.t 11)),om 5 13 1,oa 6 14 (.bin .mul (.c (.int .i64 7919)) (.t 13)),oa 7 15 (.bin .add (.t 12) (.t 14)),oa 8 16 (.nilck (.t 8)),oa 9 17 (.fieldA 2 (.t 16)),os 10 (.storeH 1 (.t 17) (.t 15))]) (.seq [4] (.region [om 0 18 5,om 1 4 18]) .ret))))
def Ky:DFun:=⟨2,19,0,false,[.tmp 4],pX⟩
@[irreducible] def Kz:A8:=F4 Ky.er.er
@[irreducible] def Nw:B3:=DH Ky.er
theorem cw:Dh Kz Nw:=by unfold Kz Nw;exact Ii (f:=Ky.er) ⟨qm,trivial⟩
def Tj:List HT:=[.one .frz (.sl (.one (.int .u8))),.one .frz (.int .i64)]
def Tl:List (Ql×CT):=[(.frz,.sl (.one (.int .u8))),(.own,.int .i64),(.own,.int .i64)]
@[irreducible] def Jt(x:List (Int)×Int):List (Int)×Int×Int:=(shut fun x=>Rk Ky Tj Tl x).1 x
@[irreducible] def LI(x:List (Int)×Int):Prop:=(shut fun x=>Q3 Ky Tj Tl x).1 x
def WY:D6:=UX Tj Tl LI Jt
theorem cD:FY Nw WY:=by unfold Nw;exact fa (f:=Ky) (hs:=Tj) (cs:=Tl) ⟨qJ,trivial⟩ (by kernel_rfl) (fun x=>by kernel_rfl) (fun x h=>by unfold LI at h;exact Eq.mp (congrFun (shut _).2 x) h) (fun x=>by unfold Jt;exact(congrFun (shut _).2 x).symm)
def p5:DCode:=(.seq [4,1,0] (.region [oa 0 4 (.allocB 0 [(.int .i64 0),(.int .i64 0),(.int .i64 0),(.int .i64 0)])]) (.seq [5,4,1,0] (.region [om 0 8 0,op 1 9 CB EY Gw [(.t 8),(.c (.int .i64 56))],oa 2 10 (.bin .add (.c (.int .i64 1)) (.t 9)),om 3 5 10]) (.seq [6,5,4,1,0] (.region [om 0 11 0,op 1 12 CB EY Gw [(.t 11),(.c (.int .i64 15))],oa 2 13 (.bin .add (.c (.int .i64 1)) (.t 12)),om 3 6 13]) (.seq [6,5,4,1,0] (.seq [15,6,5,4,1,0] (.region [om 0 14 0,op 1 15 Gx KB PH [(.t 14),(.c (.int .i64 2))]]) (.cond (.t 15) (.region [oi 0 6 2]) .skip)) (.seq [7,6,5,4,1,0] (.region [om 0 16 0,om 1 17 1,oa 2 18 (.bin .sub (.t 17) (.c (.int .i64 1))),oa 3 19 (.maxI (.c (.int .i64 1)) (.t 18)),op 4 20 CB EY Gw [(.t 16),(.t 19)],oa 5 21 (.bin .add (.c (.int .i64 1)) (.t 20)),om 6 7 21]) (.seq [5,4] (.seq [23,7,6,5,4,1,0] (.region [om 0 22 0,op 1 23 CB EY Gw [(.t 22),(.c (.int .i64 16))]]) (.block 0 (.seq [24,23,7,6,5,4,1,0] (.region [oa 0 25 (.bin .eql (.t 23) (.c (.int .i64 0))),om 1 24 25]) (.cond (.t 24) (.seq [4] (.region [om 0 26 5,om 1 27 6,oa 2 28 (.build [(.int .i64 0),(.int .i64 0),(.int .i64 0),(.int .i64 0)] [(0,1,(.c (.int .i64 2))),(1,1,(.t 26)),(2,1,(.t 27))]),os 3 (.storeB 0 4 (.t 4) (.t 28))]) .ret) (.seq [29,23,7,6,5,4,1,0] (.region [oa 0 30 (.bin .eql (.t 23) (.c (.int .i64 1))),om 1 29 30]) (.cond (.t 29) (.seq [4] (.region [om 0 31 6,oa 1 32 (.build [(.int .i64 0),(.int .i64 0),(.int .i64 0),(.int .i64 0)] [(0,1,(.c (.int .i64 2))),(2,1,(.t 31))]),os 2 (.storeB 0 4 (.t 4) (.t 32))]) .ret) (.seq [33,23,7,6,5,4,1,0] (.seq [33,23,7,6,5,4,1,0] (.region [oa 0 34 (.bin .eql (.t 23) (.c (.int .i64 2))),om 1 33 34]) (.cond (.t 33) .skip (.region [oa 0 35 (.bin .eql (.t 23) (.c (.int .i64 3))),om 1 33 35]))) (.cond (.t 33) (.seq [4] (.region [om 0 36 5,om 1 37 6,oa 2 38 (.build [(.int .i64 0),(.int .i64 0),(.int .i64 0),(.int .i64 0)] [(0,1,(.c (.int .i64 6))),(1,1,(.t 36)),(2,1,(.t 37))]),os 3 (.storeB 0 4 (.t 4) (.t 38))]) .ret) (.seq [39,23,7,6,5,4,1,0] (.region [oa 0 40 (.bin .eql (.t 23) (.c (.int .i64 4))),om 1 39 40]) (.cond (.t 39) (.seq [4] (.region [om 0 41 6,oa 1 42 (.build [(.int .i64 0),(.int .i64 0),(.int .i64 0),(.int .i64 0)] [(0,1,(.c (.int .i64 8))),(2,1,(.t 41))]),os 2 (.storeB 0 4 (.t 4) (.t 42))]) .ret) (.seq [43,23,7,5,4,1,0] (.region [oa 0 44 (.bin .eql (.t 23) (.c (.int .i64 5))),om 1 43 44]) (.cond (.t 43) (.seq [4] (.region [om 0 45 0,op 1 46 CB EY Gw [(.t 45),(.c (.int .i64 4))],oa 2 47 (.build [(.int .i64 0),(.int .i64 0),(.int .i64 0),(.int .i64 0)] [(0,1,(.c (.int .i64 9))),(3,1,(.t 46))]),os 3 (.storeB 0 4 (.t 4) (.t 47))]) .ret) (.seq [48,23,7,5,4,1,0] (.region [oa 0 49 (.bin .eql (.t 23) (.c (.int .i64 6))),om 1 48 49]) (.cond (.t 48) (.seq [4] (.region [oa 0 50 (.build [(.int .i64 0),(.int .i64 0),(.int .i64 0),(.int .i64 0)] [(0,1,(.c (.int .i64 10)))]),os 1 (.storeB 0 4 (.t 4) (.t 50))]) .ret) (.seq [51,23,7,5,4,1,0] (.region [oa 0 52 (.bin .eql (.t 23) (.c (.int .i64 7))),om 1 51 52]) (.cond (.t 51) (.seq [4] (.region [om 0 53 0,om 1 54 1,oa 2 55 (.maxI (.c (.int .i64 1)) (.t 54)),op 3 56 CB EY Gw [(.t 53),(.t 55)],oa 4 57 (.build [(.int .i64 0),(.int .i64 0),(.int .i64 0),(.int .i64 0)] [(0,1,(.c (.int .i64 5))),(3,1,(.t 56))]),os 5 (.storeB 0 4 (.t 4) (.t 57))]) .ret) (.seq [58,7,5,4,1,0] (.seq [58,23,7,5,4,1,0] (.region [oa 0 59 (.bin .eql (.t 23) (.c (.int .i64 8))),om 1 58 59]) (.cond (.t 58) .skip (.seq [58,23,7,5,4,1,0] (.region [oa 0 60 (.bin .eql (.t 23) (.c (.int .i64 9))),om 1 58 60]) (.cond (.t 58) .skip (.region [oa 0 61 (.bin .eql (.t 23) (.c (.int .i64 10))),om 1 58 61]))))) (.cond (.t 58) (.seq [63,7,5,4,0] (.region [om 0 62 1,oa 1 63 (.bin .gtr (.t 62) (.c (.int .i64 1)))]) (.cond (.t 63) (.seq [4] (.region [om 0 64 7,oa 1 65 (.build [(.int .i64 0),(.int .i64 0),(.int .i64 0),(.int .i64 0)] [(0,1,(.c (.int .i64 3))),(3,1,(.t 64))]),om 2 66 7,oa 3 67 (.build [(.int .i64 0),(.int .i64 0),(.int .i64 0),(.int .i64 0)] [(0,1,(.c (.int .i64 4))),(3,1,(.t 66))]),om 4 68 5,om 5 69 7,oa 6 70 (.build [(.int .i64 0),(.int .i64 0),(.int .i64 0),(.int .i64 0)] [(0,1,(.c (.int .i64 7))),(1,1,(.t 68)),(3,1,(.t 69))]),⟨7,some 71,.a false (.litSlice 4 3 [(.int .i64 0),(.int .i64 0),(.int .i64 0),(.int .i64 0),(.int .i64 0),(.int .i64 0),(.int .i64 0),(.int .i64 0),(.int .i64 0),(.int .i64 0),(.int .i64 0),(.int .i64 0)] [(0,4,(.t 65)),(4,4,(.t 67)),(8,4,(.t 70))]) (some zY),none,[]⟩,om 8 72 0,op 9 73 CB EY Gw [(.t 72),(.c (.int .i64 3))],oa 10 74 (.indexA 4 (.t 71) (.t 73)),ob 11 75 (.loadH (some 4) (.t 74)),os 12 (.storeB 0 4 (.t 4) (.t 75))]) .ret) .skip)) .skip)))))))))))))))))) (.seq [4] (.region [om 0 76 5,oa 1 77 (.build [(.int .i64 0),(.int .i64 0),(.int .i64 0),(.int .i64 0)] [(0,1,(.c (.int .i64 2))),(1,1,(.t 76))]),os 2 (.storeB 0 4 (.t 4) (.t 77))]) .ret)))))))
def Kr:DFun:=⟨2,78,1,false,[.cell 4 (some 4)],p5⟩
@[irreducible] def Nz:A8:=F4 Kr.er.er
@[irreducible] def PE:B3:=DH Kr.er
theorem pN:Dh Nz PE:=by unfold Nz PE;exact Ii (f:=Kr.er) ⟨G8,G8,SY,G8,G8,G8,G8,G8,trivial⟩
def Td:List HT:=[.one .frz (.int .i64)]
def Tw:List (Ql×CT):=[(.frz,.sl (.one (.int .u8))),(.own,.int .i64),(.own,.int .i64)]
def Tq:QT:=.one (.agg [(.own,.int .i64),(.own,.int .i64),(.own,.int .i64),(.own,.int .i64)])
@[irreducible] def KA(x:(List (Int)×Int×Int)×Int):(Int×Int×Int×Int)×(Int×Int):=(shut fun x=>IP Kr Td Tw Tq x).1 x
@[irreducible] def Nl(x:(List (Int)×Int×Int)×Int):Prop:=(shut fun x=>II Kr Td Tw Tq x).1 x
def dz:D6:=JO Td Tw Tq Nl KA
theorem pG:FY PE dz:=by unfold PE;exact LQ (f:=Kr) (hs:=Td) (cs:=Tw) (q:=Tq) ⟨G3,G3,SW,G3,G3,G3,G3,G3,trivial⟩ (by kernel_rfl) (fun x=>by kernel_rfl) (fun x h=>by unfold Nl at h;exact Eq.mp (congrFun (shut _).2 x) h) (fun x=>by unfold KA;exact(congrFun (shut _).2 x).symm)
def lH:DCode:=(.seq [1,0] (.region [oa 0 4 (.mv (.c (.bool false)))]) (.seq [4] (.region [om 0 5 0,oa 1 6 (.lenT (.t 5)),om 2 7 1,oa 3 8 (.lenT (.t 7)),oa 4 9 (.bin .geq (.t 6) (.t 8)),om 5 10 9,og 6 11 (.mv (.t 0)) 10 true,og 7 12 (.mv (.t 1)) 10 true,og 8 13 (.lenT (.t 12)) 10 true,og 9 14 (.substr (.t 11) none (some (.t 13))) 10 true,og 10 15 (.mv (.t 1)) 10 true,og 11 16 (.bin .eql (.t 14) (.t 15)) 10 true,oa 12 17 (.pick (.t 10) (.t 16) (.c (.bool false))),om 13 4 17]) .ret))
def I1:Fn:=⟨⟨2,18,0,true,[.tmp 4],lH⟩,[.one .frz (.str),.one .frz (.str)],.one (.one .own (.bool))⟩
theorem lO:I1.A:=Bp trivial
def Lq:List UInt8×List UInt8→Bool:=I1.V
def OU:List UInt8×List UInt8→Prop:=I1.O
theorem lL:I1.B:=Bq trivial (by kernel_rfl) (fun x=>by kernel_rfl)
def lM:DCode:=(.seq [1,0] (.region [oa 0 4 (.mv (.c (.str []))),oa 1 5 (.mv (.c (.bool false)))]) (.seq [1,0] (.seq [9,1,0] (.region [om 0 6 0,om 1 7 1,oF 2 8 I1 [(.t 6),(.t 7)],oa 3 9 (.un .not (.t 8))]) (.cond (.t 9) (.seq [5,4] (.region [om 0 10 0,om 1 4 10,oa 2 5 (.mv (.c (.bool false)))]) .ret) .skip)) (.seq [5,4] (.region [om 0 11 0,om 1 12 1,oa 2 13 (.lenT (.t 12)),oa 3 14 (.substr (.t 11) (some (.t 13)) none),om 4 4 14,oa 5 5 (.mv (.c (.bool true)))]) .ret)))
def I2:Fn:=⟨⟨2,15,0,true,[.tmp 4,.tmp 5],lM⟩,[.one .frz (.str),.one .frz (.str)],.tup [.one .own (.str),.one .own (.bool)]⟩
theorem lK:I2.A:=Bp ⟨lO,trivial⟩
def V3:List UInt8×List UInt8→List UInt8×Bool:=I2.V
def V2:List UInt8×List UInt8→Prop:=I2.O
theorem lJ:I2.B:=Bq ⟨lL,trivial⟩ (by kernel_rfl) (fun x=>by kernel_rfl)
def l8:DCode:=(.seq [1,0] (.region [oa 0 4 (.mv (.c (.str []))),oa 1 5 (.mv (.c (.bool false)))]) (.seq [5,4] (.region [om 0 6 0,om 1 7 1,oF 2 8 I2 [(.t 6),(.t 7)],oa 3 9 (.extract (.t 8) 0),oa 4 10 (.extract (.t 8) 1),om 5 4 9,om 6 5 10]) .ret))
def GW:Fn:=⟨⟨2,11,0,true,[.tmp 4,.tmp 5],l8⟩,[.one .frz (.str),.one .frz (.str)],.tup [.one .own (.str),.one .own (.bool)]⟩
theorem aT:GW.A:=Bp ⟨lK,trivial⟩
def EP:List UInt8×List UInt8→List UInt8×Bool:=GW.V
def Ls:List UInt8×List UInt8→Prop:=GW.O
theorem aS:GW.B:=Bq ⟨lJ,trivial⟩ (by kernel_rfl) (fun x=>by kernel_rfl)
def oA:DCode:=(.seq [0] (.region [oi 0 2 0,oa 1 3 (.mv (.c (.bool false)))]) (.seq [0] (.seq [13,0] (.region [om 0 6 0,oa 1 7 (.lenT (.t 6)),oa 2 8 (.bin .lss (.t 7) (.c (.int .i64 1))),om 3 9 8,og 4 10 (.mv (.t 0)) 9 false,og 5 11 (.lenT (.t 10)) 9 false,og 6 12 (.bin .gtr (.t 11) (.c (.int .i64 10))) 9 false,oa 7 13 (.pick (.t 9) (.c (.bool true)) (.t 12))]) (.cond (.t 13) (.seq [3,2] (.region [oi 0 2 0,oa 1 3 (.mv (.c (.bool false)))]) .ret) .skip)) (.seq [5,4,0] (.region [om 0 15 0,oc 1 16 Px Py cZ [(.t 15)],om 2 14 16,oa 3 17 (.extract (.t 14) 0),oa 4 18 (.extract (.t 14) 1),om 5 4 17,om 6 5 18]) (.seq [4] (.seq [34,4] (.region [om 0 19 5,oa 1 20 (.eqN true (.t 19) (.c (.ifc true))),om 2 21 20,og 3 22 (.mv (.t 4)) 21 false,og 4 23 (.bin .lss (.t 22) (.c (.int .i64 (-999999999)))) 21 false,oa 5 24 (.pick (.t 21) (.c (.bool true)) (.t 23)),om 6 25 24,og 7 26 (.mv (.t 4)) 25 false,og 8 27 (.bin .gtr (.t 26) (.c (.int .i64 999999999))) 25 false,oa 9 28 (.pick (.t 25) (.c (.bool true)) (.t 27)),om 10 29 28,og 11 30 (.mv (.t 4)) 29 false,⟨12,some 31,.call false EU.S EU.P EU.D [(.t 30)],(some (29,false)),[]⟩,og 13 32 (.mv (.t 0)) 29 false,og 14 33 (.bin .neq (.t 31) (.t 32)) 29 false,oa 15 34 (.pick (.t 29) (.c (.bool true)) (.t 33))]) (.cond (.t 34) (.seq [3,2] (.region [oi 0 2 0,oa 1 3 (.mv (.c (.bool false)))]) .ret) .skip)) (.seq [3,2] (.region [om 0 35 4,om 1 2 35,oa 2 3 (.mv (.c (.bool true)))]) .ret)))))
def G5:Fn:=⟨⟨1,36,0,true,[.tmp 2,.tmp 3],oA⟩,[.one .frz (.str)],.tup [.one .own (.int .i64),.one .own (.bool)]⟩
theorem bM:G5.A:=Bp ⟨o8,Wn,trivial⟩
def Gv:List UInt8→Int×Bool:=G5.V
def LC:List UInt8→Prop:=G5.O
theorem bH:G5.B:=Bq ⟨oY,Wh,trivial⟩ (by kernel_rfl) (fun x=>by kernel_rfl)
def mr:DCode:=(.seq [2,0] (.region [oa 0 2 (.allocB 0 [(.int .i64 0),(.int .i64 0),(.int .i64 0),(.int .i64 0)])]) (.seq [2,0] (.seq [19,2,0] (.region [om 0 19 0]) (.block 0 (.seq [20,19,2,0] (.region [oa 0 21 (.bin .eql (.t 19) (.c (.str [110,111,110,101]))),om 1 20 21]) (.cond (.t 20) (.seq [2] (.region [oa 0 22 (.build [(.int .i64 0),(.int .i64 0),(.int .i64 0),(.int .i64 0)] []),os 1 (.storeB 0 4 (.t 2) (.t 22))]) .ret) (.seq [23,19,2,0] (.region [oa 0 24 (.bin .eql (.t 19) (.c (.str [112,97,115,115]))),om 1 23 24]) (.cond (.t 23) (.seq [2] (.region [oa 0 25 (.build [(.int .i64 0),(.int .i64 0),(.int .i64 0),(.int .i64 0)] [(0,1,(.c (.int .i64 1)))]),os 1 (.storeB 0 4 (.t 2) (.t 25))]) .ret) (.seq [26,2,0] (.region [oa 0 27 (.bin .eql (.t 19) (.c (.str [99,97,112,115]))),om 1 26 27]) (.cond (.t 26) (.seq [2] (.region [oa 0 28 (.build [(.int .i64 0),(.int .i64 0),(.int .i64 0),(.int .i64 0)] [(0,1,(.c (.int .i64 10)))]),os 1 (.storeB 0 4 (.t 2) (.t 28))]) .ret) .skip)))))))) (.seq [2,0] (.seq [31,30,29,2,0] (.region [⟨0,some 29,.a false (.litSlice 1 4 [(.int .i64 0),(.int .i64 0),(.int .i64 0),(.int .i64 0)] [(0,1,(.c (.int .i64 3))),(1,1,(.c (.int .i64 4))),(2,1,(.c (.int .i64 5))),(3,1,(.c (.int .i64 9)))]) (some (.one (.int .i64))),none,[]⟩,oa 1 30 (.len (.t 29)),oi 2 31 0]) (.block 1 (.loop [0,2,29,30,31] 1 (.seq [32,31,30,29,2,0] (.region [oa 0 32 (.bin .lss (.t 31) (.t 30))]) (.seq [31,30,29,2,0] (.cond (.t 32) .skip (.exit 1)) (.seq [31,30,29,2,0] (.block 2 (.seq [31,30,29,4,2,0] (.region [oa 0 33 (.indexA 1 (.t 29) (.t 31)),ob 1 34 (.loadH none (.t 33)),om 2 4 34]) (.seq [31,30,29,6,5,4,2,0] (.region [om 0 36 0,om 1 37 4,oF 2 38 Hg [(.t 37)],oF 3 39 GW [(.t 36),(.t 38)],om 4 35 39,oa 5 40 (.extract (.t 35) 0),oa 6 41 (.extract (.t 35) 1),om 7 5 40,om 8 6 41]) (.seq [42,31,30,29,5,4,2,0] (.region [om 0 42 6]) (.cond (.t 42) (.seq [7,4,2] (.region [om 0 44 5,oF 1 45 G5 [(.t 44)],om 2 43 45,oa 3 46 (.extract (.t 43) 0),oa 4 47 (.extract (.t 43) 1),om 5 7 46,om 6 8 47]) (.seq [2] (.region [om 0 48 4,om 1 49 7,oa 2 50 (.build [(.int .i64 0),(.int .i64 0),(.int .i64 0),(.int .i64 0)] [(0,1,(.t 48)),(3,1,(.t 49))]),os 3 (.storeB 0 4 (.t 2) (.t 50))]) .ret)) .skip))))) (.region [oa 0 51 (.bin .add (.t 31) (.c (.int .i64 1))),om 1 31 51]))))))) (.seq [2,0] (.seq [10,9,2,0] (.region [om 0 53 0,oF 1 54 GW [(.t 53),(.c (.str [111,110,99,101,58]))],om 2 52 54,oa 3 55 (.extract (.t 52) 0),oa 4 56 (.extract (.t 52) 1),om 5 9 55,om 6 10 56]) (.seq [57,9,2,0] (.region [om 0 57 10]) (.cond (.t 57) (.seq [2] (.region [om 0 58 9,oF 1 59 FH [(.t 58)],oa 2 60 (.build [(.int .i64 0),(.int .i64 0),(.int .i64 0),(.int .i64 0)] [(0,1,(.c (.int .i64 8))),(2,1,(.t 59))]),os 3 (.storeB 0 4 (.t 2) (.t 60))]) .ret) .skip))) (.seq [2,0] (.seq [13,12,11,2,0] (.region [om 0 62 0,oF 1 63 FM [(.t 62),(.c (.str [47]))],om 2 61 63,oa 3 64 (.extract (.t 61) 0),oa 4 65 (.extract (.t 61) 1),oa 5 66 (.extract (.t 61) 2),om 6 11 64,om 7 12 65,om 8 13 66]) (.seq [67,12,11,2,0] (.region [om 0 67 13]) (.cond (.t 67) (.seq [12,11,2] (.seq [15,14,12,11,2] (.region [om 0 69 11,oF 1 70 G5 [(.t 69)],om 2 68 70,oa 3 71 (.extract (.t 68) 0),oa 4 72 (.extract (.t 68) 1),om 5 14 71,om 6 15 72]) (.seq [73,14,12,11,2] (.region [om 0 73 15]) (.cond (.t 73) (.seq [2] (.region [om 0 74 14,om 1 75 12,oF 2 76 EZ [(.t 75)],oa 3 77 (.build [(.int .i64 0),(.int .i64 0),(.int .i64 0),(.int .i64 0)] [(0,1,(.c (.int .i64 7))),(3,1,(.t 74)),(1,1,(.t 76))]),os 4 (.storeB 0 4 (.t 2) (.t 77))]) .ret) .skip))) (.seq [2] (.region [om 0 78 11,oF 1 79 FH [(.t 78)],om 2 80 12,oF 3 81 EZ [(.t 80)],oa 4 82 (.build [(.int .i64 0),(.int .i64 0),(.int .i64 0),(.int .i64 0)] [(0,1,(.c (.int .i64 6))),(2,1,(.t 79)),(1,1,(.t 81))]),os 5 (.storeB 0 4 (.t 2) (.t 82))]) .ret)) .skip))) (.seq [2,0] (.seq [18,17,16,2,0] (.region [om 0 84 0,oF 1 85 FM [(.t 84),(.c (.str [45]))],om 2 83 85,oa 3 86 (.extract (.t 83) 0),oa 4 87 (.extract (.t 83) 1),oa 5 88 (.extract (.t 83) 2),om 6 16 86,om 7 17 87,om 8 18 88]) (.seq [89,17,16,2,0] (.region [om 0 89 18]) (.cond (.t 89) (.seq [2] (.region [om 0 90 16,oF 1 91 FH [(.t 90)],om 2 92 17,oF 3 93 EZ [(.t 92)],oa 4 94 (.build [(.int .i64 0),(.int .i64 0),(.int .i64 0),(.int .i64 0)] [(0,1,(.c (.int .i64 2))),(2,1,(.t 91)),(1,1,(.t 93))]),os 5 (.storeB 0 4 (.t 2) (.t 94))]) .ret) .skip))) (.seq [2] (.region [om 0 95 0,oF 1 96 EZ [(.t 95)],oa 2 97 (.build [(.int .i64 0),(.int .i64 0),(.int .i64 0),(.int .i64 0)] [(0,1,(.c (.int .i64 2))),(1,1,(.t 96))]),os 3 (.storeB 0 4 (.t 2) (.t 97))]) .ret)))))))
def I9:Fn:=⟨⟨1,98,1,true,[.cell 2 (some 4)],mr⟩,[.one .frz (.str)],.one (.agg [(.own,.int .i64),(.own,.int .i64),(.own,.int .i64),(.own,.int .i64)])⟩
theorem mh:I9.A:=Bp ⟨cL,aT,bM,aT,Wl,WO,bM,SO,Wl,SO,WO,Wl,SO,SO,trivial⟩
def Dw:List UInt8→Int×Int×Int×Int:=I9.V
def RP:List UInt8→Prop:=I9.O
theorem mD:I9.B:=Bq ⟨cY,aS,bH,aS,Wm,WN,bH,S6,Wm,S6,WN,Wm,S6,S6,trivial⟩ (by kernel_rfl) (fun x=>by kernel_rfl)
def mB:DCode:=(.seq [2,0] (.region [oa 0 2 (.allocB 0 [(.int .i64 0),(.int .i64 0),(.int .i64 0),(.int .i64 0)]),oa 1 3 (.mv (.c (.bool false)))]) (.seq [4,2,0] (.region [om 0 5 0,oF 1 6 I9 [(.t 5)],oa 2 4 (.allocB 1 [(.int .i64 0),(.int .i64 0),(.int .i64 0),(.int .i64 0)]),os 3 (.storeB 1 4 (.t 4) (.t 6))]) (.seq [4,2] (.seq [15,4,2] (.region [oa 0 7 (.loadB 1 (some 4) (.t 4)),oF 1 8 Ea [(.t 7)],oa 2 9 (.un .not (.t 8)),om 3 10 9,og 4 11 (.loadB 1 (some 4) (.t 4)) 10 false,⟨5,some 12,.call false FE.S FE.P FE.D [(.t 11)],(some (10,false)),[]⟩,og 6 13 (.mv (.t 0)) 10 false,og 7 14 (.bin .neq (.t 12) (.t 13)) 10 false,oa 8 15 (.pick (.t 10) (.c (.bool true)) (.t 14))]) (.cond (.t 15) (.seq [3,2] (.region [oa 0 16 (.build [(.int .i64 0),(.int .i64 0),(.int .i64 0),(.int .i64 0)] []),os 1 (.storeB 0 4 (.t 2) (.t 16)),oa 2 3 (.mv (.c (.bool false)))]) .ret) .skip)) (.seq [3,2] (.region [ob 0 17 (.loadB 1 (some 4) (.t 4)),os 1 (.storeB 0 4 (.t 2) (.t 17)),oa 2 3 (.mv (.c (.bool true)))]) .ret))))
def Jb:Fn:=⟨⟨1,18,2,true,[.cell 2 (some 4),.tmp 3],mB⟩,[.one .frz (.str)],.tup [.agg [(.own,.int .i64),(.own,.int .i64),(.own,.int .i64),(.own,.int .i64)],.one .own (.bool)]⟩
theorem mj:Jb.A:=Bp ⟨mh,Sy,aO,trivial⟩
def Dx:List UInt8→(Int×Int×Int×Int)×Bool:=Jb.V
def O2:List UInt8→Prop:=Jb.O
theorem mn:Jb.B:=Bq ⟨mD,Sr,aR,trivial⟩ (by kernel_rfl) (fun x=>by kernel_rfl)
end
section
set_option maxRecDepth 100000
theorem pD (x):Jt x=((Jw x.1).1,(Jw x.1).2.1,(iAdd .i64 (Jw x.1).2.2 (iMul .i64 7919 x.2))):=by unfold Jt;exact(congrFun (shut _).2 x).trans (by kernel_rfl)
theorem pn (x):LI x=(NC x.1):=by unfold LI;exact(congrFun (shut _).2 x).trans (by kernel_rfl)
def Gt(x:(List (Int)×Int×Int)×Int):=AO ((x.1.1,(AO (x.1,56)).2),15)
def Cg(x:(List (Int)×Int×Int)×Int):=Cn ((x.1.1,(Gt x).2),2)
def Dz(x:(List (Int)×Int×Int)×Int):=AO ((x.1.1,(bSel (Cg x).1 (Cg x).2.1 (Cg x).2.1),(bSel (Cg x).1 (Cg x).2.2 (Cg x).2.2)),(iMax 1 (iSub .i64 x.2 1)))
def AM(x:(List (Int)×Int×Int)×Int):=AO ((x.1.1,(Dz x).2),16)
def Na(x:(List (Int)×Int×Int)×Int):=AO ((x.1.1,(AM x).2),4)
def Jl(x:(List (Int)×Int×Int)×Int):=AO ((x.1.1,(AM x).2),3)
def Nc(x:(List (Int)×Int×Int)×Int):=AO ((x.1.1,(AM x).2),(iMax 1 x.2))
theorem pO (x):KA x=(bSel (bAnd (bNot (iEq (AM x).1 0)) (bAnd (bNot (iEq (AM x).1 1)) (bAnd (bNot (bOr (iEq (AM x).1 2) (iEq (AM x).1 3))) (bAnd (bNot (iEq (AM x).1 4)) (bAnd (bNot (iEq (AM x).1 5)) (bAnd (bNot (iEq (AM x).1 6)) (bAnd (bNot (iEq (AM x).1 7)) (bOr (bNot (bOr (iEq (AM x).1 8) (bOr (iEq (AM x).1 9) (iEq (AM x).1 10)))) (bNot (iGt x.2 1)))))))))) ((2,(iAdd .i64 1 (AO (x.1,56)).1),0,0),(bSel (bOr (iEq (AM x).1 8) (bOr (iEq (AM x).1 9) (iEq (AM x).1 10))) (AM x).2.1 (AM x).2.1),(bSel (bOr (iEq (AM x).1 8) (bOr (iEq (AM x).1 9) (iEq (AM x).1 10))) (AM x).2.2 (AM x).2.2)) (bSel (iEq (AM x).1 0) ((2,(iAdd .i64 1 (AO (x.1,56)).1),(bSel (Cg x).1 2 (iAdd .i64 1 (Gt x).1)),0),(AM x).2) (bSel (iEq (AM x).1 1) ((2,0,(bSel (Cg x).1 2 (iAdd .i64 1 (Gt x).1)),0),(AM x).2) (bSel (bOr (iEq (AM x).1 2) (iEq (AM x).1 3)) ((6,(iAdd .i64 1 (AO (x.1,56)).1),(bSel (Cg x).1 2 (iAdd .i64 1 (Gt x).1)),0),(AM x).2) (bSel (iEq (AM x).1 4) ((8,0,(bSel (Cg x).1 2 (iAdd .i64 1 (Gt x).1)),0),(AM x).2) (bSel (iEq (AM x).1 5) ((9,0,0,(Na x).1),(Na x).2) (bSel (iEq (AM x).1 6) ((10,0,0,0),(AM x).2) (bSel (iEq (AM x).1 7) ((5,0,0,(Nc x).1),(Nc x).2) ((lGet [(3,0,0,(iAdd .i64 1 (Dz x).1)),(4,0,0,(iAdd .i64 1 (Dz x).1)),(7,(iAdd .i64 1 (AO (x.1,56)).1),0,(iAdd .i64 1 (Dz x).1))] (iNat (Jl x).1) (0,0,0,0)),(Jl x).2))))))))):=by unfold KA;exact(congrFun (shut _).2 x).trans (by kernel_rfl)
theorem p6 (x):Nl x=((Eo (x.1,56))∧((Eo ((x.1.1,(AO (x.1,56)).2),15))∧((Jr ((x.1.1,(Gt x).2),2))∧((Eo ((x.1.1,(bSel (Cg x).1 (Cg x).2.1 (Cg x).2.1),(bSel (Cg x).1 (Cg x).2.2 (Cg x).2.2)),(iMax 1 (iSub .i64 x.2 1))))∧((Eo ((x.1.1,(Dz x).2),16))∧(((iEq (AM x).1 0)=true→True)∧((iEq (AM x).1 0)=false→(((iEq (AM x).1 1)=true→True)∧((iEq (AM x).1 1)=false→(((bOr (iEq (AM x).1 2) (iEq (AM x).1 3))=true→True)∧((bOr (iEq (AM x).1 2) (iEq (AM x).1 3))=false→(((iEq (AM x).1 4)=true→True)∧((iEq (AM x).1 4)=false→(((iEq (AM x).1 5)=true→(Eo ((x.1.1,(AM x).2),4)))∧((iEq (AM x).1 5)=false→(((iEq (AM x).1 6)=true→True)∧((iEq (AM x).1 6)=false→(((iEq (AM x).1 7)=true→(Eo ((x.1.1,(AM x).2),(iMax 1 x.2))))∧((iEq (AM x).1 7)=false→(((bOr (iEq (AM x).1 8) (bOr (iEq (AM x).1 9) (iEq (AM x).1 10)))=true→(((iGt x.2 1)=true→((Eo ((x.1.1,(AM x).2),3))∧((((0:Int)≤(Jl x).1)∧((Jl x).1<(((List.length [(3,0,0,(iAdd .i64 1 (Dz x).1)),(4,0,0,(iAdd .i64 1 (Dz x).1)),(7,(iAdd .i64 1 (AO (x.1,56)).1),0,(iAdd .i64 1 (Dz x).1))]):Int))))∧((iNat (Jl x).1)<(List.length [(3,0,0,(iAdd .i64 1 (Dz x).1)),(4,0,0,(iAdd .i64 1 (Dz x).1)),(7,(iAdd .i64 1 (AO (x.1,56)).1),0,(iAdd .i64 1 (Dz x).1))])))))∧((iGt x.2 1)=false→True)))∧((bOr (iEq (AM x).1 8) (bOr (iEq (AM x).1 9) (iEq (AM x).1 10)))=false→True))))))))))))))))))))):=by unfold Nl;exact(congrFun (shut _).2 x).trans (by kernel_rfl)
theorem aG (x):Lq x=(bAnd (iGe (lLen x.1) (lLen x.2)) (sEq (lSub x.1 0 (iNat (lLen x.2))) x.2)):=(I1.v x).trans (by kernel_rfl)
theorem aH (x):OU x=(((iGe (lLen x.1) (lLen x.2))=true→(((0:Int)≤(lLen x.2))∧((0≤(iNat (lLen x.2)))∧((iNat (lLen x.2))≤(List.length x.1)))))∧((iGe (lLen x.1) (lLen x.2))=false→True)):=(I1.o x).trans (by kernel_rfl)
theorem aF (x):V3 x=(bSel (bNot (Lq x)) (x.1,false) ((lSub x.1 (iNat (lLen x.2)) (lN x.1)),true)):=(I2.v x).trans (by kernel_rfl)
theorem aI (x):V2 x=((OU x)∧(((bNot (Lq x))=true→True)∧((bNot (Lq x))=false→(((0:Int)≤(lLen x.2))∧(((iNat (lLen x.2))≤(lN x.1))∧((lN x.1)≤(List.length x.1))))))):=(I2.o x).trans (by kernel_rfl)
theorem aP (x):EP x=(V3 x):=(GW.v x).trans (by kernel_rfl)
theorem aU (x):Ls x=(V2 x):=(GW.o x).trans (by kernel_rfl)
theorem nS (x):Gv x=(bSel (bOr (iLt (lLen x) 1) (iGt (lLen x) 10)) (0,false) (bSel (bOr (bNot (DU x).2) (bOr (iLt (DU x).1 (-999999999)) (bOr (iGt (DU x).1 999999999) (sNe (FI (DU x).1) x)))) (0,false) ((DU x).1,true))):=(G5.v x).trans (by kernel_rfl)
theorem nA (x):LC x=(((bOr (iLt (lLen x) 1) (iGt (lLen x) 10))=true→True)∧((bOr (iLt (lLen x) 1) (iGt (lLen x) 10))=false→((Nh x)∧(((bNot (DU x).2)=true→True)∧((bNot (DU x).2)=false→(((iLt (DU x).1 (-999999999))=true→True)∧((iLt (DU x).1 (-999999999))=false→(((iGt (DU x).1 999999999)=true→True)∧((iGt (DU x).1 999999999)=false→(Jg (DU x).1)))))))))):=(G5.o x).trans (by kernel_rfl)
def FC(x:List UInt8)(x0:Int):Bool:=(bAnd (iLt x0 (lLen [(3:Int),4,5,9])) (bNot (EP (x,(Hh (lGet [3,4,5,9] (iNat x0) 0)))).2))
def Gq(x0:Int):Int:=(iAdd .i64 x0 1)
def RJ(x:List UInt8)(x0:Int):Prop:=(((iLt x0 (lLen [(3:Int),4,5,9]))=true→((((0:Int)≤x0)∧(x0<(((List.length [(3:Int),4,5,9]):Int))))∧(((iNat x0)<(List.length [(3:Int),4,5,9]))∧((PA (lGet [3,4,5,9] (iNat x0) 0))∧((Ls (x,(Hh (lGet [3,4,5,9] (iNat x0) 0))))∧(((EP (x,(Hh (lGet [3,4,5,9] (iNat x0) 0)))).2=true→(LC (EP (x,(Hh (lGet [3,4,5,9] (iNat x0) 0)))).1))∧((EP (x,(Hh (lGet [3,4,5,9] (iNat x0) 0)))).2=false→True)))))))∧((iLt x0 (lLen [(3:Int),4,5,9]))=false→True))
theorem MY (x):Dw x=(bSel (sEq x [(110:UInt8),111,110,101]) (0,0,0,0) (bSel (sEq x [(112:UInt8),97,115,115]) (1,0,0,0) (bSel (sEq x [(99:UInt8),97,112,115]) (10,0,0,0) (bSel (iLt (Al (FC x) Gq 0) (lLen [(3:Int),4,5,9])) ((lGet [3,4,5,9] (iNat (Al (FC x) Gq 0)) 0),0,0,(Gv (EP (x,(Hh (lGet [3,4,5,9] (iNat (Al (FC x) Gq 0)) 0)))).1).1) (bSel (EP (x,[(111:UInt8),110,99,101,58])).2 (8,0,(Kj (EP (x,[(111:UInt8),110,99,101,58])).1),0) (bSel (AN (x,[(47:UInt8)])).2.2 (bSel (Gv (AN (x,[(47:UInt8)])).1).2 (7,(Hf (AN (x,[(47:UInt8)])).2.1),0,(Gv (AN (x,[(47:UInt8)])).1).1) (6,(Hf (AN (x,[(47:UInt8)])).2.1),(Kj (AN (x,[(47:UInt8)])).1),0)) (bSel (AN (x,[(45:UInt8)])).2.2 (2,(Hf (AN (x,[(45:UInt8)])).2.1),(Kj (AN (x,[(45:UInt8)])).1),0) (2,(Hf x),0,0)))))))):=(I9.v x).trans (by kernel_rfl)
theorem mz (x):RP x=(((sEq x [(110:UInt8),111,110,101])=true→True)∧((sEq x [(110:UInt8),111,110,101])=false→(((sEq x [(112:UInt8),97,115,115])=true→True)∧((sEq x [(112:UInt8),97,115,115])=false→(((sEq x [(99:UInt8),97,112,115])=true→True)∧((sEq x [(99:UInt8),97,112,115])=false→((LoopOk (FC x) Gq (RJ x) 0)∧(((iLt (Al (FC x) Gq 0) (lLen [(3:Int),4,5,9]))=true→True)∧((iLt (Al (FC x) Gq 0) (lLen [(3:Int),4,5,9]))=false→((Ls (x,[(111:UInt8),110,99,101,58]))∧(((EP (x,[(111:UInt8),110,99,101,58])).2=true→(Lw (EP (x,[(111:UInt8),110,99,101,58])).1))∧((EP (x,[(111:UInt8),110,99,101,58])).2=false→((Ks (x,[(47:UInt8)]))∧(((AN (x,[(47:UInt8)])).2.2=true→((LC (AN (x,[(47:UInt8)])).1)∧(((Gv (AN (x,[(47:UInt8)])).1).2=true→(Kt (AN (x,[(47:UInt8)])).2.1))∧((Gv (AN (x,[(47:UInt8)])).1).2=false→((Lw (AN (x,[(47:UInt8)])).1)∧(Kt (AN (x,[(47:UInt8)])).2.1))))))∧((AN (x,[(47:UInt8)])).2.2=false→((Ks (x,[(45:UInt8)]))∧(((AN (x,[(45:UInt8)])).2.2=true→((Lw (AN (x,[(45:UInt8)])).1)∧(Kt (AN (x,[(45:UInt8)])).2.1)))∧((AN (x,[(45:UInt8)])).2.2=false→(Kt x))))))))))))))))))):=(I9.o x).trans (by kernel_rfl)
theorem mC (x):Dx x=(bSel (bOr (bNot (B8 (Dw x))) (sNe (Lt (Dw x)) x)) ((0,0,0,0),false) ((Dw x),true)):=(Jb.v x).trans (by kernel_rfl)
theorem mu (x):O2 x=((RP x)∧((Km (Dw x))∧(((bNot (B8 (Dw x)))=true→True)∧((bNot (B8 (Dw x)))=false→(O0 (Dw x)))))):=(Jb.o x).trans (by kernel_rfl)
attribute [irreducible] Lq OU V3 V2 EP Ls Gv LC Dw RP Dx O2
end
theorem AH(a:Bool):bNot a=!a:=by simp only[Oq]
theorem Ax(a b:Bool):bAnd a b=(a&&b):=by simp only[ZO]
theorem BC(a b:Bool):bOr a b=(a||b):=by simp only[kS]
theorem Og(a b:Bool):bIff a b=(a == b):=by simp only[kt]
theorem AR{α:Type}(c:Bool)(x y:α):bSel c x y=if c=true then x else y:=by cases c<;>simp[Ch,BQ]
theorem Bc(a b:Int):iEq a b=decide (a=b):=by
 rw[VF];by_cases h:a=b<;>simp[h]
theorem Cm(a b:Int):iNe a b=!decide (a=b):=by
 rw[kZ];by_cases h:a=b<;>simp[h]
theorem An(a b:Int):iLt a b=decide (a<b):=by simp only[lr]
theorem B6(a b:Int):iLe a b=decide (a≤b):=by simp only[kO]
theorem C4(a b:Int):iGt a b=decide (b<a):=by simp only[kP]
theorem CE(a b:Int):iGe a b=decide (b≤a):=by simp only[kY]
theorem DI(a b:List UInt8):sEq a b=(a == b):=by simp only[kX]
theorem Ot(a b:List UInt8):sNe a b=!(a == b):=by simp only[kQ]
section
variable {α:Type}
theorem Am(l:List α):lLen l=(l.length:Int):=by simp only[Zt]
theorem Gb(l:List α):lN l=l.length:=by simp only[Rt]
theorem BB(l:List α)(j:Nat)(d:α):lGet l j d=l.getD j d:=by simp only[Ox]
theorem xc(l:List α)(j:Nat)(x:α):lSet l j x=l.set j x:=by simp only[QP]
theorem DX(l:List α)(a b:Nat):lSub l a b=(l.drop a).take (b-a):=by simp only[Zk]
theorem iO(l:List α)(n:Nat):lTake l n=l.take n:=by simp only[YT]
theorem BW(l m:List α):lApp l m=l++m:=by simp only[Ms]
theorem xe(n:Int)(x:α):lRep n x=List.replicate n.toNat x:=by simp only[j7]
theorem Ay(a:Int):iNat a=a.toNat:=by simp only[Zp]
theorem Ir(a b:List UInt8):sAdd a b=a++b:=by simp only[ko]
end
def As(n:Int):Prop:=-9223372036854775808≤n∧n≤9223372036854775807
theorem Gz{n:Int}(h:As n):IntKind.i64.wrap n=n:=by
 obtain⟨h1,h2⟩:=h;show (if decide (n % 18446744073709551616≥9223372036854775808)=true then n % 18446744073709551616-18446744073709551616 else n % 18446744073709551616)=n;simp only[Ar];split<;>omega
theorem AQ{a b:Int}(h:As (a+b)):iAdd .i64 a b=a+b:=by rw[kj];exact Gz h
theorem Hq{a b:Int}(h:As (a-b)):iSub .i64 a b=a-b:=by rw[ku];exact Gz h
theorem UE{a b:Int}(h:As (a*b)):iMul .i64 a b=a*b:=by rw[j0];exact Gz h
theorem iu{a:Int}(h:As (0-a)):iNeg .i64 a=-a:=by rw[kc];rw[Gz h];omega
theorem uY{a:Int}(h:As a):iConv .i64 a=a:=by rw[YQ];exact Gz h
theorem wR{a b:Int}(ha:0≤a)(h:As (a / b)):iQuo .i64 a b=a / b:=by
 rw[ZN];rw[Int.tdiv_eq_ediv_of_nonneg ha];exact Gz h
theorem YZ{a b:Int}(ha:0≤a):iRem a b=a % b:=by rw[Y9];exact Int.tmod_eq_emod_of_nonneg ha
section
variable {X:Type} {c:X→Bool} {f:X→X} {p:X→Prop}
theorem Hn(I:X→Prop)(m:X→Nat)(h:∀ x,I x→p x∧(c x=true→I (f x)∧m (f x)<m x)){x0:X}(h0:I x0) :
 LoopOk c f p x0∧I (Al c f x0)∧c (Al c f x0)=false:=by
 have go:∀ (n:Nat) (x:X),m x<n→I x→∃ y,LoopTo c f p x y∧I y∧c y=false:=by
  intro n
  induction n with
  |zero=>intro x hm;exact absurd hm (Vq _)
  | succ n ih=>
    intro x hm hI;obtain⟨h1,h2⟩:=h x hI
    cases hc:c x with
    |false=>exact⟨x,.stop h1 hc,hI,hc⟩
    | true=>
      obtain⟨h3,h4⟩:=h2 hc;obtain⟨y,h5,h6,h7⟩:=ih (f x) (by omega) h3;exact⟨y,.go h1 hc h5,h6,h7⟩
 obtain⟨y,h1,h2,h3⟩:=go _ x0 (Vw _) h0
 rw[h1.val]
 exact⟨⟨y,h1⟩,h2,h3⟩
theorem T8(I:X→Prop)(m:X→Nat)(h:∀ x,I x→c x=true→I (f x)∧m (f x)<m x){x0:X}(h0:I x0):I (Al c f x0)∧c (Al c f x0)=false:=
 (Hn (p:=fun _=>True) I m (fun x hx=>⟨trivial,h x hx⟩) h0).2
theorem DE(n:Nat)(st:Nat→X){x0:X}(h0:st 0=x0)(hs:∀ k,k<n→p (st k)∧c (st k)=true∧f (st k)=st (k+1))(he:p (st n)∧c (st n)=false):LoopOk c f p x0∧Al c f x0=st n:=by
 have go:∀ k,k≤n→LoopTo c f p (st (n-k)) (st n):=by
  intro k
  induction k with
  |zero=>intro _;exact .stop he.1 he.2
  | succ k ih=>
    intro hk;obtain⟨h1,h2,h3⟩:=hs (n-(k+1)) (by omega);refine .go h1 h2 ?_;rw[h3,show n-(k+1)+1=n-k by omega];exact ih (by omega)
 have:=go n (AU _);rw[VB,h0] at this;exact⟨⟨_,this⟩,this.val⟩
end
def CD(t:Nat→Bool):Nat→Nat→Nat
 |0,i=>i
 |k+1,i=>if t i then i else CD t k (i+1)
theorem NM(t:Nat→Bool):∀ k i,i≤CD t k i∧CD t k i≤i+k
 |0,i=>⟨AU _,AU _⟩
 | k+1,i=>by
   unfold CD
   split
   · omega
   · have:=NM t k (i+1);omega
theorem PZ(t:Nat→Bool):∀ k i,CD t k i<i+k→t (CD t k i)=true
 |0,i,h=>by unfold CD at h;omega
 | k + 1,i,h=>by
   unfold CD at h ⊢
   split
   · rename_i ht;exact ht
   · rename_i ht
     rw[Ad ht] at h
     exact PZ t k (i+1) (by omega)
theorem PY(t:Nat→Bool):∀ k i j,i≤j→j<CD t k i→t j=false
 |0,i,j,h,h'=>by unfold CD at h';omega
 | k + 1,i,j,h,h'=>by
   unfold CD at h'
   split at h'
   · omega
   · rename_i ht
     by_cases hj:j=i
     · subst hj;simpa using ht
     · exact PY t k (i+1) j (by omega) h'
theorem tZ{c:Int→Bool}{f:Int→Int}{p:Int→Prop}(n:Nat)(t:Nat→Bool)(hn:(n:Int)≤9223372036854775806)(hc:∀ i:Nat,i≤n→c i=(decide (i<n)&&!t i))(hf:∀ i:Nat,i<n→f i=iAdd .i64 i 1)(hp:∀ i:Nat,i≤n→p i) :
 LoopOk c f p 0∧Al c f 0=(CD t n 0:Nat):=by
 have hle:=NM t n 0
 refine DE (CD t n 0) (fun k=>(k:Int)) rfl (fun k hk=>?_) ⟨hp _ (by omega),?_⟩
 · have hk':k<n:=by omega
   refine⟨hp k (by omega),?_,?_⟩
   · rw[hc k (by omega),PY t n 0 k (by omega) hk];simp[hk']
   · rw[hf k hk',AQ (by unfold As;omega)];omega
 · rw[hc _ (by omega)]
   by_cases h:CD t n 0<n
   · rw[PZ t n 0 (by omega)];simp
   · simp[h]
theorem eM{t:Nat→Bool}{n:Nat}:CD t n 0=n↔∀ i,i<n→t i=false:=by
 constructor
 · intro h i hi;exact PY t n 0 i (by omega) (by omega)
 · intro h;have hle:=NM t n 0;rcases Bn (CD t n 0) n with h1|h1
   · have:=PZ t n 0 (by omega);rw[h _ h1] at this;cases this
   · omega
theorem yO{c:Int→Bool}{f:Int→Int}(n:Nat)(t:Nat→Bool)(hn:(n:Int)≤9223372036854775806)(hc:∀ i:Nat,i≤n→c i=(decide (i<n)&&!t i))(hf:∀ i:Nat,i<n→f i=iAdd .i64 i 1):Al c f 0=(CD t n 0:Nat):=(tZ (p:=fun _=>True) n t hn hc hf (fun _ _=>trivial)).2
theorem KL{α:Type}(x:List α)(i:Nat)(d:α)(h:i<x.length):x.getD i d∈x:=by
 rw[Ck,AE h];exact D3 h
theorem Ov{X:Type}{c:X→Bool}{f:X→X}{p:X→Prop}(ix:X→Int)(n:Int)(hn:n≤9223372036854775806)(hc:∀ x,0≤ix x→ix x≤n→c x=true→ix x<n)(hf:∀ x,ix (f x)=iAdd .i64 (ix x) 1)(hp:∀ x,0≤ix x→ix x≤n→p x){x0:X}(h0:0≤ix x0)(h1:ix x0≤n):LoopOk c f p x0:=by
 refine(Hn (fun x=>0≤ix x∧ix x≤n) (fun x=>(n-ix x).toNat) (fun x hI=>⟨hp x hI.1 hI.2,fun hcc=>?_⟩) ⟨h0,h1⟩).1;have:=hc x hI.1 hI.2 hcc;obtain⟨k1,k2⟩:=hI;have e:=hf x;rw[AQ (by unfold As;omega)] at e;refine⟨by omega,by omega⟩
theorem Jz(x:Int×Int×Int×Int):Cj x=B8 x:=by
 simp only[Wp,Sv,Hj,SV,WJ,bS,AH,Ax,BC,Og,AR,Bc,Cm,An,B6,C4,CE,DI,Ot,Am,Gb,BB,xc,DX,iO,BW,xe,Ay,Ir];rw[OD]
 repeat' split
 all_goals simp only[Af,BL,B9,Ee,HN,Cy,Ar,Bt,Iw,ID,AY,Hw] at *
 all_goals omega
theorem R5(x:Int×Int×Int×Int):Ko x:=by
 have h:∀ y,Gy y:=fun y=>by rw[ND];trivial
 rw[nZ];simp[h]
theorem R4(x:Int×Int×Int×Int):Km x:=by
 have h1:∀ y,LJ y:=fun y=>by rw[cR];trivial
 have h2:∀ y,LH y:=fun y=>by rw[pK];trivial
 have h3:∀ y,Pr y:=fun y=>by rw[oG];trivial
 rw[nF];simp[h1,h2,h3]
theorem UU(a b c:Int):BP (a,b,c)=(decide (b≤a)&&decide (a≤c)):=by rw[Hj];simp only[Ax,CE,B6]
theorem xt (x):Gy x:=by rw[ND];trivial
theorem iM {X Y:Type} {c:X→Bool} {f:X→X} {p:X→Prop} {d:Y→Bool} {g:Y→Y} {q:Y→Prop} (R:X→Y→Prop) (m:X→Nat)
 (h:∀ x y,R x y→p x∧q y∧c x=d y∧(c x=true→R (f x) (g y)∧m (f x)<m x)) {x0:X} {y0:Y} (h0:R x0 y0) :
 LoopOk c f p x0∧LoopOk d g q y0∧R (Al c f x0) (Al d g y0)∧c (Al c f x0)=false:=by
 have go:∀ (n:Nat) (x:X) (y:Y),m x<n→R x y→∃ u v,LoopTo c f p x u∧LoopTo d g q y v∧R u v∧c u=false:=by
  intro n
  induction n with
  |zero=>intro x y hm;exact absurd hm (Vq _)
  | succ n ih=>
    intro x y hm hR;obtain⟨h1,h2,h3,h4⟩:=h x y hR
    cases hc:c x with
    |false=>exact⟨x,y,.stop h1 hc,.stop h2 (by rw[← h3];exact hc),hR,hc⟩
    | true=>
      obtain⟨h5,h6⟩:=h4 hc;obtain⟨u,v,a1,a2,a3,a4⟩:=ih _ _ (by omega) h5;exact⟨u,v,.go h1 hc a1,.go h2 (by rw[← h3];exact hc) a2,a3,a4⟩
 obtain⟨u,v,a1,a2,a3,a4⟩:=go _ x0 y0 (Vw _) h0
 exact⟨⟨_,a1⟩,⟨_,a2⟩,by rw[a1.val,a2.val];exact a3,by rw[a1.val];exact a4⟩
theorem Ur{X:Type}{c:X→Bool}{f:X→X}{p:X→Prop}(I:X→Prop)(m:X→Nat)(h:∀ x,I x→p x∧(c x=true→I (f x)∧m (f x)<m x)){x0:X}(h0:I x0) :
 LoopOk c f p x0∧I (Al c f x0)∧c (Al c f x0)=false:=Hn I m h h0
theorem Of{X:Type}{c:X→Bool}{f:X→X}{p:X→Prop}(n:Nat)(st:Nat→X)(t:Nat→Bool){x0:X}(h0:st 0=x0)(hc:∀ i,i≤n→(∀ j,j<i→t j=true)→c (st i)=(decide (i<n)&&t i))(hf:∀ i,i<n→(∀ j,j≤i→t j=true)→f (st i)=st (i+1))(hp:∀ i,i≤n→(∀ j,j<i→t j=true)→p (st i)) :
 LoopOk c f p x0∧∃ k,k≤n∧Al c f x0=st k∧(k=n↔∀ i,i<n→t i=true):=by
 have hle:=NM (fun i=>!t i) n 0
 have hno:∀ j,j<CD (fun i=>!t i) n 0→t j=true:=fun j hj=>by
  have:=PY (fun i=>!t i) n 0 j (by omega) hj;simpa using this
 have:=DE (c:=c) (f:=f) (p:=p) (CD (fun i=>!t i) n 0) st h0 (fun k hk=>by
  refine⟨hp k (by omega) (fun j hj=>hno j (by omega)),?_,hf k (by omega) (fun j hj=>hno j (by omega))⟩;rw[hc k (by omega) (fun j hj=>hno j (by omega)),hno k hk]
  have:k<n:=by omega
  simp[this]) ⟨hp _ (by omega) hno,by
  rw[hc _ (by omega) hno];by_cases h:CD (fun i=>!t i) n 0<n
  · have:=PZ (fun i=>!t i) n 0 (by omega);simp only[B9] at this;rw[this];simp
  · simp[h]⟩
 refine⟨this.1,_,by omega,this.2,?_⟩
 rw[eM]
 simp
theorem Il{α:Type}(x:List α)(d:α){i:Nat}(h:i<x.length):x.take i++[x.getD i d]=x.take (i+1):=by
 rw[Zr,Ck,AE h];rfl
theorem xo{n:Int}(h0:0≤n)(h1:n<256):IntKind.u8.wrap n=n:=by
 simp only[IntKind.wrap,IntKind.bits,IntKind.signed,OB,AP,A3];omega
theorem jK{n:Int}(h0:0≤n)(h1:n<256):iConv .u8 n=n:=by rw[YQ];exact xo h0 h1
theorem vT{n:Int}(h0:0≤n)(h1:n<9223372036854775808):iConv .i64 n=n:=uY (by unfold As;omega)
theorem YA{a b:Nat}(ha:a<9223372036854775808)(hb:b<9223372036854775808):iAnd .i64 (a:Int) (b:Int)=((a &&& b:Nat):Int):=by
 have e:(BitVec.ofInt 64 (a:Int) &&& BitVec.ofInt 64 (b:Int)).toNat=a &&& b:=by
  rw[BitVec.ofInt_natCast,BitVec.ofInt_natCast,BitVec.toNat_and,BitVec.toNat_ofNat,BitVec.toNat_ofNat,Nat.mod_eq_of_lt (by omega),Nat.mod_eq_of_lt (by omega)]
 have h:a &&& b≤a:=Nat.and_le_left;rw[Zg];show IntKind.i64.wrap ((BitVec.ofInt 64 (a:Int) &&& BitVec.ofInt 64 (b:Int)).toNat:Int)=_;rw[e];exact Gz (by unfold As;omega)
theorem ZM{a b:Nat}(ha:a<4611686018427387904)(hb:b<4611686018427387904):iOr .i64 (a:Int) (b:Int)=((a ||| b:Nat):Int):=by
 have e:(BitVec.ofInt 64 (a:Int) ||| BitVec.ofInt 64 (b:Int)).toNat=a ||| b:=by
  rw[BitVec.ofInt_natCast,BitVec.ofInt_natCast,BitVec.toNat_or,BitVec.toNat_ofNat,BitVec.toNat_ofNat,Nat.mod_eq_of_lt (by omega),Nat.mod_eq_of_lt (by omega)]
 have h:a ||| b<2^62:=Nat.or_lt_two_pow (by omega) (by omega)
 rw[kU];show IntKind.i64.wrap ((BitVec.ofInt 64 (a:Int) ||| BitVec.ofInt 64 (b:Int)).toNat:Int)=_;rw[e];exact Gz (by unfold As;omega)
theorem jP(a k:Nat)(h:k≤64):iShr .i64 (a:Int) (k:Int)=((a / 2^k:Nat):Int):=by
 rw[jZ];show Int.fdiv (a:Int) (2^min (k:Int).toNat 64)=_;rw[AK,Nat.min_eq_left h,Int.fdiv_eq_ediv_of_nonneg _ (by exact_mod_cast ED _)];norm_cast
theorem xz{a k:Nat}(hk:k≤64)(h:a*2^k<9223372036854775808):iShl .i64 (a:Int) (k:Int)=((a*2^k:Nat):Int):=by
 rw[jY];show IntKind.i64.wrap ((a:Int)*2^min (k:Int).toNat 64)=_;rw[AK,Nat.min_eq_left hk]
 have:((a:Int)*2^k)=((a*2^k:Nat):Int):=by norm_cast
 rw[this];exact Gz (by unfold As;omega)
def Bytes(x:List Int):Prop:=∀ a∈x,0≤a∧a<256
theorem Bytes.get{x:List Int}(h:Bytes x)(i:Nat):∃ n:Nat,n<256∧x.getD i 0=(n:Int):=by
 by_cases hi:i<x.length
 · obtain⟨h0,h1⟩:=h _ (KL x i 0 hi);exact⟨(x.getD i 0).toNat,by omega,by omega⟩
 · exact⟨0,by omega,by rw[Ck,Bv (by omega)];rfl⟩
theorem Bytes.of{x:List Int}(h:CT.wf (.sl (.one (.int .u8))) x):Bytes x:=by
 intro a ha;have:=h.2 a ha;simp only[RT.wf,CT.wf] at this
 have h:IntKind.u8.min≤a∧a≤IntKind.u8.max:=by simpa [Lit.wf] using this
 have e1:IntKind.u8.min=0:=by decide
 have e2:IntKind.u8.max=255:=by decide
 rw[e1,e2] at h;omega
def RepOk(x:Int×List Int):Prop:=(0≤x.1∧x.1≤15)∧∀ i,i<x.2.length→(1≤x.2.getD i 0∧x.2.getD i 0≤56)∧(0<i→x.2.getD (i-1) 0<x.2.getD i 0)
theorem RepOk.code{x:Int×List Int}(h:RepOk x)(i:Nat)(hi:i<x.2.length):(i:Int)+1≤x.2.getD i 0:=by
 induction i with
 |zero=>have:=(h.2 0 hi).1;omega
 | succ i ih=>
   have h1:=ih (by omega);have h2:=(h.2 (i+1) hi).2 (by omega);rw[Nat.add_sub_cancel] at h2;omega
theorem RepOk.len{x:Int×List Int}(h:RepOk x):x.2.length≤56:=by
 rcases Bn 56 x.2.length with h1|h1
 · have h2:=h.code 56 h1;have h3:=(h.2 56 h1).1;omega
 · exact h1
section
set_option maxRecDepth 20000
theorem Io{n:Nat}(h:n≤1048577000):AA n:=by unfold AA;exact Ey h (by decide)
theorem Qy(s:List UInt8)(j:Int):sGet s j=((s.getD j.toNat 0).toNat:Int):=by simp only[jX]
theorem L7(s:List UInt8):sRow s=s.map fun b=>((b.toNat:Nat):Int):=by simp only[ke]
theorem YL(l:List Int):rowS l=l.map fun n=>UInt8.ofNat n.toNat:=by simp only[kv]
theorem tQ(s:List UInt8):rowS (sRow s)=s:=by
 rw[L7,YL,List.map_map]
 conv=>rhs;rw[← List.map_id s]
 apply List.map_congr_left;intro b _;simp
theorem iw(a b:List UInt8):sRow (a++b)=sRow a++sRow b:=by rw[L7,L7,L7,Ez]
theorem iC(a:List UInt8):(sRow a).length=a.length:=by rw[L7,AL]
def DK:List UInt8→Int→List (List UInt8)
 |[],_=>[[]]
 |b::r,c=>if (b.toNat:Int)=c then []::DK r c else match DK r c with|[]=>[[b]]|w::ws=>(b::w)::ws
theorem TU:∀ (s:List UInt8) (c:Int),(∀ b∈s,(b.toNat:Int)≠c)→DK s c=[s]
 |[],_,_=>rfl
 | b::r,c,h=>by
   have e:=TU r c (fun x hx=>h x (by simp[hx]))
   simp[DK,h b (by simp),e]
theorem Uf:∀ (a:List UInt8) (b:UInt8) (r:List UInt8) (c:Int),(∀ x∈a,(x.toNat:Int)≠c)→(b.toNat:Int)=c→DK (a++b::r) c=a::DK r c
 |[],b,r,c,_,h=>by simp[DK,h]
 | x::a,b,r,c,ha,h=>by
   have e:=Uf a b r c (fun y hy=>ha y (by simp[hy])) h
   simp[DK,ha x (by simp),e]
theorem fj{s:List UInt8}{F I:Nat}(h:F≤I)(hI:I<s.length):s.drop F=(s.drop F).take (I-F)++s.getD I 0::s.drop (I+1):=by
 rw[Ck,AE hI,Hv]
 conv=>lhs;rw[← List.take_append_drop (I-F) (s.drop F)]
 rw[List.drop_drop,show F+(I-F)=I by omega,QF hI]
theorem tN(s:List UInt8)(c:Int)(h:s.length≤1048576):Wk (s,c)∧Wy (s,c)=DK s c:=by
 rw[Wk,Wy]
 have key:=Hn (c:=O4 (s,c)) (f:=RR (s,c)) (p:=V9 (s,c))
  (fun st=>∃ (out:List (List UInt8)) (F I:Nat),st=(out,(F:Int),(I:Int))∧out.length≤I∧((F≤I∧I≤s.length∧(∀ b∈(s.drop F).take (I-F),(b.toNat:Int)≠c)∧DK s c=out++DK (s.drop F) c)∨(I=s.length+1∧DK s c=out)))
  (fun st=>s.length+1-st.2.2.toNat) (fun st hI=>?_) (x0:=([],0,0)) ⟨[],0,0,rfl,by simp,.inl ⟨AU _,ED _,by simp,rfl⟩⟩
 · obtain⟨k1,⟨out,F,I,e,_,hh⟩,k2⟩:=key;refine⟨k1,?_⟩;rw[e] at k2 ⊢;simp only[O4,B6,Am,Bt] at k2;rcases hh with⟨_,h1,_⟩|⟨_,h1⟩
   · omega
   · exact h1.symm
 · obtain⟨out,F,I,rfl,hl,hh⟩:=hI;simp only[O4,RR,V9,B6,Bc,Am,Ay,AK,DX,BW,Qy,BC,AR,Ar,Bt,AB,AD]
   have ha:iAdd .i64 (I:Int) 1=((I+1:Nat):Int):=by
    rw[AQ (by unfold As;rcases hh with⟨_,h1,_⟩|⟨h1,_⟩<;>omega)];rfl
   rw[ha];rcases hh with⟨hFI,hIl,hfree,hs⟩|⟨hI1,hs⟩
   · refine⟨⟨fun _=>⟨⟨fun _=>trivial,fun hne=>⟨by omega,by omega⟩⟩,fun _=>⟨⟨⟨by omega,by omega⟩,by omega,by omega⟩,Io (by omega)⟩,fun _=>trivial⟩,fun _=>trivial⟩,fun _=>?_⟩;by_cases hlt:I<s.length
     · have hne:decide ((I:Int)=(s.length:Int))=false:=Dg (by omega);rw[hne,Bool.false_or];by_cases hc:((s.getD I 0).toNat:Int)=c
       · simp only[hc,decide_true,A4];refine⟨⟨_,I+1,I+1,rfl,by simp;omega,.inl ⟨AU _,by omega,by simp,?_⟩⟩,by simp only[AK];omega⟩;rw[hs]
         conv=>lhs;rw[fj hFI hlt,Uf _ _ _ _ hfree hc]
         simp
       · simp only[hc,decide_false,AP,A3];refine⟨⟨_,F,I+1,rfl,by omega,.inl ⟨by omega,by omega,fun b hb=>?_,hs⟩⟩,by simp only[AK];omega⟩
         have e:(s.drop F).take (I+1-F)=(s.drop F).take (I-F)++[s.getD I 0]:=by
          rw[show I+1-F=(I-F)+1 by omega,Zr,Iy,show F+(I-F)=I by omega,AE hlt,Ck,AE hlt];rfl
         rw[e,B0,List.mem_singleton] at hb;rcases hb with hb|rfl
         · exact hfree b hb
         · exact hc
     · have e:I=s.length:=by omega
       subst e;simp only[decide_true,Bool.true_or,A4];refine⟨⟨_,s.length+1,s.length+1,rfl,by simp;omega,.inr ⟨rfl,?_⟩⟩,by simp only[AK];omega⟩;have e2:(s.drop F).take (s.length-F)=s.drop F:=JT (by rw[Mq];exact AU _);rw[e2] at hfree ⊢;rw[hs,TU _ _ hfree]
   · subst hI1;refine⟨⟨fun hh=>by omega,fun _=>trivial⟩,fun hh=>by omega⟩
theorem rV:DK Ud 32=Cx:=by decide
theorem fh:WD PUnit.unit∧PB PUnit.unit=Cx:=by
 rw[WD,PB];have:=tN Ud 32 (by decide);rw[rV] at this;exact this
theorem SZ:En ([97,32,98,32,99,32,100,32,101,32,102,32,103,32,104,32,105,32,106,32,107,32,108,32,109,32,110,32,111,32,112,32,113,32,114,32,115,32,116,32,117,32,118,32,119,32,120,32,121,32,122,32,49,32,50,32,51,32,52,32,53,32,54,32,55,32,56,32,57,32,48,32,101,110,116,101,114,32,101,115,99,32,98,97,99,107,32,116,97,98,32,115,112,97,99,101,32,109,105,110,117,115,32,101,113,117,97,108,32,108,101,102,116,32,114,105,103,104,116,32,117,112,32,100,111,119,110,32,102,49,32,102,50,32,102,51,32,102,52,32,102,53,32,102,54,32,102,55,32,102,56,32,102,57],[32])=Cx:=by
 rw[bu]
 have e:Lib.split Ud [32]=Cx:=by kernel_rfl
 exact e
theorem cK:Kk ([97,32,98,32,99,32,100,32,101,32,102,32,103,32,104,32,105,32,106,32,107,32,108,32,109,32,110,32,111,32,112,32,113,32,114,32,115,32,116,32,117,32,118,32,119,32,120,32,121,32,122,32,49,32,50,32,51,32,52,32,53,32,54,32,55,32,56,32,57,32,48,32,101,110,116,101,114,32,101,115,99,32,98,97,99,107,32,116,97,98,32,115,112,97,99,101,32,109,105,110,117,115,32,101,113,117,97,108,32,108,101,102,116,32,114,105,103,104,116,32,117,112,32,100,111,119,110,32,102,49,32,102,50,32,102,51,32,102,52,32,102,53,32,102,54,32,102,55,32,102,56,32,102,57],[32])=True:=by
 rw[bN]
 have e:Ud.length<4294967281∧1≤([32]:List UInt8).length:=by decide
 exact eq_true e
theorem PM(k:Int):Lz k∧Lx k∧H9 k=Ca k∧(Ca k).length≤5:=by
 obtain⟨n1,n2⟩:=fh;have hl:Cx.length=56:=rfl
 have hw:∀ w∈Cx,w.length≤5:=by decide
 rw[Lz,ot,Ca,n5,n2,SZ,cK];simp only[ND,Hj,AH,Ax,BC,AR,CE,B6,An,C4,BB,Ay,hl];by_cases h:1≤k∧k≤56
 · have e:iSub .i64 k 1=k-1:=Hq (by unfold As;omega);rw[e];have d1:decide (1≤k)=true:=Cp h.1;have d2:decide (k≤56)=true:=Cp h.2;have d3:decide (k<1)=false:=Dg (by omega);have d4:decide (56<k)=false:=Dg (by omega);simp only[d1,d2,d3,d4];refine⟨⟨trivial,fun h=>(by cases h),fun _=>⟨n1,⟨by omega,by omega⟩,by omega⟩⟩,⟨fun h=>(by cases h),fun _=>⟨trivial,⟨by omega,by omega⟩,by omega⟩⟩,rfl,?_⟩;show (Cx.getD (k-1).toNat []).length≤5;rw[Ck,AE (show (k-1).toNat<Cx.length by omega)];exact hw _ (D3 _)
 · have d:(decide (1≤k)&&decide (k≤56))=false:=by
    rw[HN,Bt,Bt];omega
   have d':(decide (k<1)||decide (56<k))=true:=by
    rw[BL,Ar,Ar];omega
   simp only[d,d'];exact⟨⟨trivial,fun _=>trivial,fun h=>(by cases h)⟩,⟨fun _=>trivial,fun h=>(by cases h)⟩,rfl,by simp⟩
def aB(m:Int)(k:Nat):Bool:=iEq (iAnd .i64 (iShr .i64 m (k:Int)) 1) 1
def fm(m:Int):Nat→List UInt8
 |0=>[]
 |k+1=>if aB m k then fm m k++[([67,83,65,71]:List UInt8).getD k 0] else fm m k
theorem QH(m:Int):∀ k,(fm m k).length≤k
 |0=>AU _
 | k+1=>by
   unfold fm
   split
   · simp;exact QH m k
   · exact Nat.le_succ_of_le (QH m k)
theorem X7(m:Int):Lv m∧Ke m∧FG m=Cw m∧Cw m=(if 1≤m∧m≤15 then fm m 4 else []):=by
 rw[Lv,mI,Cw,mG];by_cases h:1≤m∧m≤15
 · have d1:BP (m,1,15)=true:=by simp only[Hj,Ax,CE,B6];simp[h.1,h.2]
   have d2:bOr (iLt m 1) (iGt m 15)=false:=by simp only[BC,An,C4,Cy,Bt];omega
   have hk:∀ k:Nat,k<4→k=0∨k=1∨k=2∨k=3:=fun k hk=>by omega
   have ad:∀ k:Nat,k<4→iAdd .i64 (k:Int) 1=((k+1:Nat):Int):=fun k hk=>by rw[AQ (by unfold As;omega)];rfl
   have sub:∀ k:Nat,k<4→lSub ([67,83,65,71]:List UInt8) k (k+1)=[([67,83,65,71]:List UInt8).getD k 0]:=fun k h4=>by
    rw[DX];rcases hk k h4 with rfl|rfl|rfl|rfl<;>rfl
   have gt:∀ k:Nat,k<4→lGet ([[67],[83],[65],[71]]:List (List UInt8)) k []=[([67,83,65,71]:List UInt8).getD k 0]:=fun k h4=>by
    rw[BB];rcases hk k h4 with rfl|rfl|rfl|rfl<;>rfl
   have L1:=DE (c:=Lr m) (f:=OY m) (p:=MW m) 4 (fun k=>(fm m k,(k:Int))) (x0:=([],0)) rfl (fun k h4=>by
    have i4:iLt (k:Int) 4=true:=by rw[An];exact Cp (by omega)
    have len:=QH m k;simp only[Lr,OY,MW,d1,i4,ad k h4,sub k h4,Ax,CF,ND,Ay,AK,AB,AD];refine⟨⟨⟨fun _=>trivial,fun h=>(by cases h)⟩,fun _=>⟨by omega,fun _=>⟨⟨⟨by omega,by omega⟩,by omega,by omega⟩,by omega⟩,fun _=>trivial⟩,fun h=>(by cases h)⟩,trivial,?_⟩;rw[fm,AR,Ir]
    rfl) (by
    have i4:iLt ((4:Nat):Int) 4=false:=by rw[An];rfl
    simp only[Lr,MW,i4,Ax,OB]
    exact⟨⟨⟨fun h=>(by cases h),fun _=>trivial⟩,fun h=>(by cases h),fun _=>trivial⟩,trivial⟩)
   have L2:=DE (c:=OZ) (f:=RO m) (p:=RL m) 4 (fun k=>(fm m k,(k:Int))) (x0:=([],0)) rfl (fun k h4=>by
    have i4:iLt (k:Int) (lLen ([[67],[83],[65],[71]]:List (List UInt8)))=true:=by rw[An,Am];exact Cp (by simp;omega)
    have len:=QH m k;simp only[OZ,RO,RL,i4,ad k h4,gt k h4,eG,W8,Ay,AK,AB,AD];refine⟨⟨fun _=>⟨⟨by omega,by omega⟩,by omega,by omega,fun _=>by omega,fun _=>trivial⟩,fun h=>(by cases h)⟩,trivial,?_⟩;rw[fm,AR,Ir]
    rfl) (by
    have i4:iLt ((4:Nat):Int) (lLen ([[67],[83],[65],[71]]:List (List UInt8)))=false:=by rw[An,Am];rfl
    simp only[OZ,RL,i4]
    exact⟨⟨fun h=>(by cases h),fun _=>trivial⟩,trivial⟩)
   rw[L1.2,L2.2,d2];exact⟨L1.1,⟨fun h=>(by cases h),fun _=>L2.1⟩,by rw[AR];rfl,by rw[Ab h]⟩
 · have d1:BP (m,1,15)=false:=by
    simp only[Hj,Ax,CE,B6,HN,Bt];omega
   have d2:bOr (iLt m 1) (iGt m 15)=true:=by simp only[BC,An,C4,BL,Ar];omega
   have L1:=DE (c:=Lr m) (f:=OY m) (p:=MW m) 0 (fun _=>([],0)) (x0:=([],0)) rfl (fun k h=>by omega) (by
    simp only[Lr,MW,d1,Ax,Bool.and_false,ND]
    exact⟨⟨⟨fun _=>trivial,fun _=>trivial⟩,fun h=>(by cases h),fun _=>trivial⟩,trivial⟩)
   rw[L1.2,d2];exact⟨L1.1,⟨fun _=>trivial,fun h=>(by cases h)⟩,by rw[AR];rfl,by rw[Ad h]⟩
theorem UG(m:Int):Lv m∧Ke m∧FG m=Cw m∧(Cw m).length≤4:=by
 obtain⟨a,b,c,d⟩:=X7 m;refine⟨a,b,c,?_⟩;rw[d];split
 · exact QH m 4
 · simp
theorem gM(sep x:List UInt8):∀ (l:List (List UInt8)),Bw (l++[x]) sep=if l=[] then x else Bw l sep++sep++x
 |[]=>by simp[Bw,List.intercalate]
 |[a]=>by simp[Bw,List.intercalate]
 | a::b::r=>by
   have:=gM sep x (b::r)
   simp only[Bw,List.intercalate,CK,List.intersperse,GK,reduceCtorEq,A3] at this ⊢
   rw[this]
   simp
theorem UL(sep:List UInt8)(W:Nat):∀ (l:List (List UInt8)),(∀ w∈l,w.length+sep.length≤W)→(Bw l sep).length≤l.length*W
 |[],_=>by simp[Bw,List.intercalate]
 | [a],h=>by
   have:=h a (by simp)
   simp[Bw,List.intercalate];omega
 | a::b::r,h=>by
   have i:=UL sep W (b::r) (fun w hw=>h w (by simp[hw]))
   have:=h a (by simp)
   simp only[Bw,List.intercalate,List.intersperse,GK,BM,AB] at i ⊢
   rw[Dv (r.length+1) 1 W]
   omega
theorem uV(xs:List (List UInt8))(sep:List UInt8)(hl:xs.length≤1048576)(hw:∀ w∈xs,w.length+sep.length≤1000):Sw (xs,sep)∧SJ (xs,sep)=Bw xs sep:=by
 rw[Sw,SJ]
 have tl:∀ k,(Bw (xs.take k) sep).length≤1048576000:=fun k=>by
  have h1:=UL sep 1000 (xs.take k) (fun w hw'=>hw w (JV hw'))
  have h2:(xs.take k).length≤1048576:=by rw[F3];omega
  exact Ey h1 (Nat.mul_le_mul h2 (AU _))
 have L:=DE (c:=O6 (xs,sep)) (f:=Sc (xs,sep)) (p:=Se (xs,sep)) xs.length (fun k=>(sRow (Bw (xs.take k) sep),(k:Int))) (x0:=([],0)) (by simp[Bw,List.intercalate,L7]) (fun k hk=>by
  have i1:iLt (k:Int) (lLen xs)=true:=by rw[An,Am];exact Cp (by omega)
  have ad:iAdd .i64 (k:Int) 1=((k+1:Nat):Int):=by rw[AQ (by unfold As;omega)];rfl
  have gk:lGet xs k []=xs.getD k []:=BB _ _ _
  have hwk:(xs.getD k []).length+sep.length≤1000:=by
   rw[Ck,AE hk];exact hw _ (D3 _)
  have tk:=tl k
  have sn:Bw (xs.take (k+1)) sep=if xs.take k=[] then xs.getD k [] else Bw (xs.take k) sep++sep++xs.getD k []:=by
   rw[← Il xs [] hk,gM]
  simp only[O6,Sc,Se,i1,ad,gk,BW,Ay,AK,iC,BM];refine⟨⟨fun _=>⟨⟨fun _=>Io (by omega),fun _=>trivial⟩,⟨by omega,by omega⟩,hk,?_⟩,fun h=>(by cases h)⟩,trivial,?_⟩
  · refine Io ?_;rw[AR];split<;>simp only[BM,iC]<;>omega
  · rw[sn,AR,C4];rcases Mn k with rfl|h0
    · simp[L7,Bw,List.intercalate]
    · have h1:xs.take k≠[]:=fun e=>by
       have:=congrArg List.length e;rw[F3,AD] at this;omega
      have h2:decide ((0:Int)<(k:Int))=true:=Cp (by omega)
      rw[Ad h1,h2,Ab rfl,iw,iw]) (by
  have i1:iLt (xs.length:Int) (lLen xs)=false:=by rw[An,Am];exact Dg (by omega)
  simp only[O6,Se,i1]
  exact⟨⟨fun h=>(by cases h),fun _=>trivial⟩,trivial⟩)
 rw[L.2,F1,tQ];exact⟨L.1,rfl⟩
theorem iN(xs:List (List UInt8))(sep:List UInt8)(hl:xs.length≤1048576)(hw:∀ w∈xs,w.length+sep.length≤100):Sw (xs,sep)∧SJ (xs,sep)=Bw xs sep:=uV xs sep hl fun w h=>Ey (hw w h) (by decide)
end
section
set_option maxRecDepth 20000
theorem rJ(s:List UInt8)(c:Int)(h:s.length≤1048576):Sm (s,c)∧BJ (s,c)=DK s c:=by
 rw[mX,m8]
 have key:=Hn (c:=H6 (s,c)) (f:=I7 (s,c)) (p:=Wa (s,c))
  (fun st=>∃ (out:List (List UInt8)) (F I:Nat),st=(out,(F:Int),(I:Int))∧out.length≤I∧F≤I∧I≤s.length∧(∀ b∈(s.drop F).take (I-F),(b.toNat:Int)≠c)∧DK s c=out++DK (s.drop F) c)
  (fun st=>s.length-st.2.2.toNat) (fun st hI=>?_) (x0:=([],0,0)) ⟨[],0,0,rfl,by simp,AU _,ED _,by simp,rfl⟩
 · obtain⟨k1,⟨out,F,I,e,hl,hFI,hIl,hfree,hs⟩,k2⟩:=key;rw[e] at k2 ⊢;simp only[H6,An,Am,Bt] at k2
   have e2:I=s.length:=by omega
   subst e2;simp only[DX,Gb,BW,Ay,AK,AB,AD];have e2:(s.drop F).take (s.length-F)=s.drop F:=JT (by rw[Mq];exact AU _);rw[e2] at hfree ⊢;exact⟨⟨k1,⟨by omega,hFI,AU _⟩,Io (by omega)⟩,by rw[hs,TU _ _ hfree]⟩
 · obtain⟨out,F,I,rfl,hl,hFI,hIl,hfree,hs⟩:=hI;simp only[H6,I7,Wa,An,Bc,Am,Ay,AK,DX,BW,Qy,AR,Ar,Bt,AB,AD]
   have ha:iAdd .i64 (I:Int) 1=((I+1:Nat):Int):=by rw[AQ (by unfold As;omega)];rfl
   rw[ha];refine⟨⟨fun hlt=>⟨⟨by omega,by omega⟩,fun _=>⟨⟨⟨by omega,by omega⟩,by omega,by omega⟩,Io (by omega)⟩,fun _=>trivial⟩,fun _=>trivial⟩,fun hlt=>?_⟩
   have hlt:I<s.length:=by omega
   by_cases hc:((s.getD I 0).toNat:Int)=c
   · simp only[hc,A4];refine⟨⟨_,I+1,I+1,rfl,by simp;omega,AU _,by omega,by simp,?_⟩,by simp only[AK];omega⟩;rw[hs]
     conv=>lhs;rw[fj hFI hlt,Uf _ _ _ _ hfree hc]
     simp
   · simp only[hc,A3];refine⟨⟨_,F,I+1,rfl,by omega,by omega,by omega,fun b hb=>?_,hs⟩,by simp only[AK];omega⟩
     have e:(s.drop F).take (I+1-F)=(s.drop F).take (I-F)++[s.getD I 0]:=by
      rw[show I+1-F=(I-F)+1 by omega,Zr,Iy,show F+(I-F)=I by omega,AE hlt,Ck,AE hlt];rfl
     rw[e,B0,List.mem_singleton] at hb;rcases hb with hb|rfl
     · exact hfree b hb
     · exact hc
theorem Yc:∀ (s:List UInt8) (b:UInt8),b ∉ s∨∃ x y,s=x++b::y∧b ∉ x
 |[],b=>.inl (by simp)
 | z :: r,b=>by
   by_cases h:z=b
   · subst h;exact .inr ⟨[],r,rfl,by simp⟩
   · rcases Yc r b with h1|⟨x,y,rfl,h2⟩
     · exact .inl (by simp[h1,E6 h])
     · exact .inr ⟨z::x,y,rfl,by simp[h2,E6 h]⟩
theorem cI:∀ (s:List UInt8) (b:UInt8),b ∉ s→Lib.indexByte s b=-1
 |[],_,_=>rfl
 | z::r,b,h=>by
   have h1:z≠b:=fun e=>h (by simp[e])
   have h2:=cI r b (fun e=>h (by simp[e]))
   unfold Lib.indexByte
   rw[Ad (by simpa using h1),h2];rfl
theorem dN:∀ (x y:List UInt8) (b:UInt8),b ∉ x→Lib.indexByte (x++b::y) b=(x.length:Int)
 |[],y,b,_=>by simp[Lib.indexByte]
 | z::x,y,b,h=>by
   have h1:z≠b:=fun e=>h (by simp[e])
   have h2:=dN x y b (fun e=>h (by simp[e]))
   rw[CK]
   unfold Lib.indexByte
   rw[Ad (by simpa using h1),h2,Ad (by simp<;>omega),AB]
   try rfl
theorem Qi(s:List UInt8)(b:UInt8)(h:b ∉ s):Ks (s,[b])∧AN (s,[b])=(s,[],false):=by
 have hi:D9 (s,[b])=-1:=by rw[V4];exact cI s b h
 have ho:Kb (s,[b]):=by rw[V5];rfl
 have e:iGe (-1) 0=false:=by rw[CE];rfl
 rw[cT,dg,aN,aM,hi,e,BQ];exact⟨⟨ho,fun h=>(by cases h),fun _=>trivial⟩,rfl⟩
theorem QL(x y:List UInt8)(b:UInt8)(h:b ∉ x)(hl:(x++b::y).length≤1048576):Ks (x++b::y,[b])∧AN (x++b::y,[b])=(x,y,true):=by
 have hi:D9 (x++b::y,[b])=(x.length:Int):=by rw[V4];exact dN x y b h
 have ho:Kb (x++b::y,[b]):=by rw[V5];rfl
 have e:iGe (x.length:Int) 0=true:=by rw[CE];exact Cp (by omega)
 rw[BM,AB] at hl
 have ad:iAdd .i64 (x.length:Int) (lLen [b])=((x.length+1:Nat):Int):=by
  rw[Am,AQ (by unfold As;simp only[AB,AD];omega)];rfl
 rw[cT,dg,aN,aM,hi,e,Ch];simp only[ad,Ay,AK,DX,Gb,BM,AB];refine⟨⟨ho,fun _=>⟨⟨by omega,by omega,by omega⟩,by omega,by omega,by omega⟩,fun h=>(by cases h)⟩,?_⟩
 have e1:((x++b::y).drop 0).take (x.length-0)=x:=by simp
 have e2:(x++b::y).drop (x.length+1)=y:=by
  rw[← List.drop_drop,List.drop_left];rfl
 rw[e1,e2,JT (by omega)]
theorem NI(k:Nat)(h:k<56):Ca ((k:Int)+1)=Cx.getD k []:=by
 obtain⟨_,n2⟩:=fh;rw[Ca,n2]
 have e:iSub .i64 ((k:Int)+1) 1=(k:Int):=by rw[Hq (by unfold As;omega)];omega
 have d:BP ((k:Int)+1,1,56)=true:=by
  simp only[Hj,Ax,CE,B6,Af,Ar];omega
 rw[e,d,AH,AR,BB,Ay];rfl
def Dk(x:List UInt8):Nat:=Cx.findIdx (· == x)
theorem Zv(x:List UInt8):Dk x≤56:=List.findIdx_le_length
theorem ZQ(x:List UInt8){k:Nat}(h:k<Dk x):Cx.getD k []≠x:=by
 have hl:Cx.length=56:=rfl;have h56:=Zv x
 have hk:k<Cx.length:=by omega
 have:=List.not_of_lt_findIdx h;rw[Ck,AE hk];simpa using this
theorem Zo(x:List UInt8)(h:Dk x<56):Cx.getD (Dk x) []=x:=by
 have hl:Cx.length=56:=rfl
 have hk:Dk x<Cx.length:=by omega
 have:=List.findIdx_getElem (w:=hk);rw[Ck,AE hk];exact eq_of_beq this
theorem TW(x:List UInt8):cy x∧Kt x∧Hf x=Ic x:=by
 have hl:Cx.length=56:=rfl;have h56:=Zv x;rw[cy,pW,Ic,qd,cK]
 have L1:=DE (c:=Jk x) (f:=Ly) (p:=LB) (Dk x) (fun k=>(k:Int)+1) (x0:=1) rfl (fun k hk=>by
  have i1:iLe ((k:Int)+1) 56=true:=by rw[B6];exact Cp (by omega)
  have i2:sEq (Ca ((k:Int)+1)) x=false:=by rw[NI k (by omega),DI];simpa using ZQ x hk
  simp only[Jk,Ly,LB,i1,i2,Ax,AH]
  exact⟨⟨fun _=>(PM _).1,fun h=>(by cases h)⟩,rfl,by rw[AQ (by unfold As;omega)];simp⟩) (by
  simp only[Jk,LB,Ax,AH];refine⟨⟨fun _=>(PM _).1,fun _=>trivial⟩,?_⟩;rcases Bn (Dk x) 56 with h|h
  · rw[NI _ h,Zo x h,DI];simp
  · have i1:iLe ((Dk x:Int)+1) 56=false:=by rw[B6];exact Dg (by omega)
    rw[i1];rfl)
 have L2:=DE (c:=Ng x) (f:=Pd) (p:=Sp) (Dk x) (fun k=>(k:Int)) (x0:=0) rfl (fun k hk=>by
  have i2:sEq (lGet Cx k []) x=false:=by rw[BB,DI];simpa using ZQ x hk
  simp only[Ng,Pd,Sp,SZ,Ay,AK,i2,Ax,AH,An,Am,hl]
  exact⟨⟨fun _=>⟨⟨by omega,by omega⟩,by omega⟩,fun _=>trivial⟩,by simp;omega,by rw[AQ (by unfold As;omega)];simp⟩) (by
  simp only[Ng,Sp,SZ,Ay,AK,Ax,AH,An,Am,hl,BB,DI,Ar];refine⟨⟨fun h=>⟨⟨by omega,by omega⟩,by omega⟩,fun _=>trivial⟩,?_⟩;rcases Bn (Dk x) 56 with h|h
  · rw[Zo x h];simp
  · simp;omega)
 rw[L1.2,L2.2];refine⟨L1.1,⟨trivial,L2.1⟩,?_⟩;rw[SZ,An,B6,Am,hl,AR,AR,AQ (by unfold As;omega)];rcases Bn (Dk x) 56 with h|h
 · rw[Ab (Cp (by omega)),Ab (Cp (by omega))]
 · rw[Ad (by simp;omega),Ad (by simp;omega)]
theorem Tx(x:List UInt8):bj x∧Lw x∧Kj x=Kl x:=by
 have ec:O1 x=GX x:=by
  funext m;simp only[O1,GX,(UG m).2.2.1]
 have ef:RU=I5:=rfl
 have key:∀ {p:Int→Prop},(∀ m,p m)→LoopOk (GX x) I5 p 1:=fun hp=>
  (Hn (fun st=>1≤st∧st≤16) (fun st=>(16-st).toNat) (fun st hI=>⟨hp st,fun hc=>by
   simp only[GX,Ax,B6,Af,Ar] at hc;rw[show I5 st=st+1 by unfold I5;exact AQ (by unfold As;omega)]
   omega⟩) (by omega)).1
 rw[bj,nq,Kl,mU,ec,ef];exact⟨key fun m=>⟨fun _=>(UG m).1,fun _=>trivial⟩,key fun m=>⟨fun _=>(UG m).2.1,fun _=>trivial⟩,rfl⟩
end
section
set_option maxRecDepth 20000
theorem KI(n:Nat)(h:n<10):Lib.decDigits n=[UInt8.ofNat (48+n)]:=by
 unfold Lib.decDigits;rw[dif_pos h]
theorem qz(n:Int)(h0:0≤n)(h1:n≤3):GZ n∧Jg n∧FI n=Dn n∧(Dn n).length≤1:=by
 obtain⟨k,rfl⟩:∃ k:Nat,n=k:=⟨n.toNat,by omega⟩
 have hk:k=0∨k=1∨k=2∨k=3:=by omega
 have ei:FI (k:Int)=[UInt8.ofNat (48+k)]:=by
  rw[bl,WH];unfold Lib.itoa;rw[Ad (by omega),AK,KI k (by omega)]
 have oi:Jg (k:Int):=by rw[bm,WE];omega
 rw[ei]
 have hne:iNe (0:Int) 0=false:=by rw[Cm];rfl
 rw[GZ,Dn];rcases Mn k with rfl|hp
 · have e:iEq ((0:Nat):Int) 0=true:=by rw[Bc];rfl
   rw[e,Ch];exact⟨⟨fun _=>trivial,fun h=>(by cases h)⟩,oi,rfl,by simp⟩
 · have e:iEq (k:Int) 0=false:=by rw[Bc];exact Dg (by omega)
   have e2:iLt (k:Int) 0=false:=by rw[An];exact Dg (by omega)
   have e3:iNe (k:Int) 0=true:=by rw[Cm];simp;omega
   have hr:iRem (k:Int) 10=(k:Int):=by rw[YZ (by omega)];omega
   have hq:iQuo .i64 (k:Int) 10=0:=by rw[wR (by omega) (by unfold As;omega)];omega
   have hd:rowS [iConv .u8 (iAdd .i64 48 (bSel (iLt (iRem (k:Int) 10) 0) (iNeg .i64 (iRem (k:Int) 10)) (iRem (k:Int) 10)))]=[UInt8.ofNat (48+k)]:=by
    rw[hr,e2,BQ,AQ (by unfold As;omega),jK (by omega) (by omega),YL]
    have:((48:Int)+(k:Int)).toNat=48+k:=by omega
    simp[this]
   have L:=DE (c:=Gr) (f:=I8) (p:=I6) 1 (fun j=>if j=0 then ([],(k:Int)) else ([UInt8.ofNat (48+k)],0)) (x0:=([],(k:Int))) rfl (fun j hj=>by
    have:j=0:=by omega
    subst this;simp only[Gr,I8,I6,hd,hq,e3,Ir,A4]
    exact⟨⟨fun _=>⟨by decide,by simp,by decide⟩,fun h=>(by cases h)⟩,trivial,rfl⟩) (by
    simp only[Gr,I6,Ad (show ¬ (1:Nat)=0 by decide),hne]
    exact⟨⟨fun h=>(by cases h),fun _=>trivial⟩,trivial⟩)
   rw[e,e2,BQ,BQ,L.2];exact⟨⟨fun h=>(by cases h),fun _=>⟨L.1,fun h=>(by cases h),fun _=>trivial⟩⟩,oi,rfl,by simp⟩
theorem XN(k c m n:Int)(h:Cj (k,c,m,n)=true):(0≤k∧k≤10)∧(k=3∨k=4∨k=5∨k=7∨k=9→0≤n∧n≤3):=by
 rw[Wp] at h;simp only[Hj,AR,BC,Ax,Bc,CE,B6] at h;by_cases h0:k=0∨k=1∨k=10
 · omega
 · by_cases h2:k=2
   · omega
   · by_cases h3:k=3∨k=4
     · rcases h3 with rfl|rfl<;>simp at h<;>omega
     · by_cases h5:k=5∨k=9
       · rcases h5 with rfl|rfl<;>simp at h<;>omega
       · by_cases h6:k=6
         · omega
         · by_cases h7:k=7
           · subst h7;simp at h;omega
           · by_cases h8:k=8
             · omega
             · have a0:(k=0)=False:=eq_false (by omega);have a1:(k=1)=False:=eq_false (by omega);have a2:(k=10)=False:=eq_false (by omega);have a3:(k=3)=False:=eq_false (by omega);have a4:(k=4)=False:=eq_false (by omega);have a5:(k=5)=False:=eq_false (by omega);have a9:(k=9)=False:=eq_false (by omega);simp[a0,a1,a2,a3,a4,a5,a9,h2,h6,h7,h8] at h
theorem Nd(x:Int×Int×Int×Int):V8 x∧O0 x∧Lt x=B7 x∧(B7 x).length≤20:=by
 obtain⟨k,c,m,n⟩:=x;obtain⟨c1,c2,c3,c4⟩:=PM c;obtain⟨m1,m2,m3,m4⟩:=UG m;have a1:Ko (k,c,m,n):=R5 _;have a2:Km (k,c,m,n):=R4 _;rw[V8,mc,B7,mb,← Jz]
 cases hv:Cj (k,c,m,n) with
 | false=>
   rw[AH];simp only[Bool.not_false,Ch];exact⟨⟨a1,fun _=>trivial,fun h=>(by cases h)⟩,⟨a2,fun _=>trivial,fun h=>(by cases h)⟩,by first|rfl|trivial,by simp⟩
 | true=>
   obtain⟨hk,hn⟩:=XN k c m n hv
   have hn:k=3∨k=4∨k=5∨k=7∨k=9→GZ n∧Jg n∧FI n=Dn n∧(Dn n).length≤1:=fun h=>qz n (hn h).1 (hn h).2
   simp only[AH,HG,BQ,Bc,Cm,AR,Ir,c3,m3,cv,cC,a1,a2];rcases (show k=0∨k=1∨k=2∨k=3∨k=4∨k=5∨k=6∨k=7∨k=8∨k=9∨k=10 by omega) with rfl|rfl|rfl|rfl|rfl|rfl|rfl|rfl|rfl|rfl|rfl
   · simp
   · simp
   · by_cases h0:m=0
     · subst h0;simp[c1,c2,c4];omega
     · simp[h0,c1,c2,m1,m2];omega
   · obtain⟨i1,i2,i3,i4⟩:=hn (by omega);simp[i1,i2,i3];omega
   · obtain⟨i1,i2,i3,i4⟩:=hn (by omega);simp[i1,i2,i3];omega
   · obtain⟨i1,i2,i3,i4⟩:=hn (by omega);simp[i1,i2,i3];omega
   · simp[c1,c2,m1,m2];omega
   · obtain⟨i1,i2,i3,i4⟩:=hn (by omega);simp[i1,i2,i3,c1,c2];omega
   · simp[m1,m2];omega
   · obtain⟨i1,i2,i3,i4⟩:=hn (by omega);simp[i1,i2,i3];omega
   · simp
end
section
set_option maxRecDepth 20000
theorem US(u:Nat)(h:10≤u):Lib.decDigits u=Lib.decDigits (u / 10)++[UInt8.ofNat (48+u % 10)]:=by
 rw[Lib.decDigits,dif_neg (by omega)]
theorem ez(d:Nat)(h:d<10):Lib.digitVal (UInt8.ofNat (48+d))=some d:=by
 unfold Lib.digitVal
 have:(UInt8.ofNat (48+d)).toNat=48+d:=by
  rw[UInt8.toNat_ofNat'];exact Nat.mod_eq_of_lt (by omega)
 rw[this,Ab (by omega)];congr 1;omega
theorem W9:∀ (l r:List UInt8) (a:Nat),Lib.decFrom a (l++r)=(Lib.decFrom a l).bind fun n=>Lib.decFrom n r
 |[],_,_=>rfl
 | b::l,r,a=>by
   rw[CK,Lib.decFrom,Lib.decFrom]
   cases Lib.digitVal b with
   |none=>rfl
   |some d=>exact W9 l r _
theorem TP:∀ (m u:Nat),u<10^m→Lib.decFrom 0 (Lib.decDigits u)=some u
 | 0,u,h=>by
   have:u=0:=by simpa using h
   subst this;rw[KI 0 (by decide)];rfl
 | m+1,u,h=>by
   by_cases hu:u<10
   · rw[KI u hu];simp only[Lib.decFrom,ez u hu,JY,Br]
   · rw[US u (by omega),W9,TP m (u / 10) (by rw[Nat.pow_succ] at h;omega)];simp only[Fu,Lib.decFrom,ez (u % 10) (by omega)];congr 1;omega
theorem Oa:∀ (m u:Nat),u<10^m→0<m→1≤(Lib.decDigits u).length∧(Lib.decDigits u).length≤m
 |0,_,_,h=>absurd h (by decide)
 | m + 1,u,h,_=>by
   by_cases hu:u<10
   · rw[KI u hu];simp
   · rw[US u (by omega)]
     have hm:0<m:=by
      rcases Mn m with rfl|h'
      · simp at h;omega
      · exact h'
     have:=Oa m (u / 10) (by rw[Nat.pow_succ] at h;omega) hm;simp;omega
theorem Qm:∀ (m u:Nat),u<10^m→∀ b∈Lib.decDigits u,48≤b.toNat∧b.toNat≤57
 | 0,u,h,b,hb=>by
   have:u=0:=by simpa using h
   subst this;rw[KI 0 (by decide)] at hb;simp only[List.mem_singleton] at hb;subst hb;decide
 | m + 1,u,h,b,hb=>by
   have key:∀ d,d<10→48≤(UInt8.ofNat (48+d)).toNat∧(UInt8.ofNat (48+d)).toNat≤57:=fun d hd=>by
    have:(UInt8.ofNat (48+d)).toNat=48+d:=by
     rw[UInt8.toNat_ofNat'];exact Nat.mod_eq_of_lt (by omega)
    rw[this];omega
   by_cases hu:u<10
   · rw[KI u hu] at hb;simp only[List.mem_singleton] at hb;subst hb;exact key u hu
   · rw[US u (by omega),B0] at hb;rcases hb with hb|hb
     · exact Qm m (u / 10) (by rw[Nat.pow_succ] at h;omega) b hb
     · simp only[List.mem_singleton] at hb;subst hb;exact key _ (by omega)
theorem vC(k:Nat):(-(k:Int)).tdiv 10=-((k / 10:Nat):Int):=by
 rw[Int.neg_tdiv,Int.tdiv_eq_ediv_of_nonneg (by omega)];omega
theorem wY(k:Nat):(-(k:Int)).tmod 10=-((k % 10:Nat):Int):=by
 rw[Int.neg_tmod,Int.tmod_eq_emod_of_nonneg (by omega)];omega
theorem xd(x:Int):bSel (iLt (iRem x 10) 0) (iNeg .i64 (iRem x 10)) (iRem x 10)=((x.natAbs % 10:Nat):Int):=by
 rw[Y9];rcases Int.le_total 0 x with h|h
 · obtain⟨k,rfl⟩:∃ k:Nat,x=k:=⟨x.toNat,by omega⟩;rw[Int.tmod_eq_emod_of_nonneg (by omega),AR,An,Ad (by simp;omega)];simp only[Int.natAbs_natCast];omega
 · obtain⟨k,rfl⟩:∃ k:Nat,x=-(k:Int):=⟨x.natAbs,by omega⟩;rw[wY,AR,An]
   have e:(-(k:Int)).natAbs=k:=by omega
   rw[e];by_cases h0:k % 10=0
   · rw[h0];simp
   · rw[Ab (by simp;omega),iu (by unfold As;omega)];omega
theorem xH(x:Int)(h:As x):(iQuo .i64 x 10).natAbs=x.natAbs / 10∧As (iQuo .i64 x 10):=by
 rw[ZN];rcases Int.le_total 0 x with hx|hx
 · obtain⟨k,rfl⟩:∃ k:Nat,x=k:=⟨x.toNat,by omega⟩;rw[Int.tdiv_eq_ediv_of_nonneg (by omega),Gz (by unfold As at *;omega)];unfold As at *;omega
 · obtain⟨k,rfl⟩:∃ k:Nat,x=-(k:Int):=⟨x.natAbs,by omega⟩;rw[vC,Gz (by unfold As at *;omega)];unfold As at *;omega
theorem iG:∀ (m:Nat) (x:Int) (s:List UInt8),x.natAbs<10^m→s.length+m≤100→As x →
 ∃ y,LoopTo Gr I8 I6 (s,x) y∧y.1=(if x=0 then s else Lib.decDigits x.natAbs++s)
 | 0,x,s,h,hl,hi=>by
   have hx:x=0:=by simp at h;exact h
   subst hx;refine⟨(s,0),.stop ?_ ?_,by simp⟩
   · simp only[I6,Cm];exact⟨fun h=>(by simp at h),fun _=>trivial⟩
   · simp[Gr,Cm]
 | m + 1,x,s,h,hl,hi=>by
   by_cases hx:x=0
   · subst hx;refine⟨(s,0),.stop ?_ ?_,by simp⟩
     · simp only[I6,Cm];exact⟨fun h=>(by simp at h),fun _=>trivial⟩
     · simp[Gr,Cm]
   · have e1:rowS [iConv .u8 (iAdd .i64 48 (bSel (iLt (iRem x 10) 0) (iNeg .i64 (iRem x 10)) (iRem x 10)))]=[UInt8.ofNat (48+x.natAbs % 10)]:=by
      rw[xd,AQ (by unfold As;omega),jK (by omega) (by omega),YL]
      have:((48:Int)+((x.natAbs % 10:Nat):Int)).toNat=48+x.natAbs % 10:=by omega
      simp only[Cd,Mt,this]
     obtain⟨q1,q2⟩:=xH x hi
     have e2:I8 (s,x)=(UInt8.ofNat (48+x.natAbs % 10)::s,iQuo .i64 x 10):=by
      simp only[I8,e1,Ir];rfl
     have c1:Gr (s,x)=true:=by simp[Gr,Cm,hx]
     have p1:I6 (s,x):=by
      simp only[I6,e1];refine⟨fun _=>⟨by decide,?_,by decide⟩,fun _=>trivial⟩;simp;omega
     obtain⟨y,y1,y2⟩:=iG m (iQuo .i64 x 10) (UInt8.ofNat (48+x.natAbs % 10)::s) (by rw[q1];rw[Nat.pow_succ] at h;omega) (by simp;omega) q2;refine⟨y,.go p1 c1 (by rw[e2];exact y1),?_⟩;rw[y2,Ad hx,q1];by_cases h10:x.natAbs<10
     · have:iQuo .i64 x 10=0:=by omega
       rw[Ab this,KI _ h10,Nat.mod_eq_of_lt h10];rfl
     · rw[Ad (by omega),US x.natAbs (by omega)];simp
theorem dh(n:Int)(h:n.natAbs<10^18):GZ n∧Dn n=Lib.itoa n:=by
 rw[GZ,Dn]
 have hi:As n:=by unfold As;omega
 obtain⟨y,y1,y2⟩:=iG 18 n [] h (by simp) hi;have hv:=y1.val;by_cases h0:n=0
 · subst h0
   have e:iEq (0:Int) 0=true:=by rw[Bc];rfl
   rw[e,Ch];refine⟨⟨fun _=>trivial,fun h=>(by cases h)⟩,?_⟩;unfold Lib.itoa;rw[Ad (by decide),show (0:Int).toNat=0 from rfl,KI 0 (by decide)];rfl
 · have e:iEq n 0=false:=by rw[Bc];exact Dg h0
   rw[Ad h0,Ol] at y2;obtain⟨l1,l2⟩:=Oa 18 n.natAbs h (by decide);rw[e,BQ,hv,y2];refine⟨⟨fun h=>(by cases h),fun _=>⟨⟨_,y1⟩,fun _=>?_,fun _=>trivial⟩⟩,?_⟩
   · simp;omega
   · unfold Lib.itoa;rw[AR,An,Ir];by_cases hn:n<0
     · rw[Ab (Cp hn),Ab hn];rfl
     · rw[Ad (by simpa using hn),Ad hn,show n.natAbs=n.toNat by omega]
theorem pE(n:Int)(h:n.natAbs<10^18):Jg n∧FI n=Lib.itoa n:=by
 rw[bm,bl,WE,WH];exact⟨by omega,rfl⟩
theorem NJ(n:Int)(h:n.natAbs<10^9):1≤(Lib.itoa n).length∧(Lib.itoa n).length≤10∧Lib.atoi (Lib.itoa n)=some n:=by
 obtain⟨l1,l2⟩:=Oa 9 n.natAbs h (by decide);have hd:=TP 9 n.natAbs h;unfold Lib.itoa;by_cases hn:n<0
 · rw[Ab hn];refine⟨by simp,by simp;omega,?_⟩;simp only[Lib.atoi,beq_self_eq_true,A4,Lib.decNat];rw[Ad (by simp;intro hh;rw[hh] at l1;simp at l1),hd];simp only[Cc];congr 1;omega
 · rw[Ad hn,show n.toNat=n.natAbs by omega];refine⟨l1,by omega,?_⟩;have hs:=Qm 9 n.natAbs h
   cases hl:Lib.decDigits n.natAbs with
   |nil=>rw[hl] at l1;simp at l1
   | cons b r=>
     rw[hl] at hs hd;have hb:=hs b (by simp)
     have n1:(b == 45)=false:=by
      rw[Hw];intro e;subst e;exact absurd hb.1 (by decide)
     have n2:(b == 43)=false:=by
      rw[Hw];intro e;subst e;exact absurd hb.1 (by decide)
     simp only[Lib.atoi,n1,n2,Lib.decNat,List.isEmpty_cons,AP,A3,hd,Cc];congr 1;omega
theorem WR(s:List UInt8):LC s∧(Gv s=(0,false)∧(∀ n:Int,n.natAbs<10^9→Lib.itoa n≠s)∨∃ n:Int,n.natAbs<10^9∧Lib.itoa n=s∧Gv s=(n,true)):=by
 rw[nA,nS];simp only[BC,AR,An,C4,Am,Ot,AH,b7,ck];by_cases hl:s.length<1∨10<s.length
 · have e:(decide ((s.length:Int)<1)||decide (10<(s.length:Int)))=true:=by
    rw[BL,Ar,Ar];omega
   rw[e];refine⟨⟨fun _=>trivial,fun h=>(by cases h)⟩,.inl ⟨rfl,fun n hn e=>?_⟩⟩;have:=NJ n hn;rw[e] at this;omega
 · have e:(decide ((s.length:Int)<1)||decide (10<(s.length:Int)))=false:=by
    rw[Cy,Bt,Bt];omega
   rw[e]
   cases ha:Lib.atoi s with
   | none=>
     simp only[Option.isSome_none,Bool.not_false,Bool.true_or,A4,AP,A3];refine⟨⟨fun h=>(by cases h),fun _=>⟨by omega,fun _=>trivial,fun h=>(by cases h)⟩⟩,.inl ⟨by first|rfl|trivial,fun n hn e=>?_⟩⟩;have:=(NJ n hn).2.2;rw[e,ha] at this;cases this
   | some n=>
     simp only[Option.isSome_some,HG,Bool.false_or,Hv,AP,A3];by_cases hr:n < -999999999∨999999999<n
     · have hc:(decide (n < -999999999)||(decide (999999999<n)||decide (FI n≠s)))=true:=by
        rcases hr with hr|hr
        · simp[hr]
        · simp[hr]
       rw[Ab (by simpa using hc)];refine⟨⟨fun h=>(by cases h),fun _=>⟨by omega,fun h=>(by cases h),fun _=>⟨fun _=>trivial,fun h1=>⟨fun _=>trivial,fun h2=>?_⟩⟩⟩⟩,.inl ⟨rfl,fun k hk e=>?_⟩⟩
       · simp at h1 h2;omega
       · have:=(NJ k hk).2.2;rw[e,ha] at this;cases this;omega
     · obtain⟨f1,f2⟩:=pE n (by omega);rw[f2]
       have h1:decide (n < -999999999)=false:=by simp;omega
       have h2:decide (999999999<n)=false:=by simp;omega
       simp only[h1,h2,Bool.false_or];refine⟨⟨fun h=>(by cases h),fun _=>⟨by omega,fun h=>(by cases h),fun _=>⟨fun h=>(by cases h),fun _=>⟨fun h=>(by cases h),fun _=>f1⟩⟩⟩⟩,?_⟩;by_cases he:Lib.itoa n=s
       · exact .inr ⟨n,by omega,he,by simp[he]⟩
       · refine .inl ⟨by simp[he],fun k hk e=>?_⟩;have:=(NJ k hk).2.2;rw[e,ha] at this;cases this;exact he e
def Cl:List UInt8→List UInt8
 |[]=>[]
 |b::r=>if b.toNat=45 then r else b::r
theorem Zu(s:List UInt8):bSel (bAnd (iGt (lLen s) 0) (iEq (sGet s 0) 45)) (lSub s (iNat 1) (lN s)) s=Cl s:=by
 rw[AR,Ax,C4,Bc,Am,Qy,DX,Ay,Gb]
 cases s with
 |nil=>rfl
 | cons b r=>
   have e1:decide (0<((b::r).length:Int))=true:=Cp (by simp);rw[e1,QU];by_cases h:b.toNat=45
   · rw[Ab (by simp[h])];simp[Cl,h]
   · rw[Ad (by simp;omega)];simp[Cl,h]
theorem td(s:List UInt8)(h9:(Cl s).length≤9):LoopOk (ER s) (Fl s) (Sf s) (0,0) ∧
 ∃ k m:Nat,Al (ER s) (Fl s) (0,0)=((m:Int),(k:Int))∧k≤(Cl s).length∧Lib.decFrom 0 ((Cl s).take k)=some m∧m<10^k∧(k<(Cl s).length→Lib.decFrom 0 (Cl s)=none):=by
 have key:=Hn (c:=ER s) (f:=Fl s) (p:=Sf s)
  (fun st=>∃ k m:Nat,st=((m:Int),(k:Int))∧k≤(Cl s).length∧Lib.decFrom 0 ((Cl s).take k)=some m∧m<10^k)
  (fun st=>(Cl s).length-st.2.toNat) (fun st hI=>?_) (x0:=(0,0)) ⟨0,0,rfl,ED _,rfl,by decide⟩
 · obtain⟨k1,⟨k,m,e,h1,h2,h3⟩,k2⟩:=key
   refine⟨k1,k,m,e,h1,h2,h3,fun hk=>?_⟩;rw[e] at k2;simp only[ER,Zu] at k2;generalize Cl s=t at *;rw[Ax,AH,BC,An,An,C4,Am,Qy,AK,Cp (show (k:Int)<(t.length:Int) by omega),QU] at k2
   have hd:Lib.digitVal (t.getD k 0)=none:=by
    unfold Lib.digitVal;rw[Ad];intro hh;simp only[Ee,BL,Ar] at k2;omega
   have e2:t=t.take k++t.getD k 0::t.drop (k+1):=by
    rw[Ck,AE hk,Hv]
    conv=>lhs;rw[← List.take_append_drop k t,QF hk]
   rw[e2,W9,h2,Fu,Lib.decFrom,hd]
 · obtain⟨k,m,rfl,h1,h2,h3⟩:=hI
   simp only[ER,Fl,Sf,Zu];generalize Cl s=t at *
   have hp:(m:Int)<1000000000:=by
    have:10^k≤10^9:=Nat.pow_le_pow_right (by decide) (by omega);omega
   simp only[Ax,AH,BC,An,C4,Am,Qy,AK,Ar,Bt];refine⟨⟨fun hk=>⟨⟨⟨by omega,by omega⟩,fun _=>trivial,fun _=>⟨by omega,by omega⟩⟩,fun _=>trivial,fun _=>⟨by omega,by omega⟩⟩,fun _=>trivial⟩,fun hc=>?_⟩;rw[Af,Ar] at hc;obtain⟨hk,hd⟩:=hc
   have hkl:k<t.length:=by omega
   have hd':48≤(t.getD k 0).toNat∧(t.getD k 0).toNat≤57:=by simp only[B9,Cy,Bt] at hd;omega
   rw[UE (by unfold As;omega),vT (by omega) (by omega),AQ (by unfold As;omega),Hq (by unfold As;omega),AQ (by unfold As;omega)];refine⟨⟨k+1,m*10+((t.getD k 0).toNat-48),?_,by omega,?_,?_⟩,?_⟩
   · rw[Aj];omega
   · refine Lib.decFrom_take t k 0 m (t.getD k 0) _ h2 ?_ ?_
     · rw[Ck,AE hkl];rfl
     · unfold Lib.digitVal;rw[Ab hd']
   · rw[Nat.pow_succ];omega
   · show t.length-((k:Int)+1).toNat<t.length-(k:Int).toNat;omega
theorem Ya(n:Int)(h:n.natAbs<10^9):Cl (Lib.itoa n)=Lib.decDigits n.natAbs∧((Cl (Lib.itoa n)).length<(Lib.itoa n).length↔n<0):=by
 obtain⟨l1,_⟩:=Oa 9 n.natAbs h (by decide);unfold Lib.itoa;by_cases hn:n<0
 · rw[Ab hn];exact⟨rfl,by simp[Cl,hn]⟩
 · rw[Ad hn,show n.toNat=n.natAbs by omega];have hs:=Qm 9 n.natAbs h
   cases hl:Lib.decDigits n.natAbs with
   |nil=>rw[hl] at l1;simp at l1
   | cons b r=>
     rw[hl] at hs;have hb:=hs b (by simp)
     have:Cl (b::r)=b::r:=by show (if b.toNat=45 then r else b::r)=b::r;rw[Ad (by omega)]
     rw[this];exact⟨rfl,by simp[hn]⟩
theorem WX(s:List UInt8):Wx s∧(Jp s=(0,false)∧(∀ n:Int,n.natAbs<10^9→Lib.itoa n≠s)∨∃ n:Int,n.natAbs<10^9∧Lib.itoa n=s∧Jp s=(n,true)):=by
 rw[Wx,Jp];simp only[Zu]
 have h0:((iGt (lLen s) 0=true→(0:Int)≤0∧(0:Int)<(s.length:Int))∧(iGt (lLen s) 0=false→True))∧((bAnd (iGt (lLen s) 0) (iEq (sGet s 0) 45))=true→(0:Int)≤1∧iNat 1≤lN s∧lN s≤s.length)∧((bAnd (iGt (lLen s) 0) (iEq (sGet s 0) 45))=false→True):=by
  rw[Ax,C4,Am,Ay,Gb];simp only[Ar,Af];refine⟨⟨fun h=>⟨by decide,h⟩,fun _=>trivial⟩,fun h=>⟨by decide,?_,AU _⟩,fun _=>trivial⟩;have:=h.1;show 1≤s.length;omega
 have no:∀ {P:Prop},(∀ n:Int,n.natAbs<10^9→Lib.itoa n=s→P)→∀ n:Int,n.natAbs<10^9→Lib.itoa n=s→P:=fun h=>h
 by_cases hl:(Cl s).length<1∨9<(Cl s).length
 · have e:bOr (iLt (lLen (Cl s)) 1) (iGt (lLen (Cl s)) 9)=true:=by
    rw[BC,An,C4,Am,BL,Ar,Ar];omega
   rw[e,Ch];refine⟨⟨h0,fun _=>trivial,fun h=>(by cases h)⟩,.inl ⟨rfl,fun n hn e=>?_⟩⟩;have h1:=(Ya n hn).1;have h2:=Oa 9 n.natAbs hn (by decide);rw[e] at h1;rw[h1] at hl;omega
 · have e:bOr (iLt (lLen (Cl s)) 1) (iGt (lLen (Cl s)) 9)=false:=by
    rw[BC,An,C4,Am,Cy,Bt,Bt];omega
   obtain⟨k1,k,m,k2,k3,k4,k5,k6⟩:=td s (by omega);rw[e,BQ,k2];by_cases hk:k<(Cl s).length
   · have e3:iLt ((k:Int)) (lLen (Cl s))=true:=by rw[An,Am];exact Cp (by omega)
     rw[e3,Ch];refine⟨⟨h0,fun h=>(by cases h),fun _=>⟨k1,fun _=>trivial,fun h=>(by cases h)⟩⟩,.inl ⟨rfl,fun n hn e=>?_⟩⟩;have h1:=(Ya n hn).1;have h2:=TP 9 n.natAbs hn;rw[e] at h1;rw[← h1,k6 hk] at h2;cases h2
   · have e3:iLt ((k:Int)) (lLen (Cl s))=false:=by rw[An,Am];exact Dg (by omega)
     have hkl:k=(Cl s).length:=by omega
     rw[hkl,F1] at k4;have hm:m<10^9:=HH k5 (Nat.pow_le_pow_right (by decide) (by omega))
     have hn:bSel (iLt (lLen (Cl s)) (lLen s)) (iNeg .i64 (m:Int)) (m:Int)=if (Cl s).length<s.length then -(m:Int) else m:=by
      rw[AR,An,Am,Am,iu (by unfold As;omega)];by_cases hh:(Cl s).length<s.length
      · rw[Ab (Cp (by omega)),Ab hh]
      · rw[Ad (by simp;omega),Ad hh]
     rw[e3,BQ,hn];generalize hN:(if (Cl s).length<s.length then -(m:Int) else (m:Int))=N
     have hNa:N.natAbs=m:=by subst hN;split<;>omega
     obtain⟨f1,f2⟩:=dh N (by omega);rw[f2];refine⟨⟨h0,fun h=>(by cases h),fun _=>⟨k1,fun h=>(by cases h),fun _=>f1⟩⟩,?_⟩;rw[AR,Ot];by_cases he:Lib.itoa N=s
     · exact .inr ⟨N,by omega,he,by simp[he]⟩
     · refine .inl ⟨by simp[he],fun n hn e=>he ?_⟩;have h1:=Ya n hn;have h2:=TP 9 n.natAbs hn;rw[e] at h1;rw[← h1.1,k4] at h2
       have h3:m=n.natAbs:=by simpa using h2
       have:N=n:=by
        subst hN;by_cases hh:n<0
        · rw[Ab (h1.2.2 hh)];omega
        · rw[Ad (fun hq=>hh (h1.2.1 hq))];omega
       rw[this];exact e
theorem ig{a b:Int}(ha:a.natAbs<10^9)(hb:b.natAbs<10^9)(h:Lib.itoa a=Lib.itoa b):a=b:=by
 have h1:=(NJ a ha).2.2;rw[h,(NJ b hb).2.2] at h1;exact(by simpa using h1:b=a).symm
theorem eg(s:List UInt8):Wx s∧LC s∧Gv s=Jp s:=by
 obtain⟨a1,a2⟩:=WX s;obtain⟨b1,b2⟩:=WR s;refine⟨a1,b1,?_⟩;rcases a2 with⟨a2,a3⟩|⟨n,n1,n2,n3⟩
 · rcases b2 with⟨b2,_⟩|⟨k,k1,k2,_⟩
   · rw[a2,b2]
   · exact absurd k2 (a3 k k1)
 · rcases b2 with⟨_,b3⟩|⟨k,k1,k2,k3⟩
   · exact absurd n2 (b3 n n1)
   · rw[n3,k3,ig k1 n1 (k2.trans n2.symm)]
end
section
set_option maxRecDepth 20000
theorem fF(x:List UInt8):Ic x=if Dk x<56 then (Dk x:Int)+1 else 0:=by
 have hl:Cx.length=56:=rfl;have h56:=Zv x;rw[Ic]
 have L1:=DE (c:=Jk x) (f:=Ly) (p:=LB) (Dk x) (fun k=>(k:Int)+1) (x0:=1) rfl (fun k hk=>by
  have i1:iLe ((k:Int)+1) 56=true:=by rw[B6];exact Cp (by omega)
  have i2:sEq (Ca ((k:Int)+1)) x=false:=by rw[NI k (by omega),DI];simpa using ZQ x hk
  simp only[Jk,Ly,LB,i1,i2,Ax,AH]
  exact⟨⟨fun _=>(PM _).1,fun h=>(by cases h)⟩,rfl,by rw[AQ (by unfold As;omega)];simp⟩) (by
  simp only[Jk,LB,Ax,AH];refine⟨⟨fun _=>(PM _).1,fun _=>trivial⟩,?_⟩;rcases Bn (Dk x) 56 with h|h
  · rw[NI _ h,Zo x h,DI];simp
  · have i1:iLe ((Dk x:Int)+1) 56=false:=by rw[B6];exact Dg (by omega)
    rw[i1];rfl)
 rw[L1.2,B6,AR];rcases Bn (Dk x) 56 with h|h
 · rw[Ab (Cp (by omega)),Ab h]
 · rw[Ad (by simp;omega),Ad (by omega)]
theorem u9:((List.range 56).all fun k=>Cx.findIdx (· == Cx.getD k []) == k)=true:=by kernel_rfl
theorem rQ(k:Int)(h1:1≤k)(h2:k≤56):Ic (Ca k)=k:=by
 obtain⟨j,rfl⟩:∃ j:Nat,k=(j:Int)+1:=⟨(k-1).toNat,by omega⟩
 have hj:j<56:=by omega
 have:=CR.1 u9 j (List.mem_range.2 hj)
 have e:Dk (Cx.getD j [])=j:=by unfold Dk;exact eq_of_beq this
 rw[NI j hj,fF,e,Ab hj]
theorem NG(k:Int)(h0:0≤k)(h1:k≤56):Ic (Ca k)=k:=by
 by_cases h:k=0
 · subst h
   have e:Ca 0=[]:=by
    rw[Ca,Hj];simp only[AH,Ax,AR,CE,B6];rfl
   have c:Dk []=56:=by unfold Dk;exact(by kernel_rfl:Cx.findIdx (· == [])=56)
   rw[e,fF,c];rfl
 · exact rQ k (by omega) h1
def GU(m:Nat):Nat→List UInt8
 |0=>[]
 |k+1=>if m.testBit k then GU m k++[([67,83,65,71]:List UInt8).getD k 0] else GU m k
theorem xU{m k:Nat}(hm:m<16)(hk:k<4):aB (m:Int) k=m.testBit k:=by
 have h:m / 2^k≤m:=Nat.div_le_self _ _;have e:iAnd .i64 ((m / 2^k:Nat):Int) 1=((m / 2^k &&& 1:Nat):Int):=YA (b:=1) (by omega) (by omega);unfold aB;rw[jP _ _ (by omega),e,Bc,Nat.and_one_is_mod,Nat.testBit_eq_decide_div_mod_eq];exact decide_eq_decide.2 (by omega)
theorem kz{m:Nat}(hm:m<16):∀ k,k≤4→fm (m:Int) k=GU m k
 |0,_=>rfl
 | k+1,h=>by
   unfold fm GU
   rw[xU hm (by omega),kz hm k (by omega)]
theorem X8{m:Nat}(hm:m<16):Cw (m:Int)=GU m 4:=by
 rw[(X7 _).2.2.2];split
 · exact kz hm 4 (AU _)
 · have:m=0:=by omega
   subst this;rfl
theorem xC:∀ a,a<16→∀ b,b<16→GU a 4=GU b 4→a=b:=by decide
theorem qj{m:Nat}(hm:m<16):Kl (Cw (m:Int))=(m:Int):=by
 rw[X8 hm,Kl]
 have L:=DE (c:=GX (GU m 4)) (f:=I5) (p:=fun _=>True) (if m=0 then 15 else m-1) (fun k=>(k:Int)+1) (x0:=1) rfl (fun k hk=>by
  have hk15:k+1<16:=by split at hk<;>omega
  have hne:k+1≠m:=by split at hk<;>omega
  have i1:iLe ((k:Int)+1) 15=true:=by rw[B6];exact Cp (by omega)
  have e:Cw ((k:Int)+1)=GU (k+1) 4:=X8 (m:=k+1) hk15
  have i2:sEq (Cw ((k:Int)+1)) (GU m 4)=false:=by
   rw[e,DI]
   have:GU (k+1) 4≠GU m 4:=fun h=>hne (xC _ hk15 _ hm h)
   simpa using this
  refine⟨trivial,by simp only[GX,i1,i2,Ax,AH];rfl,?_⟩;unfold I5
  rw[AQ (by unfold As;omega)];simp) ⟨trivial,by
  by_cases h0:m=0
  · subst h0;simp only[GX,Ax,A4]
    have i1:iLe (((15:Nat):Int)+1) 15=false:=by rw[B6];rfl
    rw[i1];rfl
  · simp only[GX,Ax,Ad h0]
    have e:((m-1:Nat):Int)+1=(m:Int):=by omega
    rw[e,X8 hm,DI,AH];simp⟩
 rw[L.2,B6,AR];by_cases h0:m=0
 · subst h0;rfl
 · rw[Ad h0,Ab (Cp (by omega))];omega
theorem kf(m:Int):∀ k,k≤4→∀ b∈fm m k,b∈([67,83,65,71]:List UInt8)
 |0,_,b,hb=>by simp[fm] at hb
 | k + 1,h,b,hb=>by
   have i:=kf m k (by omega) b
   unfold fm at hb
   split at hb
   · rw[B0,List.mem_singleton] at hb
     rcases hb with h1|h1
     · exact i h1
     · rcases (show k=0∨k=1∨k=2∨k=3 by omega) with rfl|rfl|rfl|rfl<;>(subst h1;decide)
   · exact i hb
theorem gV(m:Int):∀ b∈Cw m,b∈([67,83,65,71]:List UInt8):=by
 rw[(X7 m).2.2.2];split
 · exact kf m 4 (AU _)
 · intro b hb;simp at hb
theorem Xd(k:Int):Ca k=[]∨(1≤k∧k≤56∧Ca k∈Cx):=by
 by_cases h:1≤k∧k≤56
 · obtain⟨j,rfl⟩:∃ j:Nat,k=(j:Int)+1:=⟨(k-1).toNat,by omega⟩;right;refine⟨h.1,h.2,?_⟩
   have hj:j<Cx.length:=by show j<56;omega
   rw[NI j (by omega),Ck,AE hj];exact D3 _
 · left;rw[Ca,Hj]
   have e:(decide (1≤k)&&decide (k≤56))=false:=by
    rw[HN,Bt,Bt];omega
   simp only[AH,Ax,AR,CE,B6,e];rfl
theorem uP(k:Int):∀ b∈Ca k,b ∉ ([32,45,47,58,61,124]:List UInt8):=by
 have key:∀ w∈Cx,∀ b∈w,b ∉ ([32,45,47,58,61,124]:List UInt8):=by decide
 rcases Xd k with h|⟨_,_,h⟩
 · rw[h];intro b hb;simp at hb
 · exact key _ h
end
section
set_option maxRecDepth 20000
abbrev MN:=Int×Int×Int×Int
theorem gD(k c m n:Int)(h:Cj (k,c,m,n)=true) :
 ((k=0∨k=1∨k=10)∧c=0∧m=0∧n=0)∨(k=2∧n=0∧0≤c∧c≤56∧0≤m∧m≤15∧(c≠0∨m≠0))∨((k=3∨k=4)∧c=0∧m=0∧1≤n∧n≤3)∨((k=5∨k=9)∧c=0∧m=0∧0≤n∧n≤3) ∨
 (k=6∧n=0∧1≤c∧c≤56∧1≤m∧m≤15)∨(k=7∧m=0∧1≤c∧c≤56∧1≤n∧n≤3)∨(k=8∧c=0∧n=0∧1≤m∧m≤15):=by
 obtain⟨hk,_⟩:=XN k c m n h
 rw[Wp] at h
 simp only[Hj,AR,BC,Ax,Bc,CE,B6] at h
 rcases (show k=0∨k=1∨k=2∨k=3∨k=4∨k=5∨k=6∨k=7∨k=8∨k=9∨k=10 by omega) with rfl|rfl|rfl|rfl|rfl|rfl|rfl|rfl|rfl|rfl|rfl<;>simp at h
 all_goals first|omega|(obtain⟨h1,h2⟩:=h;split at h2<;>omega)
theorem TC(p t:List UInt8)(h:(p++t).length≤1048576):Ls (p++t,p)∧EP (p++t,p)=(t,true):=by
 rw[BM] at h
 have e1:Lq (p++t,p)=true:=by
  rw[aG,CE,Am,Am,DI,DX,Ay,Ax];simp;omega
 have o1:OU (p++t,p):=by
  rw[aH,CE,Am,Am,Ay];simp
 rw[aU,aP,aI,aF,e1,AH,Am,Ay,Gb,DX,HG,BQ];refine⟨⟨o1,fun h=>(by cases h),fun _=>⟨by omega,by simp,AU _⟩⟩,?_⟩;simp only[AK];rw[List.drop_left,JT (by simp)]
theorem W1(s p:List UInt8)(h:¬ p <+: s):Ls (s,p)∧EP (s,p)=(s,false):=by
 have e1:Lq (s,p)=false:=by
  rw[aG,CE,Am,Am,DI,DX,Ay,Ax,HN,Bt,Hw];simp only[AK,GN,Mc];by_cases hl:p.length≤s.length
  · right;intro e;exact h (e▸List.take_prefix _ _)
  · left;omega
 have o1:OU (s,p):=by
  rw[aH,CE,Am,Am,Ay];simp only[Ar,Bt,AK];exact⟨fun h=>⟨by omega,by omega,by omega⟩,fun _=>trivial⟩
 rw[aU,aP,aI,aF,e1,AH,Bool.not_false,Ch];exact⟨⟨o1,fun _=>trivial,fun h=>(by cases h)⟩,rfl⟩
theorem eo(s p:List UInt8)(h:s.length≤1048576):Ls (s,p):=by
 by_cases hp:p <+: s
 · obtain⟨t,rfl⟩:=hp;exact(TC p t h).1
 · exact(W1 s p hp).1
theorem Ze(s:List UInt8)(b:UInt8)(h:s.length≤1048576):Ks (s,[b]):=by
 rcases Yc s b with h1|⟨x,y,rfl,h2⟩
 · exact(Qi s b h1).1
 · exact(QL x y b h2 h).1
def wd(i:Nat):List UInt8:=([[109,111,58],[116,103,58],[116,111,58],[109,97,99,114,111,58]]:List (List UInt8)).getD i []
theorem U2(i:Nat)(h:i<4):PA (lGet [3,4,5,9] i 0)∧Hh (lGet [3,4,5,9] i 0)=wd i:=by
 rw[cv,cC,BB];rcases (show i=0∨i=1∨i=2∨i=3 by omega) with rfl|rfl|rfl|rfl<;>simp only[AR,Bc]<;>exact⟨by simp,rfl⟩
theorem Xp(s:List UInt8)(h:s.length≤1048576):LoopOk (FC s) Gq (RJ s) 0 ∧
 ∃ k:Nat,k≤4∧Al (FC s) Gq 0=(k:Int)∧(∀ j,j<k→¬ wd j <+: s)∧(k<4→wd k <+: s):=by
 have key:=Hn (c:=FC s) (f:=Gq) (p:=RJ s)
  (fun st=>∃ k:Nat,st=(k:Int)∧k≤4∧∀ j,j<k→¬ wd j <+: s) (fun st=>4-st.toNat) (fun st hI=>?_) (x0:=0) ⟨0,rfl,by decide,fun j hj=>absurd hj (by omega)⟩
 · obtain⟨k1,⟨k,e,h1,h2⟩,k2⟩:=key
   refine⟨k1,k,h1,e,h2,fun hk=>?_⟩;rw[e] at k2;simp only[FC,Ax,AH,An,Am,Ay,AK] at k2;rw[(U2 k hk).2] at k2;apply Classical.byContradiction;intro hn;rw[(W1 s _ hn).2] at k2;simp at k2;omega
 · obtain⟨k,rfl,h1,h2⟩:=hI
   simp only[FC,Gq,RJ,Ax,AH,An,Am,Ay,AK];have hl:(([3,4,5,9]:List Int).length:Int)=4:=rfl;have hl':([3,4,5,9]:List Int).length=4:=rfl;rw[hl];refine⟨⟨fun hk=>?_,fun _=>trivial⟩,fun hc=>?_⟩
   · have hk:k<4:=by simp only[Ar] at hk;omega
     obtain⟨w1,w2⟩:=U2 k hk;rw[w2];exact⟨⟨by omega,by omega⟩,by omega,w1,eo _ _ h,fun _=>(WR _).1,fun _=>trivial⟩
   · rw[Af,Ar] at hc;obtain⟨hk,hc⟩:=hc
     have hk:k<4:=by omega
     rw[AQ (by unfold As;omega)];refine⟨⟨k+1,by omega,by omega,fun j hj=>?_⟩,by omega⟩;by_cases hjk:j<k
     · exact h2 j hjk
     · have:j=k:=by omega
       subst this;rintro⟨t,rfl⟩;rw[(U2 j hk).2,(TC _ t h).2] at hc;cases hc
theorem vE(s:List UInt8)(h:s.length≤1048576):RP s:=by
 rw[mz]
 have pm:∀ x,Lw x:=fun x=>(Tx x).2.1
 have co:∀ x,Kt x:=fun x=>(TW x).2.1
 have pi:∀ x,LC x:=fun x=>(WR x).1
 exact⟨fun _=>trivial,fun _=>⟨fun _=>trivial,fun _=>⟨fun _=>trivial,fun _=>⟨(Xp s h).1,fun _=>trivial,fun _=>⟨eo _ _ h,fun _=>pm _,fun _=>⟨Ze _ _ h,
  fun _=>⟨pi _,fun _=>co _,fun _=>⟨pm _,co _⟩⟩,fun _=>⟨Ze _ _ h,fun _=>⟨pm _,co _⟩,fun _=>co _⟩⟩⟩⟩⟩⟩⟩
theorem cJ(s:List UInt8)(h:s.length≤1048576):O2 s:=by
 rw[mu];exact⟨vE s h,R4 _,fun _=>trivial,fun _=>(Nd _).2.1⟩
def Le:List UInt8:=[110,111,110,101]
def J3:List UInt8:=[112,97,115,115]
def IG:List UInt8:=[99,97,112,115]
theorem ib(i:Nat)(h:i<4):(58:UInt8)∈wd i:=by
 rcases (show i=0∨i=1∨i=2∨i=3 by omega) with rfl|rfl|rfl|rfl<;>decide
theorem gN(s:List UInt8)(h:s.length≤1048576)(hc:∀ j,j<4→¬ wd j <+: s):Al (FC s) Gq 0=4:=by
 obtain⟨_,k,k1,k2,_,k4⟩:=Xp s h;rw[k2];rcases Bn k 4 with hk|hk
 · exact absurd (k4 hk) (hc k hk)
 · have:k=4:=by omega
   subst this;rfl
theorem uw(s:List UInt8)(h:s.length≤1048576)(i:Nat)(hi:i<4)(h1:wd i <+: s)(h2:∀ j,j<i→¬ wd j <+: s):Al (FC s) Gq 0=(i:Int):=by
 obtain⟨_,k,k1,k2,k3,k4⟩:=Xp s h;rw[k2]
 have:k=i:=by
  rcases Nat.lt_trichotomy k i with hk|hk|hk
  · exact absurd (k4 (by omega)) (h2 k hk)
  · exact hk
  · exact absurd h1 (k3 i hk)
 rw[this]
theorem gv{s p:List UInt8}{b:UInt8}(h1:b∈p)(h2:b ∉ s):¬ p <+: s:=fun h=>h2 (h.subset h1)
theorem Ik{a b:List UInt8}(h:a≠b):sEq a b=false:=by rw[DI];exact Hw.2 h
theorem Xq(s:List UInt8)(h:s.length≤1048576)(h58:(58:UInt8) ∉ s)(n1:s≠Le)(n2:s≠J3)(n3:s≠IG) :
 Dw s=(bSel (AN (s,[(47:UInt8)])).2.2 (bSel (Gv (AN (s,[(47:UInt8)])).1).2 (7,(Hf (AN (s,[(47:UInt8)])).2.1),0,(Gv (AN (s,[(47:UInt8)])).1).1) (6,(Hf (AN (s,[(47:UInt8)])).2.1),(Kj (AN (s,[(47:UInt8)])).1),0)) (bSel (AN (s,[(45:UInt8)])).2.2 (2,(Hf (AN (s,[(45:UInt8)])).2.1),(Kj (AN (s,[(45:UInt8)])).1),0) (2,(Hf s),0,0))):=by
 have e1:sEq s [(110:UInt8),111,110,101]=false:=Ik n1
 have e2:sEq s [(112:UInt8),97,115,115]=false:=Ik n2
 have e3:sEq s [(99:UInt8),97,112,115]=false:=Ik n3
 have e4:=gN s h (fun j hj=>gv (ib j hj) h58)
 have e5:(EP (s,[(111:UInt8),110,99,101,58])).2=false:=by rw[(W1 s _ (gv (b:=58) (by decide) h58)).2]
 have e6:iLt 4 (lLen [(3:Int),4,5,9])=false:=by rw[An,Am];rfl
 rw[MY,e1,e2,e3,e4,e5,e6]
 simp only[BQ]
theorem GJ{s t:List UInt8}{b:UInt8}(h1:b∈s)(h2:b ∉ t):s≠t:=fun e=>h2 (e▸h1)
theorem eH(x y:List UInt8)(h:(x++47::y).length≤1048576)(h58:(58:UInt8) ∉ x++47::y)(h47:(47:UInt8) ∉ x) :
 Dw (x++47::y)=bSel (Jp x).2 (7,Ic y,0,(Jp x).1) (6,Ic y,Kl x,0):=by
 have hm:(47:UInt8)∈x++47::y:=by simp
 rw[Xq _ h h58 (GJ hm (by decide)) (GJ hm (by decide)) (GJ hm (by decide)),(QL x y 47 h47 h).2,Ch]
 simp only[(eg x).2.2,(TW y).2.2,(Tx x).2.2]
theorem tv(x y:List UInt8)(h:(x++45::y).length≤1048576)(h58:(58:UInt8) ∉ x++45::y)(h47:(47:UInt8) ∉ x++45::y)(h45:(45:UInt8) ∉ x) :
 Dw (x++45::y)=(2,Ic y,Kl x,0):=by
 have hm:(45:UInt8)∈x++45::y:=by simp
 rw[Xq _ h h58 (GJ hm (by decide)) (GJ hm (by decide)) (GJ hm (by decide)),(Qi _ 47 h47).2,BQ,(QL x y 45 h45 h).2,Ch]
 simp only[(TW y).2.2,(Tx x).2.2]
theorem rK(s:List UInt8)(h:s.length≤1048576)(h58:(58:UInt8) ∉ s)(h47:(47:UInt8) ∉ s)(h45:(45:UInt8) ∉ s)(n1:s≠Le)(n2:s≠J3)(n3:s≠IG) :
 Dw s=(2,Ic s,0,0):=by
 rw[Xq s h h58 n1 n2 n3,(Qi _ 47 h47).2,BQ,(Qi _ 45 h45).2,BQ,(TW s).2.2]
theorem sX(i:Nat)(hi:i<4)(t:List UInt8)(h:(wd i++t).length≤1048576):Dw (wd i++t)=(([3,4,5,9]:List Int).getD i 0,0,0,(Jp t).1):=by
 have hm:(58:UInt8)∈wd i++t:=by rw[B0];exact .inl (ib i hi)
 have e1:sEq (wd i++t) [(110:UInt8),111,110,101]=false:=Ik (GJ hm (by decide));have e2:sEq (wd i++t) [(112:UInt8),97,115,115]=false:=Ik (GJ hm (by decide));have e3:sEq (wd i++t) [(99:UInt8),97,112,115]=false:=Ik (GJ hm (by decide))
 have e4:=uw (wd i++t) h i hi ⟨t,rfl⟩ (fun j hj hp=>by
  rcases (show i=0∨i=1∨i=2∨i=3 by omega) with rfl|rfl|rfl|rfl
  · omega
  · have:j=0:=by omega
    subst this;simp[wd] at hp
  · rcases (show j=0∨j=1 by omega) with rfl|rfl<;>simp[wd] at hp
  · rcases (show j=0∨j=1∨j=2 by omega) with rfl|rfl|rfl<;>simp[wd] at hp)
 have e6:iLt (i:Int) (lLen [(3:Int),4,5,9])=true:=by rw[An,Am];exact Cp (by show (i:Int)<4;omega)
 rw[MY,e1,e2,e3,e4,e6,Ay,AK,(U2 i hi).2,(TC (wd i) t h).2,Ch];simp only[BQ,BB,(eg t).2.2]
theorem sS(t:List UInt8)(h:([111,110,99,101,58]++t:List UInt8).length≤1048576):Dw ([111,110,99,101,58]++t)=(8,0,Kl t,0):=by
 have hm:(58:UInt8)∈([111,110,99,101,58]++t:List UInt8):=by simp
 have e1:sEq ([111,110,99,101,58]++t) [(110:UInt8),111,110,101]=false:=Ik (GJ hm (by decide));have e2:sEq ([111,110,99,101,58]++t) [(112:UInt8),97,115,115]=false:=Ik (GJ hm (by decide));have e3:sEq ([111,110,99,101,58]++t) [(99:UInt8),97,112,115]=false:=Ik (GJ hm (by decide))
 have e4:=gN ([111,110,99,101,58]++t) h (fun j hj hp=>by
  rcases (show j=0∨j=1∨j=2∨j=3 by omega) with rfl|rfl|rfl|rfl<;>simp[wd] at hp)
 have e6:iLt 4 (lLen [(3:Int),4,5,9])=false:=by rw[An,Am];rfl
 rw[MY,e1,e2,e3,e4,e6,(TC [111,110,99,101,58] t h).2,Ch];simp only[BQ,(Tx t).2.2]
theorem wD(m:Int):Jp (Cw m)=(0,false):=by
 rcases (WX (Cw m)).2 with⟨h,_⟩|⟨n,n1,n2,_⟩
 · exact h
 · obtain⟨l1,_⟩:=Oa 9 n.natAbs n1 (by decide);exfalso
   cases hl:Lib.decDigits n.natAbs with
   |nil=>rw[hl] at l1;simp at l1
   | cons b r=>
     have hb:=Qm 9 n.natAbs n1 b (by rw[hl];simp)
     have hm:b∈Cw m:=by
      rw[← n2];unfold Lib.itoa;split
      · rw[hl];simp
      · rw[show n.toNat=n.natAbs by omega,hl];simp
     have:=gV m b hm;simp only[BE,List.not_mem_nil,or_false] at this;rcases this with rfl|rfl|rfl|rfl<;>exact absurd hb.2 (by decide)
theorem ft(n:Int)(h:n.natAbs<10^9):Jp (Lib.itoa n)=(n,true):=by
 rcases (WX (Lib.itoa n)).2 with⟨_,h2⟩|⟨k,k1,k2,k3⟩
 · exact absurd rfl (h2 n h)
 · rw[k3,ig k1 h k2]
theorem gQ(k c m n:Int)(h:Cj (k,c,m,n)=true) :
 (k=0∧B7 (k,c,m,n)=Le)∨(k=1∧B7 (k,c,m,n)=J3)∨(k=10∧B7 (k,c,m,n)=IG) ∨
 (k=2∧m=0∧B7 (k,c,m,n)=Ca c)∨(k=2∧m≠0∧B7 (k,c,m,n)=Cw m++45::Ca c) ∨
 (∃ i,i<4∧k=([3,4,5,9]:List Int).getD i 0∧B7 (k,c,m,n)=wd i++Lib.itoa n) ∨
 (k=6∧B7 (k,c,m,n)=Cw m++47::Ca c)∨(k=7∧B7 (k,c,m,n)=Lib.itoa n++47::Ca c)∨(k=8∧B7 (k,c,m,n)=[111,110,99,101,58]++Cw m):=by
 obtain⟨hk,hn⟩:=XN k c m n h
 rw[B7,h,AH]
 have hi:k=3∨k=4∨k=5∨k=7∨k=9→Dn n=Lib.itoa n:=fun hk=>(dh n (by have:=hn hk;omega)).2
 simp only[HG,BQ,Bc,AR,Ir]
 rcases (show k=0∨k=1∨k=2∨k=3∨k=4∨k=5∨k=6∨k=7∨k=8∨k=9∨k=10 by omega) with rfl|rfl|rfl|rfl|rfl|rfl|rfl|rfl|rfl|rfl|rfl
 · exact .inl ⟨rfl,by simp[Le]⟩
 · exact .inr (.inl ⟨rfl,by simp[J3]⟩)
 · by_cases hm:m=0
   · exact .inr (.inr (.inr (.inl ⟨rfl,hm,by simp[hm]⟩)))
   · exact .inr (.inr (.inr (.inr (.inl ⟨rfl,hm,by simp[hm]⟩))))
 · exact .inr (.inr (.inr (.inr (.inr (.inl ⟨0,by decide,rfl,by rw[hi (by omega)];simp[wd]⟩)))))
 · exact .inr (.inr (.inr (.inr (.inr (.inl ⟨1,by decide,rfl,by rw[hi (by omega)];simp[wd]⟩)))))
 · exact .inr (.inr (.inr (.inr (.inr (.inl ⟨2,by decide,rfl,by rw[hi (by omega)];simp[wd]⟩)))))
 · exact .inr (.inr (.inr (.inr (.inr (.inr (.inl ⟨rfl,by simp⟩))))))
 · exact .inr (.inr (.inr (.inr (.inr (.inr (.inr (.inl ⟨rfl,by rw[hi (by omega)];simp⟩)))))))
 · exact .inr (.inr (.inr (.inr (.inr (.inr (.inr (.inr ⟨rfl,by simp⟩)))))))
 · exact .inr (.inr (.inr (.inr (.inr (.inl ⟨3,by decide,rfl,by rw[hi (by omega)];simp[wd]⟩)))))
 · exact .inr (.inr (.inl ⟨rfl,by simp[IG]⟩))
end
section
set_option maxRecDepth 20000
theorem jo(a:MN):(B7 a).length≤20:=(Nd a).2.2.2
theorem Hs{b:UInt8}(hb:b∈([32,45,47,58,61,124]:List UInt8))(k:Int):b ∉ Ca k:=fun h=>uP k b h hb
theorem KO{b:UInt8}(hb:b ∉ ([67,83,65,71]:List UInt8))(m:Int):b ∉ Cw m:=fun h=>hb (gV m b h)
theorem UA{b:UInt8}(hb:b.toNat<48∨57<b.toNat)(n:Int)(h0:0≤n)(h1:n≤3):b ∉ Lib.itoa n:=fun h=>by
 unfold Lib.itoa at h
 rw[Ad (by omega)] at h
 have:=Qm 9 n.toNat (by omega) b h
 omega
theorem xV(c:Int)(h1:1≤c)(h2:c≤56):Ca c≠[]∧Ca c≠Le∧Ca c≠J3∧Ca c≠IG:=by
 have key:∀ w∈Cx,w≠[]∧w≠Le∧w≠J3∧w≠IG:=by decide
 have hb:=NG c (by omega) h2;rcases Xd c with h|⟨_,_,h⟩
 · exfalso;have h0:=NG 0 (by decide) (by decide)
   have e:Ca 0=[]:=by
    rcases Xd 0 with h|⟨h,_⟩
    · exact h
    · omega
   rw[e] at h0;rw[h,h0] at hb;omega
 · exact key _ h
theorem YX(m:Int)(h0:0≤m)(h1:m≤15):Kl (Cw m)=m:=by
 obtain⟨k,rfl⟩:∃ k:Nat,m=k:=⟨m.toNat,by omega⟩;exact qj (by omega)
theorem Mo{b:UInt8}{x y:List UInt8}(c:UInt8)(h1:b ∉ x)(h2:b≠c)(h3:b ∉ y):b ∉ x++c::y:=by
 simp[h1,h2,h3]
theorem Xe(a:MN)(h:Cj a=true):Dw (B7 a)=a:=by
 obtain⟨k,c,m,n⟩:=a;have hc:=gD k c m n h;have hl:(B7 (k,c,m,n)).length≤1048576:=Ey (jo _) (by decide);rcases gQ k c m n h with⟨h1,e⟩|⟨h1,e⟩|⟨h1,e⟩|⟨h1,h2,e⟩|⟨h1,h2,e⟩|⟨i,hi,h1,e⟩|⟨h1,e⟩|⟨h1,e⟩|⟨h1,e⟩<;>rw[e] at hl ⊢
 · have e1:sEq Le [(110:UInt8),111,110,101]=true:=by rw[DI];rfl
   obtain⟨rfl,rfl,rfl⟩:c=0∧m=0∧n=0:=by omega
   rw[MY,e1,Ch,h1]
 · have e1:sEq J3 [(110:UInt8),111,110,101]=false:=by rw[DI];rfl
   have e2:sEq J3 [(112:UInt8),97,115,115]=true:=by rw[DI];rfl
   obtain⟨rfl,rfl,rfl⟩:c=0∧m=0∧n=0:=by omega
   rw[MY,e1,e2,BQ,Ch,h1]
 · have e1:sEq IG [(110:UInt8),111,110,101]=false:=by rw[DI];rfl
   have e2:sEq IG [(112:UInt8),97,115,115]=false:=by rw[DI];rfl
   have e3:sEq IG [(99:UInt8),97,112,115]=true:=by rw[DI];rfl
   obtain⟨rfl,rfl,rfl⟩:c=0∧m=0∧n=0:=by omega
   rw[MY,e1,e2,e3,BQ,BQ,Ch,h1]
 · obtain⟨q1,q2,q3,q4⟩:=xV c (by omega) (by omega);rw[rK _ hl (Hs (by decide) c) (Hs (by decide) c) (Hs (by decide) c) q2 q3 q4,NG c (by omega) (by omega)]
   obtain rfl:n=0:=by omega
   rw[h1,h2]
 · rw[tv _ _ hl (Mo 45 (KO (by decide) m) (by decide) (Hs (by decide) c)) (Mo 45 (KO (by decide) m) (by decide) (Hs (by decide) c)) (KO (by decide) m),NG c (by omega) (by omega),YX m (by omega) (by omega)]
   obtain rfl:n=0:=by omega
   rw[h1]
 · have hk:c=0∧m=0∧0≤n∧n≤3:=by
    rcases (show i=0∨i=1∨i=2∨i=3 by omega) with rfl|rfl|rfl|rfl<;>(have h1:k=_:=h1;simp at h1;omega)
   obtain⟨rfl,rfl,h3,h4⟩:=hk;rw[sX i hi _ hl,ft n (by omega),← h1]
 · rw[eH _ _ hl (Mo 47 (KO (by decide) m) (by decide) (Hs (by decide) c)) (KO (by decide) m),wD,BQ,NG c (by omega) (by omega),YX m (by omega) (by omega)]
   obtain rfl:n=0:=by omega
   rw[h1]
 · rw[eH _ _ hl (Mo 47 (UA (by decide) n (by omega) (by omega)) (by decide) (Hs (by decide) c)) (UA (by decide) n (by omega) (by omega)),ft n (by omega),Ch,NG c (by omega) (by omega)]
   obtain rfl:m=0:=by omega
   rw[h1]
 · rw[sS _ hl,YX m (by omega) (by omega)]
   obtain⟨rfl,rfl⟩:c=0∧n=0:=by omega
   rw[h1]
theorem qB(s:List UInt8)(h:s.length≤1048576):O2 s ∧
 ((∃ a:MN,Cj a=true∧B7 a=s∧Dx s=(a,true))∨((∀ a:MN,Cj a=true→B7 a≠s)∧Dx s=((0,0,0,0),false))):=by
 refine⟨cJ s h,?_⟩
 rw[mC,← Jz,(Nd _).2.2.1]
 by_cases hx:∃ a:MN,Cj a=true∧B7 a=s
 · obtain⟨a,a1,rfl⟩:=hx
   have e2:sNe (B7 a) (B7 a)=false:=by rw[Ot];simp
   rw[Xe a a1,a1,e2,AH,BC,HG,Bool.or_false,BQ];exact .inl ⟨a,a1,rfl,rfl⟩
 · have no:∀ a:MN,Cj a=true→B7 a≠s:=fun a h1 h2=>hx ⟨a,h1,h2⟩
   have e2:bOr (bNot (Cj (Dw s))) (sNe (B7 (Dw s)) s)=true:=by
    rw[BC,AH,Ot]
    cases hv:Cj (Dw s) with
    |true=>simp[no _ hv]
    |false=>rfl
   rw[e2,Ch];exact .inr ⟨no,rfl⟩
theorem lq{y c:UInt8}(h:y≠c):((y.toNat:Nat):Int)≠((c.toNat:Nat):Int):=fun e=>h (UInt8.toNat_inj.1 (by omega))
theorem n1(a:List UInt8):iEq (lLen [a]) 2=false:=by rw[Bc,Am];rfl
theorem n2(a b:List UInt8):iEq (lLen [a,b]) 2=true:=by rw[Bc,Am];rfl
theorem g0(a b:List UInt8):lGet [a,b] (iNat 0) []=a:=by rw[BB,Ay];rfl
theorem g1(a b:List UInt8):lGet [a,b] (iNat 1) []=b:=by rw[BB,Ay];rfl
end
theorem Xo (x):M8 x:=by rw[mW];exact R5 _
theorem XB(x:List (Int×Int×Int×Int×Int)):Ib x=CW x:=by
 rw[Ib,WM]
 have:∀ {c c':Int×Int→Bool} {f:Int×Int→Int×Int} {a:Int×Int} {n:Int},(∀ x,c x=c' x)→bNot (iLt (Al c f a).2 n)=bNot (iLt (Al c' f a).2 n):=by
  intro c c' f a n h;rw[funext h]
 apply this;intro st;rw[OD];simp only[bp,Jz,UU,W8,AH,Ax,BC,Bc,An,C4,Af,BL,B9,Ee,HN,Cy,Ar,Bt,Iw,ID,AY,Hw];generalize B8 _=A;cases A<;>simp<;>omega
theorem bL(x:List (Int×Int×Int×Int×Int))(h:x.length≤1048576):SQ x:=by
 rw[SQ];refine Ov (fun st=>st.2) x.length (by omega) (fun st _ _ hc=>?_) (fun st=>rfl) (fun st h0 h1=>?_) (by simp) (by simp)
 · simp only[Ax,An,Am,Af,Ar] at hc;exact hc.1
 · refine⟨fun hlt=>?_,fun _=>trivial⟩;simp only[An,Am,Ar] at hlt
   have h3:st.2.toNat<x.length:=by omega
   simp only[UU,Ay,h3,h0,hlt,xt,Xo,R5,JN,implies_true,KV,AH,BC,Af,BL,B9,Ee,HN,Cy,Ar,Bt,Iw,ID,AY,Hw,Ee,Cy];exact⟨fun hh=>hh.1,fun hh=>hh.1.1⟩
theorem bC(x:List (Int×Int×Int×Int×Int))(h:x.length≤1048576):Pt x:=by
 rw[qa];refine Ov (fun st=>st.2) x.length (by omega) (fun st _ _ hc=>?_) (fun st=>rfl) (fun st h0 h1=>?_) (by simp) (by simp)
 · simp only[Ax,An,Am,Af,Ar] at hc;exact hc.1
 · refine⟨fun hlt=>?_,fun _=>trivial⟩;simp only[An,Am,Ar] at hlt
   have h3:st.2.toNat<x.length:=by omega
   simp only[eG,Ay,h3,h0,hlt,R4,JN,implies_true,KV,An,C4,AH,BC,Af,BL,B9,Ee,HN,Cy,Ar,Bt,Iw,ID,AY,Hw,Ee,Cy];refine⟨fun h4 h5=>by omega,fun h4 h5=>by omega⟩
def A9(h:Int×Int×Int×Int×Int):Int×Int:=(h.2.2.1,h.2.2.2.1)
theorem gq(dn:List (Int×Int×Int×Int×Int))(i:Nat):(dn.map A9).getD i (0,0)=A9 (dn.getD i (0,0,0,0,0)):=by
 rw[Ck,Ck,Ew];cases dn[i]?<;>rfl
theorem yx{c:Int→Bool}{f:Int→Int}(n:Int)(h0:0≤n)(hn:n≤9223372036854775806)(hc:∀ st:Int,c st=true→st<n)(hf:∀ st,f st=iAdd .i64 st 1):0≤Al c f 0:=
 (T8 (fun st=>0≤st∧st≤n) (fun st=>(n-st).toNat) (fun st hI h=>by
  have:=hc st h
  rw[hf,AQ (by constructor<;>omega)]
  exact⟨by omega,by omega⟩) ⟨by omega,h0⟩).1.1
theorem L8(dn:List (Int×Int×Int×Int×Int))(k c m:Int):BO (dn,k,c,m)=A7 (dn.map A9,c,m):=by
 rw[BO,WI];simp only[BB,gq,Am,AL,A9]
theorem UD(dm:List (Int×Int))(q:Int×Int)(h:dm.length≤1048576):A7 (dm,q)=-1∨(0≤A7 (dm,q)∧A7 (dm,q)<dm.length):=by
 rw[WI,AR,An,Am];split
 · rename_i hlt;rw[Ar] at hlt;refine .inr ⟨yx dm.length (by omega) (by omega) (fun st hc=>?_) (fun _=>rfl),hlt⟩;rw[Ax,An,Af,Ar] at hc;exact hc.1
 · exact .inl rfl
theorem YN(dn:List (Int×Int×Int×Int×Int))(q:Int×Int×Int)(h:dn.length≤1048576):Np (dn,q):=by
 rw[Np];refine Ov (fun st=>st) dn.length (by omega) (fun st _ _ h=>?_) (fun _=>rfl) (fun st h0 h1=>⟨fun hlt=>?_,fun _=>trivial⟩) (by simp) (by simp)
 · rw[Ax,An,Am,Af,Ar] at h;exact h.1
 · rw[An,Am,Ar] at hlt;have a:(0:Int)≤st∧st<(dn.length:Int):=⟨h0,hlt⟩
   have b:iNat st<dn.length:=by rw[Ay];omega
   exact⟨a,b,fun _=>⟨a,b⟩,fun _=>trivial⟩
theorem jN(dm:List (Int×Int))(q:Int×Int)(h:dm.length≤1048576):Nt (dm,q):=by
 rw[p9];refine Ov (fun st=>st) dm.length (by omega) (fun st _ _ h=>?_) (fun _=>rfl) (fun st h0 h1=>⟨fun hlt=>?_,fun _=>trivial⟩) (by simp) (by simp)
 · rw[Ax,An,Am,Af,Ar] at h;exact h.1
 · rw[An,Am,Ar] at hlt;exact⟨⟨h0,hlt⟩,by rw[Ay];omega⟩
theorem eQ(dn:List (Int×Int×Int×Int×Int))(p:Int)(h0:0≤p)(h1:p<dn.length) :
 (Dy (dn,p)).map A9=lApp (lTake (dn.map A9) (lN (lSub (dn.map A9) 0 (iNat p)))) (lSub (dn.map A9) (iNat (iAdd .i64 p 1)) (lN (dn.map A9))):=by
 have hm:min p.toNat dn.length=p.toNat:=by omega
 rw[Dy]
 simp only[BW,iO,Gb,DX,Ay,GN,Mc,F3,Ez,Vg,List.map_drop,AL,Cq,hm]
theorem eR(dn:List (Int×Int×Int×Int×Int))(p:Int)(h0:0≤p)(h1:p<dn.length)(h:dn.length≤1048576):(Dy (dn,p)).length≤dn.length:=by
 rw[Dy];simp only[BW,Gb,DX,Ay,GN,Mc,F3,Mq,BM,Cq];rw[AQ (by constructor<;>omega)];omega
theorem Yh(K p:Int)(A:Bool):bNot (bOr (bNot (BP (K,0,2))) (bOr (bNot A) (bNot (bIff (iEq K 2) (iGe p 0)))))=
 bAnd (bNot (bNot A)) (bSel (bOr (iEq K 0) (iEq K 1)) (bNot (iGe p 0)) (bAnd (iEq K 2) (bNot (iLt p 0)))):=by
 have hp:decide (p<0)=!decide (0≤p):=by simp only[← decide_not,Int.not_le]
 rw[Hj]
 simp only[Ax,AH,BC,Og,AR,Bc,CE,B6,An,hp]
 generalize decide (0≤p)=P
 have h:K=0∨K=1∨K=2∨(¬ (0≤K∧K≤2)):=by omega
 rcases h with h|h|h|h
 · subst h;cases A<;>cases P<;>decide
 · subst h;cases A<;>cases P<;>decide
 · subst h;cases A<;>cases P<;>decide
 · have e0:K≠0:=by omega
   have e1:K≠1:=by omega
   have e2:K≠2:=by omega
   have e3:(decide (0≤K)&&decide (K≤2))=false:=by rw[← Bool.decide_and];exact Dg h
   simp only[e3,e0,e1,e2,decide_false];cases A<;>rfl
theorem wQ {l:List (Int×Int×Int)} {cs:List (Int×Int×Int×Int×Int)×Int→Bool} {fs} {ci:List (Int×Int)×Int→Bool} {fi}
 (h:∀ (dn:List (Int×Int×Int×Int×Int)) (i:Int),0≤i→i≤l.length→dn.length≤i→cs (dn,i)=ci (dn.map A9,i)∧(cs (dn,i)=true→i<l.length∧∃ dn':List (Int×Int×Int×Int×Int),fs (dn,i)=(dn',i+1)∧fi (dn.map A9,i)=(dn'.map A9,i+1)∧dn'.length≤i+1)) :
 bAnd (bNot (iLt (Al cs fs ([],0)).2 (lLen l))) (bAnd (iLe (lLen l) 8) (iEq (lLen (Al cs fs ([],0)).1) 0))=
 bAnd (bNot (iGt (lLen l) 8)) (bAnd (bNot (iLt (Al ci fi ([],0)).2 (lLen l))) (iEq (lLen (Al ci fi ([],0)).1) 0)):=by
 have go:∀ (n:Nat) (dn:List (Int×Int×Int×Int×Int)) (i:Int),0≤i→i≤l.length→dn.length≤i→(l.length-i).toNat<n →
  ∃ (en:List (Int×Int×Int×Int×Int)) (j:Int),LoopTo cs fs (fun _=>True) (dn,i) (en,j)∧LoopTo ci fi (fun _=>True) (dn.map A9,i) (en.map A9,j):=by
  intro n
  induction n with
  |zero=>intro _ _ _ _ _ hm;exact absurd hm (Vq _)
  | succ n ih=>
    intro dn i h0 h1 h2 hm;obtain⟨a,b⟩:=h dn i h0 h1 h2
    cases hc:cs (dn,i) with
    |false=>exact⟨dn,i,.stop trivial hc,.stop trivial (by rw[← a,hc])⟩
    | true=>
      obtain⟨c1,dn',c2,c3,c4⟩:=b hc;obtain⟨en,j,d1,d2⟩:=ih dn' (i+1) (by omega) (by omega) c4 (by omega);exact⟨en,j,.go trivial hc (by rw[c2];exact d1),.go trivial (by rw[← a,hc]) (by rw[c3];exact d2)⟩
 obtain⟨en,j,d1,d2⟩:=go _ [] 0 (by omega) (by omega) (by simp) (Vw _)
 have d2:LoopTo ci fi (fun _=>True) ([],0) (en.map A9,j):=d2
 rw[d1.val,d2.val]
 simp only[Ax,AH,B6,C4,Am,AL,← decide_not,Int.not_lt]
 exact Bool.and_left_comm ..
theorem XC (dn:List (Int×Int×Int×Int×Int)) (K c m p i:Int) (t:Bool) (n:Int) (hp:p=-1∨(0≤p∧p<dn.length)) (hd:dn.length≤i) (hi:i<n) (hn:n≤1048576)
 (hc:bSel (bOr (iEq K 0) (iEq K 1)) (bNot (iGe p 0)) (bAnd (iEq K 2) (bNot (iLt p 0)))=true) :
 bSel (bOr (iEq K 0) (iEq K 1)) (bSel (iEq K 1) (lApp (dn.map A9) [(c,m)]) (dn.map A9)) (lApp (lTake (dn.map A9) (lN (lSub (dn.map A9) 0 (iNat p)))) (lSub (dn.map A9) (iNat (iAdd .i64 p 1)) (lN (dn.map A9))))=
  (bSel (iEq K 1) (lApp dn [(0,2,c,m,0)]) (bSel (iEq K 2) (Dy (dn,p)) dn)).map A9 ∧
 ((bSel (iEq K 1) (lApp dn [(0,2,c,m,0)]) (bSel (iEq K 2) (Dy (dn,p)) dn)).length:Int)≤i+1:=by
 simp only[AR,BC,Ax,AH,Bc,CE,An,BL,Ar] at hc ⊢
 by_cases k1:K=1
 · subst k1
   simp[BW,A9];omega
 · by_cases k0:K=0
   · subst k0;simp;omega
   · simp only[k0,k1,or_self,A3,Af,Ar,B9,Bt] at hc ⊢
     have h0:0≤p:=by omega
     have h1:p<dn.length:=by omega
     rw[Ab hc.1];refine⟨(eQ dn p h0 h1).symm,?_⟩;have:=eR dn p h0 h1 (by omega);omega
theorem TY(x:List (Int×Int×Int))(h:x.length≤1048576):Dc x=Ep x:=by
 rw[Dc,oS];refine wQ (fun dn i h0 h1 h2=>?_);have hr:=UD (dn.map A9) ((lGet x (iNat i) (0,0,0)).2.1,(lGet x (iNat i) (0,0,0)).2.2) (by rw[AL];omega);rw[AL] at hr;simp only[L8,Jz,AF,Yh];generalize A7 (dn.map A9,(lGet x (iNat i) (0,0,0)).2.1,(lGet x (iNat i) (0,0,0)).2.2)=p at hr ⊢;refine⟨trivial,fun hc=>?_⟩;rw[Ax,Ax,An,Am,Af,Af,Ar] at hc;obtain⟨hc1,hc2,hc3⟩:=hc;obtain⟨s1,s2⟩:=XC dn (lGet x (iNat i) (0,0,0)).1 (lGet x (iNat i) (0,0,0)).2.1 (lGet x (iNat i) (0,0,0)).2.2 p i true x.length hr h2 hc1 (by omega) hc3;rw[AQ (a:=i) (b:=1) (by constructor<;>omega)];exact⟨hc1,_,rfl,by rw[s1],s2⟩
theorem LY{k w:Nat}(h:k≤1048577)(hw:w≤1000):AA (k*w):=by
 unfold AA;exact Ey (Nat.mul_le_mul h hw) (by decide)
theorem Xh(dn:List (Int×Int×Int×Int×Int))(p:Int)(h0:0≤p)(h1:p<dn.length)(h:dn.length≤1048576):Pa (dn,p):=by
 rw[Pa,AQ (a:=p) (b:=1) (by constructor<;>omega)];simp only[Ay,Gb,BW,DX,GN,Mc,F3,Mq,BM,AD,Cq];refine⟨⟨h0,by omega,by omega,by omega⟩,⟨by omega,by omega,by omega,by omega⟩,LY (by omega) (by omega),LY (by omega) (by omega)⟩
theorem cx(x:List (Int×Int×Int))(h:x.length≤1048576):SL x:=by
 rw[SL];refine(Hn (fun st:List (Int×Int×Int×Int×Int)×Int=>0≤st.2∧st.2≤(x.length:Int)∧(st.1.length:Int)≤st.2) (fun st=>((x.length:Int)-st.2).toNat) (fun st hI=>?_) ⟨by simp,by simp,by simp⟩).1;obtain⟨dn,i⟩:=st;obtain⟨i0,i1,i2⟩:=hI;simp only at i0 i1 i2;have hr:=UD (dn.map A9) ((lGet x (iNat i) (0,0,0)).2.1,(lGet x (iNat i) (0,0,0)).2.2) (by rw[AL];omega);rw[AL] at hr;have hf:=YN dn ((lGet x (iNat i) (0,0,0)).1,(lGet x (iNat i) (0,0,0)).2.1,(lGet x (iNat i) (0,0,0)).2.2) (by omega);simp only[L8,Jz,AF,Yh,R5,LA,ND];generalize A7 (dn.map A9,(lGet x (iNat i) (0,0,0)).2.1,(lGet x (iNat i) (0,0,0)).2.2)=p at hr ⊢;refine⟨⟨fun hlt=>?_,fun _=>trivial⟩,fun hc=>?_⟩
 · rw[An,Am,Ar] at hlt;refine⟨⟨i0,hlt⟩,by rw[Ay];omega,hf,⟨trivial,fun _=>trivial,fun _=>⟨trivial,trivial⟩⟩,fun _=>trivial,fun hc=>⟨fun _=>⟨trivial,LY (by simp only[AB,AD];omega) (by omega)⟩,fun k1=>⟨fun k2=>?_,fun _=>trivial⟩⟩⟩;have hc:=congrArg bNot hc;rw[Yh] at hc;simp only[AR,BC,Ax,AH,Bc,CE,An,Ar] at hc k1 k2;simp[k2] at hc;exact Xh dn p (by omega) (by omega) (by omega)
 · rw[Ax,Ax,An,Am,Af,Af,Ar] at hc;obtain⟨hc1,hc2,hc3⟩:=hc;obtain⟨s1,s2⟩:=XC dn (lGet x (iNat i) (0,0,0)).1 (lGet x (iNat i) (0,0,0)).2.1 (lGet x (iNat i) (0,0,0)).2.2 p i true x.length hr i2 hc1 (by omega) hc3;rw[AQ (a:=i) (b:=1) (by constructor<;>omega)];exact⟨⟨by show 0≤i+1;omega,by show i+1≤_;omega,s2⟩,by show (_-(i+1)).toNat<_;omega⟩
theorem SP(x:List (Int×Int×Int))(h:x.length≤1048576):LG x:=by
 rw[oI];refine⟨fun _=>trivial,fun _=>?_⟩;refine(Hn (fun st:List (Int×Int)×Int=>0≤st.2∧st.2≤(x.length:Int)∧∃ dn:List (Int×Int×Int×Int×Int),st.1=dn.map A9∧(dn.length:Int)≤st.2) (fun st=>((x.length:Int)-st.2).toNat) (fun st hI=>?_) ⟨by simp,by simp,[],rfl,by simp⟩).1;obtain⟨dm,i⟩:=st;obtain⟨i0,i1,dn,rfl,i2⟩:=hI;simp only at i0 i1 i2;have hr:=UD (dn.map A9) ((lGet x (iNat i) (0,0,0)).2.1,(lGet x (iNat i) (0,0,0)).2.2) (by rw[AL];omega);have hf:=jN (dn.map A9) ((lGet x (iNat i) (0,0,0)).2.1,(lGet x (iNat i) (0,0,0)).2.2) (by rw[AL];omega);rw[AL] at hr;simp only[R4];generalize A7 (dn.map A9,(lGet x (iNat i) (0,0,0)).2.1,(lGet x (iNat i) (0,0,0)).2.2)=p at hr ⊢;refine⟨⟨fun hlt=>?_,fun _=>trivial⟩,fun hc=>?_⟩
 · rw[An,Am,Ar] at hlt;refine⟨⟨i0,hlt⟩,by rw[Ay];omega,hf,trivial,fun _=>trivial,fun _=>⟨fun _=>⟨fun _=>trivial,fun _=>⟨fun _=>LY (by simp only[AL,AB,AD];omega) (by omega),fun _=>trivial⟩⟩,fun _=>⟨fun _=>⟨fun _=>trivial,fun hp=>?_⟩,fun _=>trivial⟩⟩⟩;rw[An,Bt] at hp
   have h0:0≤p:=by omega
   have h1:p<dn.length:=by omega
   rw[AQ (a:=p) (b:=1) (by constructor<;>omega)];simp only[Ay,Gb,DX,GN,Mc,F3,Mq,AL];exact⟨⟨h0,by omega,by omega,by omega⟩,⟨by omega,by omega,by omega,by omega⟩,by omega,by omega,LY (by omega) (by omega)⟩
 · rw[Ax,Ax,An,Am,Af,Af,Ar] at hc;obtain⟨hc1,hc2,hc3⟩:=hc;obtain⟨s1,s2⟩:=XC dn (lGet x (iNat i) (0,0,0)).1 (lGet x (iNat i) (0,0,0)).2.1 (lGet x (iNat i) (0,0,0)).2.2 p i true x.length hr i2 hc1 (by omega) hc3;rw[AQ (a:=i) (b:=1) (by constructor<;>omega)];exact⟨⟨by show 0≤i+1;omega,by show i+1≤_;omega,_,s1,s2⟩,by show (_-(i+1)).toNat<_;omega⟩
def KZ(h:Int×Int×Int×Int×Int):Prop:=0≤h.1∧h.1≤31∧B8 h.2=true∧h.2.1≠1∧h.2.1≠6∧h.2.1≠7
theorem tC{x:List (Int×Int×Int×Int×Int)}(hl:x.length≤1048576)(h:CW x=true):∀ a∈x,KZ a:=by
 rw[WM,AH,B9,An _ (lLen x),Bt] at h
 have key:=T8 (c:=fun x0:Int×Int=>(bAnd (iLt x0.2 (lLen x)) (bAnd (bNot (bOr (iLt (lGet x (iNat x0.2) (0,0,0,0,0)).1 0) (bOr (iGt (lGet x (iNat x0.2) (0,0,0,0,0)).1 31) (bOr (iEq (E2 (x0.1,(lGet x (iNat x0.2) (0,0,0,0,0)).1)) 1) (bNot (B8 ((lGet x (iNat x0.2) (0,0,0,0,0)).2.1,(lGet x (iNat x0.2) (0,0,0,0,0)).2.2.1,(lGet x (iNat x0.2) (0,0,0,0,0)).2.2.2.1,(lGet x (iNat x0.2) (0,0,0,0,0)).2.2.2.2))))))) (bNot (bOr (iEq (lGet x (iNat x0.2) (0,0,0,0,0)).2.1 1) (bOr (iEq (lGet x (iNat x0.2) (0,0,0,0,0)).2.1 6) (iEq (lGet x (iNat x0.2) (0,0,0,0,0)).2.1 7)))))))
  (f:=fun x0=>((iOr .i64 x0.1 (iShl .i64 1 (lGet x (iNat x0.2) (0,0,0,0,0)).1)),(iAdd .i64 x0.2 1)))
  (fun st=>∃ i:Nat,st.2=i∧i≤x.length∧∀ j,j<i→KZ (x.getD j (0,0,0,0,0))) (fun st=>x.length-st.2.toNat) (fun st hI hc=>?_) (x0:=(0,0)) ⟨0,rfl,ED _,fun j hj=>by omega⟩
 · obtain⟨⟨i,k1,k2,k3⟩,_⟩:=key;rw[k1,Am] at h
   have:i=x.length:=by omega
   subst this;intro a ha;obtain⟨j,hj,rfl⟩:=JS ha;have:=k3 j hj;rw[Ck,AE hj] at this;exact this
 · obtain⟨i,k1,k2,k3⟩:=hI;obtain⟨s,j⟩:=st;simp only at k1;subst k1;simp only[Ax,AH,BC,An,C4,Bc,Am,BB,Ay,AK,Af,B9,Cy,Ar,Bt,Ee] at hc;obtain⟨c1,⟨c2,c3,_,c5⟩,c6,c7,c8⟩:=hc;refine⟨⟨i+1,?_,by omega,fun j hj=>?_⟩,?_⟩
   · simp only;rw[AQ (by unfold As;omega)];omega
   · by_cases hji:j=i
     · subst hji;exact⟨by omega,by omega,c5,c6,c7,c8⟩
     · exact k3 j (by omega)
   · simp only;rw[AQ (by unfold As;omega)];omega
theorem KX{α:Type}(x:List α)(d:α){i:Nat}(h:i<x.length):x.getD i d=x[i]:=by
 rw[Ck,AE h];rfl
abbrev BI:=List (Int×Int×Int×Int×Int)
theorem vY(m p:Nat)(hm:m<4611686018427387904)(hp:p≤64):E2 ((m:Int),(p:Int))=if m.testBit p then 1 else 0:=by
 rw[W8];simp only;rw[jP m p hp];have hd:m / 2^p≤m:=Nat.div_le_self _ _;have:=YA (a:=m / 2^p) (b:=1) (by omega) (by omega);rw[show ((1:Nat):Int)=1 from rfl] at this;rw[this,Nat.and_one_is_mod,Nat.testBit_eq_decide_div_mod_eq];simp only[Ar];split<;>omega
theorem tT{x:BI}(hl:x.length≤1048576)(h:∀ a∈x,KZ a)(hd:x.Pairwise (fun a b=>a.1≠b.1)):CW x=true:=by
 rw[WM,AH,B9]
 have key:=T8 (c:=fun x0:Int×Int=>(bAnd (iLt x0.2 (lLen x)) (bAnd (bNot (bOr (iLt (lGet x (iNat x0.2) (0,0,0,0,0)).1 0) (bOr (iGt (lGet x (iNat x0.2) (0,0,0,0,0)).1 31) (bOr (iEq (E2 (x0.1,(lGet x (iNat x0.2) (0,0,0,0,0)).1)) 1) (bNot (B8 ((lGet x (iNat x0.2) (0,0,0,0,0)).2.1,(lGet x (iNat x0.2) (0,0,0,0,0)).2.2.1,(lGet x (iNat x0.2) (0,0,0,0,0)).2.2.2.1,(lGet x (iNat x0.2) (0,0,0,0,0)).2.2.2.2))))))) (bNot (bOr (iEq (lGet x (iNat x0.2) (0,0,0,0,0)).2.1 1) (bOr (iEq (lGet x (iNat x0.2) (0,0,0,0,0)).2.1 6) (iEq (lGet x (iNat x0.2) (0,0,0,0,0)).2.1 7)))))))
  (f:=fun x0=>((iOr .i64 x0.1 (iShl .i64 1 (lGet x (iNat x0.2) (0,0,0,0,0)).1)),(iAdd .i64 x0.2 1)))
  (fun st=>∃ i m:Nat,st=((m:Int),(i:Int))∧i≤x.length∧m<4294967296∧∀ p:Nat,m.testBit p=true→∃ j,j<i∧(x.getD j (0,0,0,0,0)).1=(p:Int)) (fun st=>x.length-st.2.toNat) (fun st hI hc=>?_) (x0:=(0,0)) ⟨0,0,rfl,ED _,by omega,fun p hp=>by simp at hp⟩
 · obtain⟨⟨i,m,k1,k2,k3,k4⟩,k5⟩:=key;rw[k1] at k5 ⊢;rw[An,Am,Bt];intro hlt
   have hi:i<x.length:=by simpa using hlt
   obtain⟨h1,h2,h3,h4,h5,h6⟩:=h _ (KL x i (0,0,0,0,0) hi)
   have hb:E2 ((m:Int),(x.getD i (0,0,0,0,0)).1)≠1:=by
    obtain⟨p,hp⟩:=Int.eq_ofNat_of_zero_le h1;rw[hp,vY m p (by omega) (by omega)];split
    · next hb=>
      obtain⟨j,hj,e⟩:=k4 p hb;have:=List.pairwise_iff_getElem.1 hd j i (by omega) hi hj;rw[← KX x (0,0,0,0,0) hi,← KX x (0,0,0,0,0) (by omega:j<x.length),e,hp] at this;exact absurd rfl this
    · decide
   have h3':B8 ((x.getD i (0,0,0,0,0)).2.1,(x.getD i (0,0,0,0,0)).2.2.1,(x.getD i (0,0,0,0,0)).2.2.2.1,(x.getD i (0,0,0,0,0)).2.2.2.2)=true:=h3;simp only[Ax,AH,BC,An,C4,Bc,Am,BB,Ay,AK,h3',hb,h4,h5,h6] at k5;simp[-List.getD_eq_getElem?_getD] at k5;omega
 · obtain⟨i,m,rfl,k2,k3,k4⟩:=hI;simp only[Ax,An,Am,Af,Ar] at hc
   have hi:i<x.length:=by omega
   obtain⟨h1,h2,_⟩:=h _ (KL x i (0,0,0,0,0) hi);obtain⟨p,hp⟩:=Int.eq_ofNat_of_zero_le h1
   have hpl:p<32:=by omega
   have h2p:2^p≤2^31:=Nat.pow_le_pow_right (by omega) (by omega)
   have h31:(2:Nat)^31=2147483648:=by decide
   simp only[BB,Ay,AK,hp];have e1:=xz (a:=1) (k:=p) (by omega) (by omega);rw[show ((1:Nat):Int)=1 from rfl,JR] at e1;rw[e1,ZM (a:=m) (b:=2^p) (by omega) (by omega)];refine⟨⟨i+1,m ||| 2^p,by rw[AQ (by unfold As;omega)];simp,by omega,?_,fun q hq=>?_⟩,by rw[AQ (by unfold As;omega)];omega⟩
   · have:=Nat.or_lt_two_pow (x:=m) (y:=2^p) (n:=32) (by omega) (by omega);simpa using this
   · rw[Nat.testBit_or,BL] at hq;rcases hq with hq|hq
     · obtain⟨j,hj,e⟩:=k4 q hq;exact⟨j,by omega,e⟩
     · rw[Nat.testBit_two_pow] at hq
       have:p=q:=by simpa using hq
       exact⟨i,by omega,by rw[hp,this]⟩
section
set_option maxRecDepth 20000
def mA(s:Int×Int×Int):Int×Int×Int×Int×Int:=(0,2,s.2.1,s.2.2,0)
def DN(dn:BI)(s:Int×Int×Int):BI:=if s.1=1 then dn++[mA s] else if s.1=2 then Dy (dn,BO (dn,s)) else dn
def Ka(dn:BI)(s:Int×Int×Int):Prop:=0≤s.1∧s.1≤2∧B8 (2,s.2.1,s.2.2,0)=true∧(s.1=2↔0≤BO (dn,s))
def Bu(x:List (Int×Int×Int))(i:Nat):BI:=(x.take i).foldl DN []
theorem N1(x:List (Int×Int×Int)){i:Nat}(h:i<x.length):Bu x (i+1)=DN (Bu x i) (x.getD i (0,0,0)):=by
 unfold Bu;rw[← Il x (0,0,0) h,List.foldl_append];rfl
theorem x6 {c:BI×Int→Bool} {f:BI×Int→BI×Int} (x:List (Int×Int×Int)) (h1:¬ (Al c f ([],0)).2<lLen x) (hc:∀ (dn:BI) (i:Nat),c (dn,(i:Int))=true→i<x.length∧Ka dn (x.getD i (0,0,0)))
 (hf:∀ (dn:BI) (i:Nat),i<x.length→f (dn,(i:Int))=(DN dn (x.getD i (0,0,0)),(i:Int)+1)):(Al c f ([],0)).1=Bu x x.length∧∀ i,i<x.length→Ka (Bu x i) (x.getD i (0,0,0)):=by
 have key:=T8 (c:=c) (f:=f) (fun st=>∃ i:Nat,st=(Bu x i,(i:Int))∧i≤x.length∧∀ j,j<i→Ka (Bu x j) (x.getD j (0,0,0))) (fun st=>x.length-st.2.toNat) (fun st hI hcc=>by
  obtain⟨i,rfl,hi,hj⟩:=hI;obtain⟨g1,g2⟩:=hc _ i hcc;rw[hf _ i g1];refine⟨⟨i+1,by rw[N1 x g1];simp,by omega,fun j hj'=>?_⟩,by simp only;omega⟩;rcases Bn j i with h|h
  · exact hj j h
  · have:j=i:=by omega
    subst this;exact g2) (x0:=([],0)) ⟨0,rfl,ED _,fun j hj=>by omega⟩
 obtain⟨⟨i,e,hi,hj⟩,_⟩:=key
 rw[e,Am] at h1
 rw[e]
 simp only at h1
 have:i=x.length:=by omega
 subst this
 exact⟨rfl,hj⟩
theorem TR(x:List (Int×Int×Int))(h:x.length≤1048576)(hm:Dc x=true):x.length≤8∧Bu x x.length=[]∧∀ i,i<x.length→Ka (Bu x i) (x.getD i (0,0,0)):=by
 rw[Dc,Ax,Ax,Af,Af] at hm;obtain⟨h1,h2,h3⟩:=hm;rw[AH,B9,An _ (lLen x),Bt] at h1;rw[B6,Am,Ar] at h2;rw[Bc,Am,Ar] at h3
 obtain⟨g1,g2⟩:=x6 x h1 (fun dn i hc=>by
  simp only[Am,BB,Ay,AK,AF,Jz,UU,Ax,AH,BC,Og,An,Bc,CE,Af,B9,Cy,Ee,Ar,AY] at hc;obtain⟨c1,⟨c2,c3⟩,c4,c5⟩:=hc;refine⟨by omega,c2,c3,c4,?_⟩;have:=congrArg (·=true) c5
  simpa using this) (fun dn i hi=>by
  simp only[BB,Ay,AK,AF,AR,Bc,Ar,BW];rw[AQ (by unfold As;omega)]
  rfl)
 refine⟨by omega,?_,g2⟩;rw[← g1];exact D2 (by omega)
end
section
set_option maxRecDepth 20000
def BN(s:Int×Int×Int):List UInt8:=([([116,100,117]:List UInt8).getD s.1.toNat 0]++[61])++B7 (2,s.2.1,s.2.2,0)
theorem XQ(s:Int×Int×Int):(BN s).length≤22:=by
 have:=(Nd (2,s.2.1,s.2.2,0)).2.2.2;unfold BN;simp only[BM,AB,AD];omega
theorem WA(x:List (Int×Int×Int))(h:x.length≤1048576):aV x∧O3 x∧CO x=We x∧We x=(if Dc x=true then Bw (x.map BN) [32] else []):=by
 have s1:=cx x h;have s2:=SP x h;rw[aV,mg,We,mE,← TY x h]
 cases hv:Dc x with
 | false=>
   have L1:=DE (c:=Kc x) (f:=MU x) (p:=MV x) 0 (fun _=>([],0)) (x0:=([],0)) rfl (fun k h=>by omega) (by
    simp only[Kc,MV,hv,Ax,Bool.and_false]
    exact⟨⟨⟨fun _=>s1,fun _=>trivial⟩,fun h=>(by cases h),fun _=>trivial⟩,trivial⟩)
   obtain⟨j1,j2⟩:=iN [] [32] (by simp) (by simp);rw[L1.2,AH];simp only[Bool.not_false,Ch,j2];exact⟨⟨L1.1,j1⟩,⟨s2,fun _=>trivial,fun h=>(by cases h)⟩,by first|rfl|trivial,by simp[Bw,List.intercalate]⟩
 | true=>
   obtain⟨hl,_,hok⟩:=TR x h hv
   have sub:∀ K:Int,0≤K→K≤2→lSub ([116,100,117]:List UInt8) K.toNat (K+1).toNat=[([116,100,117]:List UInt8).getD K.toNat 0]:=fun K h0 h2=>by
    rcases (show K=0∨K=1∨K=2 by omega) with rfl|rfl|rfl<;>rw[DX]<;>rfl
   have stp:∀ k,k<x.length→(x.take (k+1)).map BN=(x.take k).map BN++[BN (x.getD k (0,0,0))]:=fun k hk=>by
    rw[← Il x (0,0,0) hk,Ez];rfl
   have L1:=DE (c:=Kc x) (f:=MU x) (p:=MV x) x.length (fun k=>((x.take k).map BN,(k:Int))) (x0:=([],0)) (by simp) (fun k hk=>by
    have i1:iLt (k:Int) (lLen x)=true:=by rw[An,Am];exact Cp (by omega)
    have ad:iAdd .i64 (k:Int) 1=((k+1:Nat):Int):=by rw[AQ (by unfold As;omega)];rfl
    obtain⟨o0,o2,_⟩:=hok k hk;have sp:=stp k hk;have gk:lGet x k (0,0,0)=x.getD k (0,0,0):=BB _ _ _;simp only[Kc,MU,MV,i1,hv,ad,sp,Ay,AK,gk,AF,LA,BW,Ir,Ax,CF];generalize x.getD k (0,0,0)=s at o0 o2;obtain⟨K,c,m⟩:=s;have o0:0≤K:=o0;have o2:K≤2:=o2;obtain⟨f1,_,_,f4⟩:=Nd (2,c,m,0);have ak:iAdd .i64 K 1=K+1:=AQ (by unfold As;omega);simp only[ak,sub K o0 o2,BM,AB,AD,AL,F3];refine⟨?_,trivial,rfl⟩
    repeat' (first|exact trivial|assumption|omega|exact Io (by omega)|apply And.intro|(intro hh;first|cases hh;done|skip))) (by
    have i1:iLt (x.length:Int) (lLen x)=false:=by rw[An,Am];exact Dg (by omega)
    simp only[Kc,MV,i1,Ax,OB]
    exact⟨⟨⟨fun h=>(by cases h),fun _=>trivial⟩,fun h=>(by cases h),fun _=>trivial⟩,trivial⟩)
   have L2:=DE (c:=MT x) (f:=OX x) (p:=RI x) x.length (fun k=>((x.take k).map BN,(k:Int))) (x0:=([],0)) (by simp) (fun k hk=>by
    have i1:iLt (k:Int) (lLen x)=true:=by rw[An,Am];exact Cp (by omega)
    have ad:iAdd .i64 (k:Int) 1=((k+1:Nat):Int):=by rw[AQ (by unfold As;omega)];rfl
    obtain⟨o0,o2,_⟩:=hok k hk;have sp:=stp k hk;have gk:lGet x k (0,0,0)=x.getD k (0,0,0):=BB _ _ _;simp only[MT,OX,RI,i1,ad,sp,Ay,AK,gk,BW,Ir];generalize x.getD k (0,0,0)=s at o0 o2;obtain⟨K,c,m⟩:=s;have o0:0≤K:=o0;have o2:K≤2:=o2;obtain⟨_,f2,f3,f4⟩:=Nd (2,c,m,0);have ak:iAdd .i64 K 1=K+1:=AQ (by unfold As;omega);simp only[ak,sub K o0 o2,f3,BM,AB,AD,AL,F3];refine⟨?_,trivial,rfl⟩
    repeat' (first|exact trivial|assumption|omega|exact Io (by omega)|apply And.intro|(intro hh;first|cases hh;done|skip))) (by
    have i1:iLt (x.length:Int) (lLen x)=false:=by rw[An,Am];exact Dg (by omega)
    simp only[MT,RI,i1]
    exact⟨⟨fun h=>(by cases h),fun _=>trivial⟩,trivial⟩)
   rw[L1.2,L2.2,AH];simp only[HG,BQ,F1]
   have wl:∀ w∈x.map BN,w.length+([32]:List UInt8).length≤100:=fun w hw=>by
    obtain⟨k,hk,rfl⟩:=List.mem_map.1 hw;have:=XQ k;simp only[AB,AD];omega
   have ln:(x.map BN).length≤1048576:=by rw[AL];exact h
   obtain⟨j1,j2⟩:=iN (x.map BN) [32] ln wl
   have jl:(Bw (x.map BN) [32]).length≤104857600:=
    Ey (UL [32] 100 _ wl) (Nat.mul_le_mul ln (AU _))
   have j3:Sq (x.map BN,[32]):=by
    rw[nL,b8];exact⟨Ey ln (by decide),Ey jl (by decide)⟩
   have j4:SN (x.map BN,[32])=Bw (x.map BN) [32]:=by rw[nU,b9]
   rw[j2,j4];exact⟨⟨L1.1,j1⟩,⟨s2,fun h=>(by cases h),fun _=>⟨L2.1,j3⟩⟩,rfl,by simp⟩
end
section
set_option maxRecDepth 8000
def mP:DCode:=(.seq [0] (.region [oa 0 2 (.mv (.c .nils)),oa 1 3 (.mv (.c (.bool false)))]) (.seq [0] (.seq [14,0] (.region [om 0 13 0,oa 1 14 (.bin .eql (.t 13) (.c (.str [])))]) (.cond (.t 14) (.seq [3,2] (.region [oa 0 2 (.mv (.c .nils)),oa 1 3 (.mv (.c (.bool true)))]) .ret) .skip)) (.seq [4,0] (.region [oa 0 4 (.mv (.c .nils))]) (.seq [4,0] (.seq [18,17,16,4,0] (.region [om 0 15 0,oF 1 16 Jj [(.t 15),(.c (.int .u8 32))],oa 2 17 (.len (.t 16)),oi 3 18 0]) (.block 0 (.loop [0,4,16,17,18] 1 (.seq [19,18,17,16,4,0] (.region [oa 0 19 (.bin .lss (.t 18) (.t 17))]) (.seq [18,17,16,4,0] (.cond (.t 19) .skip (.exit 0)) (.seq [18,17,16,4,0] (.block 1 (.seq [18,17,16,6,4,0] (.region [oa 0 20 (.indexA 1 (.t 16) (.t 18)),oa 1 21 (.loadH none (.t 20)),om 2 6 21]) (.seq [18,17,16,9,8,7,4,0] (.region [om 0 23 6,oF 1 24 FM [(.t 23),(.c (.str [61]))],om 2 22 24,oa 3 25 (.extract (.t 22) 0),oa 4 26 (.extract (.t 22) 1),oa 5 27 (.extract (.t 22) 2),om 6 7 25,om 7 8 26,om 8 9 27]) (.seq [18,17,16,11,10,9,7,4,0] (.region [om 0 29 8,oF 1 30 Jb [(.t 29)],om 2 28 30,oa 3 31 (.extract (.t 28) 0),oa 4 32 (.extract (.t 28) 1),oa 5 10 (.allocB 0 [(.int .i64 0),(.int .i64 0),(.int .i64 0),(.int .i64 0)]),os 6 (.storeB 0 4 (.t 10) (.t 31)),om 7 11 32]) (.seq [18,17,16,12,11,10,9,7,4,0] (.region [om 0 33 7,oc 1 34 Ps Pp bX [(.c (.str [116,100,117])),(.t 33)],om 2 12 34]) (.seq [18,17,16,12,10,4,0] (.seq [54,18,17,16,12,10,4,0] (.region [om 0 35 9,oa 1 36 (.un .not (.t 35)),om 2 37 36,og 3 38 (.mv (.t 11)) 37 false,og 4 39 (.un .not (.t 38)) 37 false,oa 5 40 (.pick (.t 37) (.c (.bool true)) (.t 39)),om 6 41 40,og 7 42 (.fieldA 0 (.t 10)) 41 false,og 8 43 (.loadB 0 none (.t 42)) 41 false,og 9 44 (.bin .neq (.t 43) (.c (.int .i64 2))) 41 false,oa 10 45 (.pick (.t 41) (.c (.bool true)) (.t 44)),om 11 46 45,og 12 47 (.mv (.t 7)) 46 false,og 13 48 (.lenT (.t 47)) 46 false,og 14 49 (.bin .neq (.t 48) (.c (.int .i64 1))) 46 false,oa 15 50 (.pick (.t 46) (.c (.bool true)) (.t 49)),om 16 51 50,og 17 52 (.mv (.t 12)) 51 false,og 18 53 (.bin .lss (.t 52) (.c (.int .i64 0))) 51 false,oa 19 54 (.pick (.t 51) (.c (.bool true)) (.t 53))]) (.cond (.t 54) (.seq [3,2] (.region [oa 0 2 (.mv (.c .nils)),oa 1 3 (.mv (.c (.bool false)))]) .ret) .skip)) (.region [om 0 55 4,om 1 56 12,oa 2 57 (.fieldA 1 (.t 10)),ob 3 58 (.loadB 0 none (.t 57)),oa 4 59 (.fieldA 2 (.t 10)),ob 5 60 (.loadB 0 none (.t 59)),oa 6 61 (.build [(.int .i64 0),(.int .i64 0),(.int .i64 0)] [(0,1,(.t 56)),(1,1,(.t 58)),(2,1,(.t 60))]),⟨7,some 62,.a false (.litSlice 3 1 [(.int .i64 0),(.int .i64 0),(.int .i64 0)] [(0,3,(.t 61))]) (some I0),none,[]⟩,oa 8 63 (.app 3 (.t 55) (.t 62)),om 9 4 63]))))))) (.region [oa 0 64 (.bin .add (.t 18) (.c (.int .i64 1))),om 1 18 64]))))))) (.seq [4] (.seq [73,4] (.region [on 0 65 4,oF 1 66 Eb [(.t 65)],oa 2 67 (.un .not (.t 66)),om 3 68 67,⟨4,some 69,.a true (.mv (.t 4)) none,(some (68,false)),[]⟩,⟨5,some 70,.call false FF.S FF.P FF.D [(.t 69)],(some (68,false)),[]⟩,og 6 71 (.mv (.t 0)) 68 false,og 7 72 (.bin .neq (.t 70) (.t 71)) 68 false,oa 8 73 (.pick (.t 68) (.c (.bool true)) (.t 72))]) (.cond (.t 73) (.seq [3,2] (.region [oa 0 2 (.mv (.c .nils)),oa 1 3 (.mv (.c (.bool false)))]) .ret) .skip)) (.seq [3,2] (.region [om 0 74 4,om 1 2 74,oa 2 3 (.mv (.c (.bool true)))]) .ret))))))
def Jf:Fn:=⟨⟨1,75,1,false,[.tmp 2,.tmp 3],mP⟩,[.one .frz (.str)],.tup [.one .own (.sl I0),.one .own (.bool)]⟩
theorem mN:Jf.A:=Bp ⟨m7,WO,mj,nz,SK,aY,trivial⟩
def Dm:List UInt8→(List (Int×Int×Int))×Bool:=Jf.V
def RZ:List UInt8→Prop:=Jf.O
theorem mH:Jf.B:=Bq ⟨na,WN,mn,nV,SH,aZ,trivial⟩ (by kernel_rfl) (fun x=>by kernel_rfl)
end
section
set_option maxRecDepth 100000
def Fk(x:List UInt8)(x0:((List (Int×(Int×Int)))×Int)):Bool:=(bAnd (iLt x0.2 (lLen (BJ (x,32)))) (bNot (bOr (bNot (AN ((lGet (BJ (x,32)) (iNat x0.2) []),[(61:UInt8)])).2.2) (bOr (bNot (Dx (AN ((lGet (BJ (x,32)) (iNat x0.2) []),[(61:UInt8)])).2.1).2) (bOr (iNe (Dx (AN ((lGet (BJ (x,32)) (iNat x0.2) []),[(61:UInt8)])).2.1).1.1 2) (bOr (iNe (lLen (AN ((lGet (BJ (x,32)) (iNat x0.2) []),[(61:UInt8)])).1) 1) (iLt (FK ([(116:UInt8),100,117],(AN ((lGet (BJ (x,32)) (iNat x0.2) []),[(61:UInt8)])).1)) 0)))))))
def FD(x:List UInt8)(x0:((List (Int×(Int×Int)))×Int)):((List (Int×(Int×Int)))×Int):=((lApp x0.1 [((FK ([(116:UInt8),100,117],(AN ((lGet (BJ (x,32)) (iNat x0.2) []),[(61:UInt8)])).1)),(Dx (AN ((lGet (BJ (x,32)) (iNat x0.2) []),[(61:UInt8)])).2.1).1.2.1,(Dx (AN ((lGet (BJ (x,32)) (iNat x0.2) []),[(61:UInt8)])).2.1).1.2.2.1)]),(iAdd .i64 x0.2 1))
def RM(x:List UInt8)(x0:((List (Int×(Int×Int)))×Int)):Prop:=(((iLt x0.2 (lLen (BJ (x,32))))=true→((((0:Int)≤x0.2)∧(x0.2<(((List.length (BJ (x,32))):Int))))∧(((iNat x0.2)<(List.length (BJ (x,32))))∧((Ks ((lGet (BJ (x,32)) (iNat x0.2) []),[(61:UInt8)]))∧((O2 (AN ((lGet (BJ (x,32)) (iNat x0.2) []),[(61:UInt8)])).2.1)∧((Nb ([(116:UInt8),100,117],(AN ((lGet (BJ (x,32)) (iNat x0.2) []),[(61:UInt8)])).1))∧(((bOr (bNot (AN ((lGet (BJ (x,32)) (iNat x0.2) []),[(61:UInt8)])).2.2) (bOr (bNot (Dx (AN ((lGet (BJ (x,32)) (iNat x0.2) []),[(61:UInt8)])).2.1).2) (bOr (iNe (Dx (AN ((lGet (BJ (x,32)) (iNat x0.2) []),[(61:UInt8)])).2.1).1.1 2) (bOr (iNe (lLen (AN ((lGet (BJ (x,32)) (iNat x0.2) []),[(61:UInt8)])).1) 1) (iLt (FK ([(116:UInt8),100,117],(AN ((lGet (BJ (x,32)) (iNat x0.2) []),[(61:UInt8)])).1)) 0)))))=true→True)∧((bOr (bNot (AN ((lGet (BJ (x,32)) (iNat x0.2) []),[(61:UInt8)])).2.2) (bOr (bNot (Dx (AN ((lGet (BJ (x,32)) (iNat x0.2) []),[(61:UInt8)])).2.1).2) (bOr (iNe (Dx (AN ((lGet (BJ (x,32)) (iNat x0.2) []),[(61:UInt8)])).2.1).1.1 2) (bOr (iNe (lLen (AN ((lGet (BJ (x,32)) (iNat x0.2) []),[(61:UInt8)])).1) 1) (iLt (FK ([(116:UInt8),100,117],(AN ((lGet (BJ (x,32)) (iNat x0.2) []),[(61:UInt8)])).1)) 0)))))=false→(AA (((List.length x0.1)+(List.length [((FK ([(116:UInt8),100,117],(AN ((lGet (BJ (x,32)) (iNat x0.2) []),[(61:UInt8)])).1)),(Dx (AN ((lGet (BJ (x,32)) (iNat x0.2) []),[(61:UInt8)])).2.1).1.2.1,(Dx (AN ((lGet (BJ (x,32)) (iNat x0.2) []),[(61:UInt8)])).2.1).1.2.2.1)]))*3))))))))))∧((iLt x0.2 (lLen (BJ (x,32))))=false→True))
theorem bf (x):Dm x=(bSel (sEq x []) ([],true) (bSel (iLt (Al (Fk x) (FD x) ([],0)).2 (lLen (BJ (x,32)))) ([],false) (bSel (bOr (bNot (Ep (Al (Fk x) (FD x) ([],0)).1)) (sNe (CO (Al (Fk x) (FD x) ([],0)).1) x)) ([],false) ((Al (Fk x) (FD x) ([],0)).1,true)))):=(Jf.v x).trans (by kernel_rfl)
theorem bg (x):RZ x=(((sEq x [])=true→True)∧((sEq x [])=false→((Sm (x,32))∧((LoopOk (Fk x) (FD x) (RM x) ([],0))∧(((iLt (Al (Fk x) (FD x) ([],0)).2 (lLen (BJ (x,32))))=true→True)∧((iLt (Al (Fk x) (FD x) ([],0)).2 (lLen (BJ (x,32))))=false→((LG (Al (Fk x) (FD x) ([],0)).1)∧(((bNot (Ep (Al (Fk x) (FD x) ([],0)).1))=true→True)∧((bNot (Ep (Al (Fk x) (FD x) ([],0)).1))=false→(O3 (Al (Fk x) (FD x) ([],0)).1)))))))))):=(Jf.o x).trans (by kernel_rfl)
attribute [irreducible] Dm RZ
end
section
set_option maxRecDepth 20000
abbrev H5:=Int×Int×Int
def kd(b:UInt8):Nat:=if b=116 then 0 else if b=100 then 1 else if b=117 then 2 else 3
theorem vK(b:UInt8):FK ([(116:UInt8),100,117],[b])=if kd b<3 then (kd b:Int) else -1:=by
 rw[bD];unfold kd;by_cases h0:b=116
 · subst h0;decide
 · by_cases h1:b=100
   · subst h1;decide
   · by_cases h2:b=117
     · subst h2;decide
     · have e:∀ c:UInt8,b≠c→([b]:List UInt8).isPrefixOf (c::[])=false:=fun c hc=>by simp[List.isPrefixOf,hc]
       simp[Lib.index,List.isPrefixOf,h0,h1,h2]
theorem yX(k:Nat)(h:k<3):kd (([116,100,117]:List UInt8).getD k 0)=k:=by
 rcases (show k=0∨k=1∨k=2 by omega) with rfl|rfl|rfl<;>decide
theorem zy(b:UInt8)(h:kd b<3):b≠61:=fun e=>by subst e;exact absurd h (by decide)
def Z3(s:H5):Prop:=0≤s.1∧s.1≤2∧Cj (2,s.2.1,s.2.2,0)=true
def aA(w:List UInt8):Bool:=bOr (bNot (AN (w,[(61:UInt8)])).2.2) (bOr (bNot (Dx (AN (w,[(61:UInt8)])).2.1).2) (bOr (iNe (Dx (AN (w,[(61:UInt8)])).2.1).1.1 2) (bOr (iNe (lLen (AN (w,[(61:UInt8)])).1) 1) (iLt (FK ([(116:UInt8),100,117],(AN (w,[(61:UInt8)])).1)) 0))))
def az(w:List UInt8):H5:=((FK ([(116:UInt8),100,117],(AN (w,[(61:UInt8)])).1)),(Dx (AN (w,[(61:UInt8)])).2.1).1.2.1,(Dx (AN (w,[(61:UInt8)])).2.1).1.2.2.1)
end
section
set_option maxRecDepth 20000
theorem sL(w:List UInt8)(l:List (List UInt8))(sep:List UInt8)(h:l≠[]):Bw (w::l) sep=w++(sep++Bw l sep):=by
 cases l with
 |nil=>exact absurd rfl h
 |cons a r=>simp[Bw,List.intercalate,List.intersperse]
end
open Go.Sort
def CS(l:List Int):List Int:=l.mergeSort fun x y=>decide (x≤y)
theorem XA(l:List Int):(CS l).length=l.length:=List.length_mergeSort l
def CX(l:List Int):List V:=l.map fun n=>.int .i64 n
def LP:A8:=fun args h Q=>match args with
 |[.nils]=>Q .undef h
 |[.slice l 0 n]=>∃ (b:Blk) (zs:List Int),h[l]?=some b∧b.k= .own∧zs.length=n∧0<n∧n<4611686018427387904∧b.cs=CX zs++b.cs.drop n∧Q .undef (h.set l { b with cs:=CX (CS zs)++b.cs.drop n })
 |_=>False
def vD(P:Program)(g:FuncId):Prop:=
 (∀ (blk off cap:Nat) (zs:List Int) (w:World),Holds (Value.int .i64) w blk off zs.toArray→blk<w.heap.size→zs.length<4611686018427387904 →
  Calls P g #[.slice (some ⟨blk,off,none⟩) zs.length cap] w fun e w'=>e= .returned (.tuple #[])∧∃ n os,w'=grow (putRow (Value.int .i64) (Sort.ahead w n) blk off (zs.mergeSort fun x y=>decide (x≤y)).toArray) os) ∧
 ∀ (p:Option Addr) (cap:Nat) (w:World),Calls P g #[.slice p 0 cap] w fun e w'=>e= .returned (.tuple #[])∧w'=w
theorem tP {ι:Ao} {k:Ac} {w w':World} {l:Nat} {blk:Blk} {cs':List V} {arr':Array Value} {e:TypeId} (H:HRel ι k w) (hb:k[l]?=some blk) (k1:blk.k= .own) (hl:cs'.length=blk.cs.length) (hsize:w.heap.size≤w'.heap.size)
 (hoth:∀ j,j<w.heap.size→j≠(ι l).b→w'.heap[j]?=w.heap[j]?) (hrow:w'.heap[(ι l).b]?=some (.cells arr' e (0,0))) (hsz:arr'.size=(ι l).c) (hcells:∀ (i:Nat) u,cs'[i]?=some u→u.cell=true∧∃ z,arr'[i]?=some z∧∀ β,Rel ι k β u z)
 (ho:w'.os=w.os) (hout:w'.output=w.output) (ht:w'.tape=w.tape):HRel ι (k.set l { blk with cs:=cs' }) w'∧Step ι k w ι (k.set l { blk with cs:=cs' }) w':=by
 have K:=Ue ι k l blk { blk with cs:=cs' } hb rfl
 have hset:∀ (j:Nat) (b:Blk),(k.set l { blk with cs:=cs' })[j]?=some b→(j=l∧b={ blk with cs:=cs' })∨(j≠l∧k[j]?=some b):=by
  intro j b hj;rcases GD hj with⟨h1,h2,_⟩|h
  · exact .inl ⟨h1,h2⟩
  · exact .inr h
 obtain⟨z0,g2,_⟩:=H.own l blk hb k1
 have hfar:∀ (j:Nat) (b:Blk),j≠l→k[j]?=some b→b.k≠.dead→w'.heap[(ι j).b]?=w.heap[(ι j).b]?:=fun j b hjl hj hbk=>hoth _ (H.there j b hj hbk) fun g=>H.apart l j blk b (E6 hjl) hb hj k1 hbk g.symm
 refine⟨⟨fun j b hj hbk i u hu=>?_,fun j b hj hbk=>?_,fun j j' b b' hne hj hj' hbk hbk'=>?_,fun j b hj hbk=>?_⟩,{ keeps:=K,kinds:=fun j b b' hj hj'=>?_,fresh:=fun j b' hle' hj hbk=>?_,frame:=fun b hb' hf=>hoth b hb' fun g=>hf l blk hb k1 g.symm,size:=hsize,os:=ho,output:=hout,tape:=ht }⟩
 · rcases hset j b hj with⟨rfl,rfl⟩|⟨hjl,hj⟩
   · obtain⟨g1,z,g2,g3⟩:=hcells i u hu;refine⟨g1,z,?_,fun β=>(g3 β).cellMono K g1⟩;rw[z0,Br];simp only[World.cell?,hrow];exact g2
   · obtain⟨g1,z,g2,g3⟩:=H.cells j b hj hbk i u hu;exact⟨g1,z,by rw[Qs (w:=w) (hfar j b hjl hj hbk)];exact g2,fun β=>(g3 β).cellMono K g1⟩
 · rcases hset j b hj with⟨rfl,rfl⟩|⟨hjl,hj⟩
   · exact⟨z0,by simp only;omega,_,e,hrow,hsz⟩
   · obtain⟨g1,g2,arr',e',g3,g4⟩:=H.own j b hj hbk;exact⟨g1,g2,arr',e',by rw[hfar j b hjl hj (by rw[hbk];decide)];exact g3,g4⟩
 · rcases hset j b hj with⟨rfl,rfl⟩|⟨hjl,hg⟩<;>rcases hset j' b' hj' with⟨rfl,rfl⟩|⟨hjl',hg'⟩
   · exact absurd rfl hne
   · exact H.apart _ _ _ _ hne hb hg' k1 hbk'
   · exact H.apart _ _ _ _ hne hg hb hbk (by rw[k1];decide)
   · exact H.apart j j' b b' hne hg hg' hbk hbk'
 · refine HH ?_ hsize
   rcases hset j b hj with⟨rfl,rfl⟩|⟨hjl,hj⟩
   · exact H.there _ _ hb hbk
   · exact H.there j b hj hbk
 · rcases hset j b' hj' with⟨rfl,rfl⟩|⟨hjl,hj'⟩
   · rw[hb] at hj;cases hj;exact .inl rfl
   · rw[hj] at hj';cases hj';exact .inl rfl
 · rcases hset j b' hj with⟨rfl,rfl⟩|⟨hjl,hj⟩
   · have:=BV hb;omega
   · have:=BV hj;omega
theorem tI{P:Program}{g:FuncId}(hs:vD P g):Aw P g LP:=by
 intro Φ ι σ w args xs Q hΦ H hargs hsem _;have hlen:=hargs.1;unfold LP at hsem;split at hsem
 · match xs,hlen with
   | [x],_=>
     have hr:=hargs.2 0 _ _ rfl rfl (fun _=>0);obtain⟨a,rfl⟩:=L3 hr;refine(hs.2 a 0 w).mono ?_;rintro e w' ⟨rfl,rfl⟩;exact⟨_,.undef,σ,ι,rfl,hsem,hΦ,fun β=>.undef _,H,.refl _ _ _⟩
 · rename_i l n
   match xs,hlen with
   | [x],_=>
     have hr:=hargs.2 0 _ _ rfl rfl (fun _=>0);obtain⟨b,zs,hb,hk,hz,hn0,hn,hcs,hQ⟩:=hsem;have hl:Φ l=none:=(UR hr).1 l 0 n rfl
     have hb':(kill Φ σ)[l]?=some b:=by rw[L6 hl];exact hb
     obtain⟨b1,g1,hc⟩:=E3 hr;rw[hb'] at g1;cases g1;rcases hc with⟨c,rfl,c1,c2⟩|⟨rfl,_⟩
     · obtain⟨z0,arr,el,harr,hsz,hrc⟩:=H.ownCells hb' hk;rw[z0,EA]
       have hle:b.cs.length≤arr.size:=by simpa using hrc.1
       have hcl:n≤b.cs.length:=by rw[hcs,BM];simp[CX];omega
       have hcell:∀ j (hj:j<n),arr[j]?=some (.int .i64 (zs[j]'(by omega))):=by
        intro j hj
        have hcj:b.cs[j]?=some (.int .i64 (zs[j]'(by omega))):=by
         rw[hcs,Bm (by simp[CX];omega)];simp[CX,AE (show j<zs.length by omega)]
        obtain⟨_,z,q1,q2⟩:=hrc.2 j _ hcj;have:=D0 (q2 (fun _=>0));subst this;simpa using q1
       have hH:Holds (Value.int .i64) w (ι l).b 0 zs.toArray:=by
        intro j hj
        have hj:j<n:=by simpa [hz] using hj
        refine⟨?_,?_⟩
        · simp only[World.cell?,harr,Br,hcell j hj];rw[getElem!_pos _ j (by simp;omega)];simp
        · simp only[World.frozen?,harr];simp
       have hcall:=hs.1 (ι l).b 0 c zs w hH (H.there l b hb' (by rw[hk];decide)) (by omega);rw[hz] at hcall;refine hcall.mono ?_;rintro e w' ⟨rfl,m,os,rfl⟩;have hblt:=H.there l b hb' (by rw[hk];decide);have hsl:=XA zs;have heap:(grow (putRow (Value.int .i64) (Sort.ahead w m) (ι l).b 0 (CS zs).toArray) os).heap=w.heap.modify (ι l).b (onCells (putCells (Value.int .i64) 0 (CS zs).toArray))++os:=rfl
       have W:=tP (w':=grow (putRow (Value.int .i64) (Sort.ahead w m) (ι l).b 0 (CS zs).toArray) os) (cs':=CX (CS zs)++b.cs.drop n) (arr':=putCells (Value.int .i64) 0 (CS zs).toArray arr) (e:=el) H hb' hk
        (by simp[CX,hsl];omega) (by rw[heap];simp) (fun j hj hne=>by
         rw[heap,Array.getElem?_append_left (by simpa using hj),Array.getElem?_modify,Ad (E6 hne)]) (by
         rw[heap,Array.getElem?_append_left (by simpa using hblt),Array.getElem?_modify,Ab rfl,harr];rfl) (by simp[putCells,hsz]) (fun i u hu=>by
         have hpi:(putCells (Value.int .i64) 0 (CS zs).toArray arr)[i]?=(arr[i]?).map fun x=>if i<n then .int .i64 ((CS zs).toArray)[i]! else x:=by
          simp[putCells,Array.getElem?_mapIdx,hsl,hz]
         rw[hpi];by_cases hi:i<n
         · rw[Bm (by simp[CX,hsl];omega)] at hu;simp only[CX,Ew,AE (show i<(CS zs).length by omega),Cc,Ai] at hu;subst hu;refine⟨rfl,_,by rw[hcell i hi];rfl,fun β=>?_⟩;simp only[Ab hi];rw[getElem!_pos _ i (by simp;omega)];simpa using Rel.int .i64 _
         · rw[CJ (by simp[CX,hsl];omega)] at hu
           have hu':b.cs[i]?=some u:=by
            rw[Iy] at hu;rw[← hu];congr 1;simp[CX,hsl];omega
           obtain⟨q0,z,q1,q2⟩:=hrc.2 i u hu';refine⟨q0,z,?_,q2⟩
           have:arr[i]?=some z:=by simpa using q1
           rw[this,Cc,Ad hi]) rfl rfl rfl
       refine⟨_,.undef,_,ι,rfl,hQ,hΦ.set hl _,fun β=>.undef _,?_,?_⟩
       · rw[UF hl];exact W.1
       · rw[UF hl];exact W.2
     · omega
 · exact hsem.elim
@[irreducible] def Dd(x:List (Int))(m:Int):(List (Int))×Int:=(shut fun(x:List (Int)) (m:Int)=>(CS x,m)).1 x m
@[irreducible] def Ta(x:List (Int)):Prop:=(shut fun(x:List (Int))=>x.length<4611686018427387904).1 x
theorem dD:Dd=fun x m=>(CS x,m):=by unfold Dd;exact(shut _).2
theorem du:Ta=fun x=>x.length<4611686018427387904:=by unfold Ta;exact(shut _).2
def W5:DMk:=⟨.one (.sl (.one (.int .i64))),false,Ta,Dd,true⟩
def EF(l:List Int):List (List PV):=l.map fun n=>[.fl (.int .i64 n)]
theorem tG(l:List Int):(EF l).flatten=l.map fun n=>.fl (.int .i64 n):=by
 induction l with
 |nil=>rfl
 |cons n r ih=>simpa [EF] using ih
theorem gK{l:List Int}{k:Nat}(h:k<l.length):Aa (EF l).flatten k= .fl (.int .i64 (l[k])):=by
 rw[tG,DZ,Ew,AE h];rfl
theorem qv:VA LP (DMk.P W5):=by
 unfold W5;rw[du,dD];rintro h ω hd P b A5 us u m K Q hinj hu hl hr ⟨(x:List Int),rfl,hok,hK⟩ hQ;have hu:us=[u]:=hu;subst hu;have hr0:RC h ω (.inn hd (P++[b+0])) (.sl .own (EF x)) u:=hr 0 (by exact Nat.one_pos)
 have hQ:=fun h' hO (hrc:RC h' ω (.inn hd (P++[b+0])) (.sl .own (EF (CS x))) u)=>hQ _ m h' hK rfl hO fun c hc=>by
  have hc:c<1:=hc
  have:c=0:=by omega
  subst this;exact hrc
 show LP [u] h Q;have hok:x.length<4611686018427387904:=hok;have hsl:=XA x;generalize hes:EF x=es at hr0
 cases hr0 with
 | nil=>
   have:x=[]:=by
    cases x with
    |nil=>rfl
    |cons=>cases hes
   subst this
   have e0:EF (CS [])=[]:=by rw[D2 hsl];rfl
   rw[e0] at hQ;exact hQ h (Only.refl _ _) (.nil _ _)
 | sl _ _ _ l o n blk hb hk hc hne hn hw hle hcell=>
   subst hes;obtain⟨hω,rfl,hown⟩:=hc
   have hx:x≠[]:=fun e=>by subst e;exact hne rfl (.inl rfl) rfl
   obtain⟨y,ys,rfl⟩:=List.exists_cons_of_ne_nil hx;generalize hzs:y::ys=zs at *
   have hpos:0<zs.length:=by rw[← hzs];simp
   have hlen:(EF zs).length=zs.length:=by simp[EF]
   have hbw:blk.w=1:=by
    have:=hw [.fl (.int .i64 y)] (by rw[← hzs];simp[EF]);simpa using this.symm
   rw[hlen] at hn hle hcell;rw[hbw,IA,Br] at hle;rw[hbw,IA] at hcell
   have hget:∀ k (hk:k<zs.length),blk.cs[k]?=some (.int .i64 (zs[k])):=by
    intro k hk;have r:=hcell k hk;rw[Br,gK hk] at r
    have e:get blk.cs k= .int .i64 (zs[k]):=by
     generalize get blk.cs k=z at r
     cases r with
     |v=>rfl
    rw[CI,AE (show k<blk.cs.length by omega)] at e;rw[AE (show k<blk.cs.length by omega)];simpa using e
   have hcs:blk.cs=CX zs++blk.cs.drop n:=by
    apply HK;intro k;by_cases hk:k<zs.length
    · rw[Bm (by simp[CX];omega),hget k hk];simp[CX,AE hk]
    · rw[CJ (by simp[CX];omega),Iy];congr 1;simp[CX];omega
   have hlt:=BV hb
   have hnl:(CX (CS zs)++blk.cs.drop n).length=blk.cs.length:=by simp[CX,hsl];omega
   refine⟨blk,zs,hb,hown,hn.symm,by omega,by omega,hcs,?_⟩;refine hQ _ ⟨by simp,fun j hj=>?_,fun j c hj=>?_⟩ (.sl _ _ _ _ _ _ { blk with cs:=CX (CS zs)++blk.cs.drop n } (by simp[hlt]) hk ⟨hω,rfl,hown⟩ (fun _ _ e=>?_) ?_ ?_ ?_ ?_)
   · rw[Fx,Ad];intro e;subst e;exact hj ⟨0,EF zs,[],Nat.one_pos,rfl,by simpa using hω⟩
   · rw[Fx];by_cases e:l=j
     · subst e;rw[hb] at hj;cases hj;exact⟨{ blk with cs:=CX (CS zs)++blk.cs.drop n },by simp[hlt],rfl,rfl,hnl⟩
     · exact⟨c,by rw[Ad e];exact hj,rfl,rfl,rfl⟩
   · have:=congrArg List.length e;simp[EF,hsl] at this;rw[this] at hpos;simp at hpos
   · rw[hn];simp[EF,hsl]
   · intro e he;simp only[EF,List.mem_map] at he;obtain⟨_,_,rfl⟩:=he;simp[hbw]
   · simp only[EF,AL,hsl,hbw,hnl];omega
   · intro k hk;simp only[EF,AL,hsl,hbw,IA] at hk
     have hk':k<(CS zs).length:=by omega
     rw[Br,gK hk']
     have:get (CX (CS zs)++blk.cs.drop n) k= .int .i64 ((CS zs)[k]):=by
      rw[CI,Bm (by simp[CX];omega)];simp[CX,AE hk']
     simp only[this];exact .v _ _ rfl
end
end Go.Ag
