/- Part 6 of what FnExactParseMacro needs. No conditions. -/
import Derived.Test.YtijikmakanpmlaaGreatDoorLibE
namespace Go.Ag
set_option linter.unusedSimpArgs false
set_option linter.unusedVariables false
noncomputable section
section
set_option maxRecDepth 8000
def ib:DCode:=(.seq [0] (.region [oi 0 2 0]) (.seq [] (.seq [3,0] (.region [oi 0 3 1]) (.block 0 (.loop [0,3] 1 (.seq [3,0] (.seq [5,3,0] (.region [om 0 4 3,oa 1 5 (.bin .leq (.t 4) (.c (.int .i64 15)))]) (.cond (.t 5) .skip (.exit 0))) (.seq [3,0] (.block 1 (.seq [11,3,0] (.region [om 0 8 3,oF 1 9 Es [(.t 8)],om 2 10 0,oa 3 11 (.bin .eql (.t 9) (.t 10))]) (.cond (.t 11) (.seq [2] (.region [om 0 12 3,om 1 2 12]) .ret) .skip))) (.region [om 0 6 3,oa 1 7 (.bin .add (.t 6) (.c (.int .i64 1))),om 2 3 7])))))) (.seq [2] (.region [oi 0 2 0]) .ret)))
def Fp:Fn:=⟨⟨1,13,0,true,[.tmp 2],ib⟩,[.one .frz (.str)],.one (.one .own (.int .i64))⟩
theorem Th:Fp.A:=A7 ⟨P5,trivial⟩
def DK:List UInt8→Int:=Fp.V
def J7:List UInt8→Prop:=Fp.O
theorem Tg:Fp.B:=A8 ⟨P3,trivial⟩ (by kernel_rfl) (fun x=>by kernel_rfl)
def kg:DCode:=(.seq [0] (.region [oi 0 2 0]) (.seq [] (.seq [3,0] (.region [oi 0 3 1]) (.block 0 (.loop [0,3] 1 (.seq [3,0] (.seq [5,3,0] (.region [om 0 4 3,oa 1 5 (.bin .leq (.t 4) (.c (.int .i64 56)))]) (.cond (.t 5) .skip (.exit 0))) (.seq [3,0] (.block 1 (.seq [11,3,0] (.region [om 0 8 3,oF 1 9 DM [(.t 8)],om 2 10 0,oa 3 11 (.bin .eql (.t 9) (.t 10))]) (.cond (.t 11) (.seq [2] (.region [om 0 12 3,om 1 2 12]) .ret) .skip))) (.region [om 0 6 3,oa 1 7 (.bin .add (.t 6) (.c (.int .i64 1))),om 2 3 7])))))) (.seq [2] (.region [oi 0 2 0]) .ret)))
def Ey:Fn:=⟨⟨1,13,0,true,[.tmp 2],kg⟩,[.one .frz (.str)],.one (.one .own (.int .i64))⟩
theorem Qt:Ey.A:=A7 ⟨Nn,trivial⟩
def Cu:List UInt8→Int:=Ey.V
def Jh:List UInt8→Prop:=Ey.O
theorem Qs:Ey.B:=A8 ⟨Nr,trivial⟩ (by kernel_rfl) (fun x=>by kernel_rfl)
def fy:DCode:=(.seq [1,0] (.region [oa 0 4 (.mv (.c (.str []))),oa 1 5 (.mv (.c (.str []))),oa 2 6 (.mv (.c (.bool false)))]) (.seq [0] (.seq [7,1,0] (.region [om 0 8 0,om 1 9 1,oc 2 10 M4 M3 W9 [(.t 8),(.t 9)],om 3 7 10]) (.seq [12,7,1,0] (.region [om 0 11 7,oa 1 12 (.bin .geq (.t 11) (.c (.int .i64 0)))]) (.cond (.t 12) (.seq [6,5,4] (.region [om 0 13 0,om 1 14 7,xA 2 15 (.substr (.t 13) none (some (.t 14))) (rg 2),om 3 16 0,om 4 17 7,om 5 18 1,xA 6 19 (.lenT (.t 18)) [5],xA 7 20 (.bin .add (.t 17) (.t 19)) [4,5,6],xA 8 21 (.substr (.t 16) (some (.t 20)) none) [3,4,5,6,7],xA 9 4 (.mv (.t 15)) [0,1,2],xA 10 5 (.mv (.t 21)) (rg 10),xA 11 6 (.mv (.c (.bool true))) (rg 11)]) .ret) .skip))) (.seq [6,5,4] (.region [om 0 22 0,om 1 4 22,oa 2 5 (.mv (.c (.str []))),oa 3 6 (.mv (.c (.bool false)))]) .ret)))
def HZ:Fn:=⟨⟨2,23,0,true,[.tmp 4,.tmp 5,.tmp 6],fy⟩,[.one .frz (.str),.one .frz (.str)],.tup [.one .own (.str),.one .own (.str),.one .own (.bool)]⟩
theorem fx:HZ.A:=A7 ⟨fv,trivial⟩
def S8:List UInt8×List UInt8→List UInt8×List UInt8×Bool:=HZ.V
def S7:List UInt8×List UInt8→Prop:=HZ.O
theorem fA:HZ.B:=A8 ⟨fu,trivial⟩ (by kernel_rfl) (fun x=>by kernel_rfl)
def j8:DCode:=(.seq [1,0] (.region [oa 0 4 (.mv (.c (.str []))),oa 1 5 (.mv (.c (.str []))),oa 2 6 (.mv (.c (.bool false)))]) (.seq [6,5,4] (.region [om 0 7 0,om 1 8 1,oF 2 9 HZ [(.t 7),(.t 8)],oa 3 10 (.extract (.t 9) 0),oa 4 11 (.extract (.t 9) 1),oa 5 12 (.extract (.t 9) 2),om 6 4 10,om 7 5 11,om 8 6 12]) .ret))
def Fu:Fn:=⟨⟨2,13,0,true,[.tmp 4,.tmp 5,.tmp 6],j8⟩,[.one .frz (.str),.one .frz (.str)],.tup [.one .own (.str),.one .own (.str),.one .own (.bool)]⟩
theorem TD:Fu.A:=A7 ⟨fx,trivial⟩
def Ax:List UInt8×List UInt8→List UInt8×List UInt8×Bool:=Fu.V
def Jg:List UInt8×List UInt8→Prop:=Fu.O
theorem TG:Fu.B:=A8 ⟨fA,trivial⟩ (by kernel_rfl) (fun x=>by kernel_rfl)
def iC:DCode:=(.seq [0] (.region [oi 0 2 0]) (.seq [] (.seq [3,0] (.region [oi 0 3 1]) (.block 0 (.loop [0,3] 1 (.seq [3,0] (.seq [5,3,0] (.region [om 0 4 3,oa 1 5 (.bin .leq (.t 4) (.c (.int .i64 15)))]) (.cond (.t 5) .skip (.exit 0))) (.seq [3,0] (.block 1 (.seq [11,3,0] (.region [om 0 8 3,oF 1 9 Et [(.t 8)],om 2 10 0,oa 3 11 (.bin .eql (.t 9) (.t 10))]) (.cond (.t 11) (.seq [2] (.region [om 0 12 3,om 1 2 12]) .ret) .skip))) (.region [om 0 6 3,oa 1 7 (.bin .add (.t 6) (.c (.int .i64 1))),om 2 3 7])))))) (.seq [2] (.region [oi 0 2 0]) .ret)))
def Fo:Fn:=⟨⟨1,13,0,true,[.tmp 2],iC⟩,[.one .frz (.str)],.one (.one .own (.int .i64))⟩
theorem Tl:Fo.A:=A7 ⟨PY,trivial⟩
def Jd:List UInt8→Int:=Fo.V
def J8:List UInt8→Prop:=Fo.O
theorem Ti:Fo.B:=A8 ⟨PW,trivial⟩ (by kernel_rfl) (fun x=>by kernel_rfl)
def gY:DCode:=(.seq [1,0] (.region [oa 0 4 (.mv (.c .nils))]) (.seq [5,1,0] (.region [oa 0 5 (.mv (.c .nils))]) (.seq [6,5,1,0] (.region [oi 0 6 0]) (.seq [6,5,0] (.seq [7,6,5,1,0] (.region [oi 0 7 0]) (.block 0 (.loop [0,1,5,6,7] 1 (.seq [7,6,5,1,0] (.seq [11,7,6,5,1,0] (.region [om 0 8 7,om 1 9 0,oa 2 10 (.lenT (.t 9)),oa 3 11 (.bin .lss (.t 8) (.t 10))]) (.cond (.t 11) .skip (.exit 0))) (.seq [7,6,5,1,0] (.block 1 (.seq [18,7,6,5,1,0] (.region [om 0 14 0,om 1 15 7,oa 2 16 (.index (.t 14) (.t 15)),om 3 17 1,oa 4 18 (.bin .eql (.t 16) (.t 17))]) (.cond (.t 18) (.seq [7,5,1,0] (.region [om 0 19 5,om 1 20 0,om 2 21 6,om 3 22 7,oa 4 23 (.substr (.t 20) (some (.t 21)) (some (.t 22))),⟨5,some 24,.a false (.litSlice 1 1 [(.str [])] [(0,1,(.t 23))]) (some (.one (.str))),none,[]⟩,oa 6 25 (.app 1 (.t 19) (.t 24)),om 7 5 25]) (.region [om 0 26 7,oa 1 27 (.bin .add (.t 26) (.c (.int .i64 1))),om 2 6 27])) .skip))) (.region [om 0 12 7,oa 1 13 (.bin .add (.t 12) (.c (.int .i64 1))),om 2 7 13])))))) (.seq [4] (.region [om 0 28 5,om 1 29 0,om 2 30 6,oa 3 31 (.substr (.t 29) (some (.t 30)) none),⟨4,some 32,.a false (.litSlice 1 1 [(.str [])] [(0,1,(.t 31))]) (some (.one (.str))),none,[]⟩,oa 5 33 (.app 1 (.t 28) (.t 32)),om 6 4 33]) .ret)))))
def Ih:Fn:=⟨⟨2,34,0,false,[.tmp 4],gY⟩,[.one .frz (.str),.one .frz (.int .u8)],.one (.one .own (.sl (.one (.str))))⟩
theorem ik:Ih.A:=A7 trivial
def Bu:List UInt8×Int→List (List UInt8):=Ih.V
def P9:List UInt8×Int→Prop:=Ih.O
theorem iy:Ih.B:=A8 trivial (by kernel_rfl) (fun x=>by kernel_rfl)
def kA:DCode:=(.seq [0] (.region [oi 0 2 0]) (.seq [] (.seq [7,6,5,0] (.region [oc 0 5 Kg LF Tx [(.c (.str [97,32,98,32,99,32,100,32,101,32,102,32,103,32,104,32,105,32,106,32,107,32,108,32,109,32,110,32,111,32,112,32,113,32,114,32,115,32,116,32,117,32,118,32,119,32,120,32,121,32,122,32,49,32,50,32,51,32,52,32,53,32,54,32,55,32,56,32,57,32,48,32,101,110,116,101,114,32,101,115,99,32,98,97,99,107,32,116,97,98,32,115,112,97,99,101,32,109,105,110,117,115,32,101,113,117,97,108,32,108,101,102,116,32,114,105,103,104,116,32,117,112,32,100,111,119,110,32,102,49,32,102,50,32,102,51,32,102,52,32,102,53,32,102,54,32,102,55,32,102,56,32,102,57])),(.c (.str [32]))],oa 1 6 (.len (.t 5)),oi 2 7 0]) (.block 0 (.loop [0,5,6,7] 1 (.seq [8,7,6,5,0] (.region [oa 0 8 (.bin .lss (.t 7) (.t 6))]) (.seq [7,6,5,0] (.cond (.t 8) .skip (.exit 0)) (.seq [7,6,5,0] (.block 1 (.seq [7,6,5,4,3,0] (.region [om 0 9 7,oa 1 10 (.indexA 1 (.t 5) (.t 7)),oa 2 11 (.loadH none (.t 10)),om 3 3 9,om 4 4 11]) (.seq [14,7,6,5,3,0] (.region [om 0 12 4,om 1 13 0,oa 2 14 (.bin .eql (.t 12) (.t 13))]) (.cond (.t 14) (.seq [2] (.region [om 0 15 3,oa 1 16 (.bin .add (.t 15) (.c (.int .i64 1))),om 2 2 16]) .ret) .skip)))) (.region [oa 0 17 (.bin .add (.t 7) (.c (.int .i64 1))),om 1 7 17]))))))) (.seq [2] (.region [oi 0 2 0]) .ret)))
def Ez:Fn:=⟨⟨1,18,0,true,[.tmp 2],kA⟩,[.one .frz (.str)],.one (.one .own (.int .i64))⟩
theorem Qv:Ez.A:=A7 ⟨XK,trivial⟩
def GF:List UInt8→Int:=Ez.V
def Ji:List UInt8→Prop:=Ez.O
theorem Qx:Ez.B:=A8 ⟨XI,trivial⟩ (by kernel_rfl) (fun x=>by kernel_rfl)
end
section
set_option maxRecDepth 100000
def Gs(x:List UInt8)(x0:Int):Bool:=(bAnd (iLe x0 15) (bNot (sEq (BP x0) x)))
def H7(x0:Int):Int:=(iAdd .i64 x0 1)
def gp(x0:Int):Prop:=(((iLe x0 15)=true→(Jb x0))∧((iLe x0 15)=false→True))
theorem Xx (x):DK x=(bSel (iLe (An (Gs x) H7 1) 15) (An (Gs x) H7 1) 0):=(Fp.v x).trans (by kernel_rfl)
theorem iA (x):J7 x=(LoopOk (Gs x) H7 gp 1):=(Fp.o x).trans (by kernel_rfl)
def Ij(x:List UInt8)(x0:Int):Bool:=(bAnd (iLe x0 56) (bNot (sEq (Bv x0) x)))
def J9(x0:Int):Int:=(iAdd .i64 x0 1)
def Kb(x0:Int):Prop:=(((iLe x0 56)=true→(Jf x0))∧((iLe x0 56)=false→True))
theorem Yq (x):Cu x=(bSel (iLe (An (Ij x) J9 1) 56) (An (Ij x) J9 1) 0):=(Ey.v x).trans (by kernel_rfl)
theorem ku (x):Jh x=(LoopOk (Ij x) J9 Kb 1):=(Ey.o x).trans (by kernel_rfl)
theorem Xb (x):S8 x=(bSel (iGe (DI x) 0) ((lSub x.1 0 (iNat (DI x))),(lSub x.1 (iNat (iAdd .i64 (DI x) (lLen x.2))) (lN x.1)),true) (x.1,[],false)):=(HZ.v x).trans (by kernel_rfl)
theorem Xa (x):S7 x=((I8 x)∧(((iGe (DI x) 0)=true→((((0:Int)≤(DI x))∧((0≤(iNat (DI x)))∧((iNat (DI x))≤(List.length x.1))))∧(((0:Int)≤(iAdd .i64 (DI x) (lLen x.2)))∧(((iNat (iAdd .i64 (DI x) (lLen x.2)))≤(lN x.1))∧((lN x.1)≤(List.length x.1))))))∧((iGe (DI x) 0)=false→True))):=(HZ.o x).trans (by kernel_rfl)
theorem Yy (x):Ax x=(S8 x):=(Fu.v x).trans (by kernel_rfl)
theorem Yr (x):Jg x=(S7 x):=(Fu.o x).trans (by kernel_rfl)
def M9(x:List UInt8)(x0:Int):Bool:=(bAnd (iLe x0 15) (bNot (sEq (Fl x0) x)))
def PQ(x0:Int):Int:=(iAdd .i64 x0 1)
def fU(x0:Int):Prop:=(((iLe x0 15)=true→(Ja x0))∧((iLe x0 15)=false→True))
theorem iG (x):Jd x=(bSel (iLe (An (M9 x) PQ 1) 15) (An (M9 x) PQ 1) 0):=(Fo.v x).trans (by kernel_rfl)
theorem gZ (x):J8 x=(LoopOk (M9 x) PQ fU 1):=(Fo.o x).trans (by kernel_rfl)
def He(x:List UInt8×Int)(x0:((List (List UInt8))×(Int×Int))):Bool:=(iLt x0.2.2 (lLen x.1))
def H4(x:List UInt8×Int)(x0:((List (List UInt8))×(Int×Int))):((List (List UInt8))×(Int×Int)):=((bSel (iEq (sGet x.1 x0.2.2) x.2) (lApp x0.1 [(lSub x.1 (iNat x0.2.1) (iNat x0.2.2))]) x0.1),(bSel (iEq (sGet x.1 x0.2.2) x.2) (iAdd .i64 x0.2.2 1) x0.2.1),(iAdd .i64 x0.2.2 1))
def Td(x:List UInt8×Int)(x0:((List (List UInt8))×(Int×Int))):Prop:=(((iLt x0.2.2 (lLen x.1))=true→((((0:Int)≤x0.2.2)∧(x0.2.2<(((List.length x.1):Int))))∧(((iEq (sGet x.1 x0.2.2) x.2)=true→(((((0:Int)≤x0.2.1)∧((0:Int)≤x0.2.2))∧(((iNat x0.2.1)≤(iNat x0.2.2))∧((iNat x0.2.2)≤(List.length x.1))))∧(A5 (((List.length x0.1)+(List.length [(lSub x.1 (iNat x0.2.1) (iNat x0.2.2))]))*1))))∧((iEq (sGet x.1 x0.2.2) x.2)=false→True))))∧((iLt x0.2.2 (lLen x.1))=false→True))
theorem ia (x):Bu x=(lApp (An (He x) (H4 x) ([],0,0)).1 [(lSub x.1 (iNat (An (He x) (H4 x) ([],0,0)).2.1) (lN x.1))]):=(Ih.v x).trans (by kernel_rfl)
theorem iB (x):P9 x=((LoopOk (He x) (H4 x) (Td x) ([],0,0))∧((((0:Int)≤(An (He x) (H4 x) ([],0,0)).2.1)∧(((iNat (An (He x) (H4 x) ([],0,0)).2.1)≤(lN x.1))∧((lN x.1)≤(List.length x.1))))∧(A5 (((List.length (An (He x) (H4 x) ([],0,0)).1)+(List.length [(lSub x.1 (iNat (An (He x) (H4 x) ([],0,0)).2.1) (lN x.1))]))*1)))):=(Ih.o x).trans (by kernel_rfl)
def LA(x:List UInt8)(x0:Int):Bool:=(bAnd (iLt x0 (lLen (D8 ([(97:UInt8),32,98,32,99,32,100,32,101,32,102,32,103,32,104,32,105,32,106,32,107,32,108,32,109,32,110,32,111,32,112,32,113,32,114,32,115,32,116,32,117,32,118,32,119,32,120,32,121,32,122,32,49,32,50,32,51,32,52,32,53,32,54,32,55,32,56,32,57,32,48,32,101,110,116,101,114,32,101,115,99,32,98,97,99,107,32,116,97,98,32,115,112,97,99,101,32,109,105,110,117,115,32,101,113,117,97,108,32,108,101,102,116,32,114,105,103,104,116,32,117,112,32,100,111,119,110,32,102,49,32,102,50,32,102,51,32,102,52,32,102,53,32,102,54,32,102,55,32,102,56,32,102,57],[(32:UInt8)])))) (bNot (sEq (lGet (D8 ([(97:UInt8),32,98,32,99,32,100,32,101,32,102,32,103,32,104,32,105,32,106,32,107,32,108,32,109,32,110,32,111,32,112,32,113,32,114,32,115,32,116,32,117,32,118,32,119,32,120,32,121,32,122,32,49,32,50,32,51,32,52,32,53,32,54,32,55,32,56,32,57,32,48,32,101,110,116,101,114,32,101,115,99,32,98,97,99,107,32,116,97,98,32,115,112,97,99,101,32,109,105,110,117,115,32,101,113,117,97,108,32,108,101,102,116,32,114,105,103,104,116,32,117,112,32,100,111,119,110,32,102,49,32,102,50,32,102,51,32,102,52,32,102,53,32,102,54,32,102,55,32,102,56,32,102,57],[(32:UInt8)])) (iNat x0) []) x)))
def Ns(x0:Int):Int:=(iAdd .i64 x0 1)
def Qg(x0:Int):Prop:=(((iLt x0 (lLen (D8 ([(97:UInt8),32,98,32,99,32,100,32,101,32,102,32,103,32,104,32,105,32,106,32,107,32,108,32,109,32,110,32,111,32,112,32,113,32,114,32,115,32,116,32,117,32,118,32,119,32,120,32,121,32,122,32,49,32,50,32,51,32,52,32,53,32,54,32,55,32,56,32,57,32,48,32,101,110,116,101,114,32,101,115,99,32,98,97,99,107,32,116,97,98,32,115,112,97,99,101,32,109,105,110,117,115,32,101,113,117,97,108,32,108,101,102,116,32,114,105,103,104,116,32,117,112,32,100,111,119,110,32,102,49,32,102,50,32,102,51,32,102,52,32,102,53,32,102,54,32,102,55,32,102,56,32,102,57],[(32:UInt8)]))))=true→((((0:Int)≤x0)∧(x0<(((List.length (D8 ([(97:UInt8),32,98,32,99,32,100,32,101,32,102,32,103,32,104,32,105,32,106,32,107,32,108,32,109,32,110,32,111,32,112,32,113,32,114,32,115,32,116,32,117,32,118,32,119,32,120,32,121,32,122,32,49,32,50,32,51,32,52,32,53,32,54,32,55,32,56,32,57,32,48,32,101,110,116,101,114,32,101,115,99,32,98,97,99,107,32,116,97,98,32,115,112,97,99,101,32,109,105,110,117,115,32,101,113,117,97,108,32,108,101,102,116,32,114,105,103,104,116,32,117,112,32,100,111,119,110,32,102,49,32,102,50,32,102,51,32,102,52,32,102,53,32,102,54,32,102,55,32,102,56,32,102,57],[(32:UInt8)]))):Int))))∧((iNat x0)<(List.length (D8 ([(97:UInt8),32,98,32,99,32,100,32,101,32,102,32,103,32,104,32,105,32,106,32,107,32,108,32,109,32,110,32,111,32,112,32,113,32,114,32,115,32,116,32,117,32,118,32,119,32,120,32,121,32,122,32,49,32,50,32,51,32,52,32,53,32,54,32,55,32,56,32,57,32,48,32,101,110,116,101,114,32,101,115,99,32,98,97,99,107,32,116,97,98,32,115,112,97,99,101,32,109,105,110,117,115,32,101,113,117,97,108,32,108,101,102,116,32,114,105,103,104,116,32,117,112,32,100,111,119,110,32,102,49,32,102,50,32,102,51,32,102,52,32,102,53,32,102,54,32,102,55,32,102,56,32,102,57],[(32:UInt8)]))))))∧((iLt x0 (lLen (D8 ([(97:UInt8),32,98,32,99,32,100,32,101,32,102,32,103,32,104,32,105,32,106,32,107,32,108,32,109,32,110,32,111,32,112,32,113,32,114,32,115,32,116,32,117,32,118,32,119,32,120,32,121,32,122,32,49,32,50,32,51,32,52,32,53,32,54,32,55,32,56,32,57,32,48,32,101,110,116,101,114,32,101,115,99,32,98,97,99,107,32,116,97,98,32,115,112,97,99,101,32,109,105,110,117,115,32,101,113,117,97,108,32,108,101,102,116,32,114,105,103,104,116,32,117,112,32,100,111,119,110,32,102,49,32,102,50,32,102,51,32,102,52,32,102,53,32,102,54,32,102,55,32,102,56,32,102,57],[(32:UInt8)]))))=false→True))
theorem kC (x):GF x=(bSel (iLt (An (LA x) Ns 0) (lLen (D8 ([(97:UInt8),32,98,32,99,32,100,32,101,32,102,32,103,32,104,32,105,32,106,32,107,32,108,32,109,32,110,32,111,32,112,32,113,32,114,32,115,32,116,32,117,32,118,32,119,32,120,32,121,32,122,32,49,32,50,32,51,32,52,32,53,32,54,32,55,32,56,32,57,32,48,32,101,110,116,101,114,32,101,115,99,32,98,97,99,107,32,116,97,98,32,115,112,97,99,101,32,109,105,110,117,115,32,101,113,117,97,108,32,108,101,102,116,32,114,105,103,104,116,32,117,112,32,100,111,119,110,32,102,49,32,102,50,32,102,51,32,102,52,32,102,53,32,102,54,32,102,55,32,102,56,32,102,57],[(32:UInt8)])))) (iAdd .i64 (An (LA x) Ns 0) 1) 0):=(Ez.v x).trans (by kernel_rfl)
theorem kJ (x):Ji x=((Je ([(97:UInt8),32,98,32,99,32,100,32,101,32,102,32,103,32,104,32,105,32,106,32,107,32,108,32,109,32,110,32,111,32,112,32,113,32,114,32,115,32,116,32,117,32,118,32,119,32,120,32,121,32,122,32,49,32,50,32,51,32,52,32,53,32,54,32,55,32,56,32,57,32,48,32,101,110,116,101,114,32,101,115,99,32,98,97,99,107,32,116,97,98,32,115,112,97,99,101,32,109,105,110,117,115,32,101,113,117,97,108,32,108,101,102,116,32,114,105,103,104,116,32,117,112,32,100,111,119,110,32,102,49,32,102,50,32,102,51,32,102,52,32,102,53,32,102,54,32,102,55,32,102,56,32,102,57],[(32:UInt8)]))∧(LoopOk (LA x) Ns Qg 0)):=(Ez.o x).trans (by kernel_rfl)
attribute [irreducible] DK J7 Cu Jh S8 S7 Ax Jg Jd J8 Bu P9 GF Ji
end
section
set_option maxRecDepth 8000
def ic:DCode:=(.seq [0] (.region [oa 0 2 (.mv (.c (.str [])))]) (.seq [0] (.seq [7,0] (.region [om 0 6 0,oa 1 7 (.bin .eql (.t 6) (.c (.int .i64 0)))]) (.cond (.t 7) (.seq [2] (.region [oa 0 2 (.mv (.c (.str [48])))]) .ret) .skip)) (.seq [3,0] (.region [oa 0 3 (.mv (.c (.str [])))]) (.seq [3,0] (.seq [4,3,0] (.region [om 0 8 0,om 1 4 8]) (.block 0 (.loop [0,3,4] 1 (.seq [4,3,0] (.seq [10,4,3,0] (.region [om 0 9 4,oa 1 10 (.bin .neq (.t 9) (.c (.int .i64 0)))]) (.cond (.t 10) .skip (.exit 0))) (.seq [4,3,0] (.block 1 (.seq [5,4,3,0] (.region [om 0 13 4,oa 1 14 (.bin .rem (.t 13) (.c (.int .i64 10))),om 2 5 14]) (.seq [5,4,3,0] (.seq [16,5,4,3,0] (.region [om 0 15 5,oa 1 16 (.bin .lss (.t 15) (.c (.int .i64 0)))]) (.cond (.t 16) (.region [om 0 17 5,oa 1 18 (.un .neg (.t 17)),om 2 5 18]) .skip)) (.region [om 0 19 5,oa 1 20 (.bin .add (.c (.int .i64 48)) (.t 19)),oa 2 21 (.conv .u8 (.t 20)),⟨3,some 22,.a false (.litSlice 1 1 [(.int .u8 0)] [(0,1,(.t 21))]) (some (.one (.int .u8))),none,[]⟩,oa 4 23 (.bstr (.t 22)),om 5 24 3,oa 6 25 (.bin .add (.t 23) (.t 24)),om 7 3 25])))) (.region [om 0 11 4,oa 1 12 (.bin .quo (.t 11) (.c (.int .i64 10))),om 2 4 12])))))) (.seq [3] (.seq [27,3] (.region [om 0 26 0,oa 1 27 (.bin .lss (.t 26) (.c (.int .i64 0)))]) (.cond (.t 27) (.seq [2] (.region [om 0 28 3,oa 1 29 (.bin .add (.c (.str [45])) (.t 28)),om 2 2 29]) .ret) .skip)) (.seq [2] (.region [om 0 30 3,om 1 2 30]) .ret))))))
def Dh:Fn:=⟨⟨1,31,0,true,[.tmp 2],ic⟩,[.one .frz (.int .i64)],.one (.one .own (.str))⟩
theorem Lw:Dh.A:=A7 trivial
def C7:Int→List UInt8:=Dh.V
def Gv:Int→Prop:=Dh.O
theorem Lx:Dh.B:=A8 trivial (by kernel_rfl) (fun x=>by kernel_rfl)
def fO:DCode:=(.seq [1] (.region [oa 0 1 (.boxB 0 4 (.t 0)),oa 1 2 (.mv (.c (.str [])))]) (.seq [1] (.seq [5,1] (.region [oa 0 3 (.loadB 0 (some 4) (.t 1)),oF 1 4 Fs [(.t 3)],oa 2 5 (.un .not (.t 4))]) (.cond (.t 5) (.seq [2] (.region [oa 0 2 (.mv (.c (.str [])))]) .ret) .skip)) (.seq [1] (.seq [7,1] (.region [oa 0 6 (.fieldA 0 (.t 1)),oa 1 7 (.loadB 0 none (.t 6))]) (.block 0 (.seq [8,7,1] (.region [oa 0 9 (.bin .eql (.t 7) (.c (.int .i64 0))),om 1 8 9]) (.cond (.t 8) (.seq [2] (.region [oa 0 2 (.mv (.c (.str [110,111,110,101])))]) .ret) (.seq [10,7,1] (.region [oa 0 11 (.bin .eql (.t 7) (.c (.int .i64 1))),om 1 10 11]) (.cond (.t 10) (.seq [2] (.region [oa 0 2 (.mv (.c (.str [112,97,115,115])))]) .ret) (.seq [12,7,1] (.region [oa 0 13 (.bin .eql (.t 7) (.c (.int .i64 3))),om 1 12 13]) (.cond (.t 12) (.seq [2] (.region [oa 0 14 (.fieldA 3 (.t 1)),oa 1 15 (.loadB 0 none (.t 14)),oF 2 16 Dh [(.t 15)],oa 3 17 (.bin .add (.c (.str [109,111,58])) (.t 16)),om 4 2 17]) .ret) (.seq [18,7,1] (.region [oa 0 19 (.bin .eql (.t 7) (.c (.int .i64 4))),om 1 18 19]) (.cond (.t 18) (.seq [2] (.region [oa 0 20 (.fieldA 3 (.t 1)),oa 1 21 (.loadB 0 none (.t 20)),oF 2 22 Dh [(.t 21)],oa 3 23 (.bin .add (.c (.str [116,103,58])) (.t 22)),om 4 2 23]) .ret) (.seq [24,7,1] (.region [oa 0 25 (.bin .eql (.t 7) (.c (.int .i64 5))),om 1 24 25]) (.cond (.t 24) (.seq [2] (.region [oa 0 26 (.fieldA 3 (.t 1)),oa 1 27 (.loadB 0 none (.t 26)),oF 2 28 Dh [(.t 27)],oa 3 29 (.bin .add (.c (.str [116,111,58])) (.t 28)),om 4 2 29]) .ret) (.seq [30,7,1] (.region [oa 0 31 (.bin .eql (.t 7) (.c (.int .i64 6))),om 1 30 31]) (.cond (.t 30) (.seq [2] (.region [oa 0 32 (.fieldA 2 (.t 1)),xA 1 33 (.loadB 0 none (.t 32)) (rg 1),oa 4 36 (.fieldA 1 (.t 1)),xA 5 37 (.loadB 0 none (.t 36)) [4],xF 2 34 Es [(.t 33)] (rg 2),xA 3 35 (.bin .add (.t 34) (.c (.str [47]))) (rg 3),xF 6 38 DM [(.t 37)] [0,1,2,4,5],xA 7 39 (.bin .add (.t 35) (.t 38)) (rg 7),xA 8 2 (.mv (.t 39)) (rg 8)]) .ret) (.seq [40,7,1] (.region [oa 0 41 (.bin .eql (.t 7) (.c (.int .i64 7))),om 1 40 41]) (.cond (.t 40) (.seq [2] (.region [oa 0 42 (.fieldA 3 (.t 1)),xA 1 43 (.loadB 0 none (.t 42)) (rg 1),oa 4 46 (.fieldA 1 (.t 1)),xA 5 47 (.loadB 0 none (.t 46)) [4],xF 2 44 Dh [(.t 43)] (rg 2),xA 3 45 (.bin .add (.t 44) (.c (.str [47]))) (rg 3),xF 6 48 DM [(.t 47)] [0,1,2,4,5],xA 7 49 (.bin .add (.t 45) (.t 48)) (rg 7),xA 8 2 (.mv (.t 49)) (rg 8)]) .ret) (.seq [50,7,1] (.region [oa 0 51 (.bin .eql (.t 7) (.c (.int .i64 8))),om 1 50 51]) (.cond (.t 50) (.seq [2] (.region [oa 0 52 (.fieldA 2 (.t 1)),oa 1 53 (.loadB 0 none (.t 52)),oF 2 54 Es [(.t 53)],oa 3 55 (.bin .add (.c (.str [111,110,99,101,58])) (.t 54)),om 4 2 55]) .ret) (.seq [56,7,1] (.region [oa 0 57 (.bin .eql (.t 7) (.c (.int .i64 9))),om 1 56 57]) (.cond (.t 56) (.seq [2] (.region [oa 0 58 (.fieldA 3 (.t 1)),oa 1 59 (.loadB 0 none (.t 58)),oF 2 60 Dh [(.t 59)],oa 3 61 (.bin .add (.c (.str [109,97,99,114,111,58])) (.t 60)),om 4 2 61]) .ret) (.seq [62,1] (.region [oa 0 63 (.bin .eql (.t 7) (.c (.int .i64 10))),om 1 62 63]) (.cond (.t 62) (.seq [2] (.region [oa 0 2 (.mv (.c (.str [99,97,112,115])))]) .ret) .skip)))))))))))))))))))))) (.seq [1] (.seq [66,1] (.region [oa 0 64 (.fieldA 2 (.t 1)),oa 1 65 (.loadB 0 none (.t 64)),oa 2 66 (.bin .eql (.t 65) (.c (.int .i64 0)))]) (.cond (.t 66) (.seq [2] (.region [oa 0 67 (.fieldA 1 (.t 1)),oa 1 68 (.loadB 0 none (.t 67)),oF 2 69 DM [(.t 68)],om 3 2 69]) .ret) .skip)) (.seq [2] (.region [oa 0 70 (.fieldA 2 (.t 1)),xA 1 71 (.loadB 0 none (.t 70)) (rg 1),oa 4 74 (.fieldA 1 (.t 1)),xA 5 75 (.loadB 0 none (.t 74)) [4],xF 2 72 Es [(.t 71)] (rg 2),xA 3 73 (.bin .add (.t 72) (.c (.str [45]))) (rg 3),xF 6 76 DM [(.t 75)] [0,1,2,4,5],xA 7 77 (.bin .add (.t 73) (.t 76)) (rg 7),xA 8 2 (.mv (.t 77)) (rg 8)]) .ret)))))
def F3:Fn:=⟨⟨1,78,1,true,[.tmp 2],fO⟩,[.agg [(.frz,.int .i64),(.frz,.int .i64),(.frz,.int .i64),(.frz,.int .i64)]],.one (.one .own (.str))⟩
theorem fI:F3.A:=A7 ⟨XA,Lw,Lw,Lw,P5,Nn,Lw,Nn,P5,Lw,Nn,P5,Nn,trivial⟩
def BD:Int×Int×Int×Int→List UInt8:=F3.V
def Ls:Int×Int×Int×Int→Prop:=F3.O
theorem fN:F3.B:=A8 ⟨XJ,Lx,Lx,Lx,P3,Nr,Lx,Nr,P3,Lx,Nr,P3,Nr,trivial⟩ (by kernel_rfl) (fun x=>by kernel_rfl)
def gq:DCode:=(.seq [0] (.region [oa 0 2 (.mv (.c (.str [])))]) (.seq [3,0] (.region [⟨0,some 5,.a false (.litSlice 1 0 [] []) (some (.one (.str))),none,[]⟩,om 1 3 5]) (.seq [3] (.seq [4,3,0] (.region [oi 0 4 0]) (.block 0 (.loop [0,3,4] 1 (.seq [4,3,0] (.seq [13,4,3,0] (.region [om 0 6 4,on 1 7 0,oa 2 8 (.len (.t 7)),oa 3 9 (.bin .lss (.t 6) (.t 8)),om 4 10 9,⟨5,some 11,.a true (.mv (.t 0)) none,(some (10,true)),[]⟩,⟨6,some 12,.call false E1.S E1.P E1.D [(.t 11)],(some (10,true)),[]⟩,oa 7 13 (.pick (.t 10) (.t 12) (.c (.bool false)))]) (.cond (.t 13) .skip (.exit 0))) (.seq [4,3,0] (.block 1 (.region [om 0 16 3,on 1 17 0,om 2 18 4,xA 3 19 (.indexA 3 (.t 17) (.t 18)) [1,2],xA 4 20 (.fieldA 0 (.t 19)) [1,2,3],xA 5 21 (.loadH none (.t 20)) [1,2,3,4],on 6 22 0,om 7 23 4,xA 8 24 (.indexA 3 (.t 22) (.t 23)) [6,7],xA 9 25 (.fieldA 0 (.t 24)) [6,7,8],xA 10 26 (.loadH none (.t 25)) [6,7,8,9],xA 11 27 (.bin .add (.t 26) (.c (.int .i64 1))) [6,7,8,9,10],xA 12 28 (.substr (.c (.str [116,100,117])) (some (.t 21)) (some (.t 27))) [1,2,3,4,5,6,7,8,9,10,11],xA 13 29 (.bin .add (.t 28) (.c (.str [61]))) [1,2,3,4,5,6,7,8,9,10,11,12],on 14 30 0,om 15 31 4,xA 16 32 (.indexA 3 (.t 30) (.t 31)) [14,15],xA 17 33 (.loadH (some 3) (.t 32)) [14,15,16],xF 18 34 E0 [(.t 33)] [14,15,16,17],xF 19 35 F3 [(.t 34)] [14,15,16,17,18],xA 20 36 (.bin .add (.t 29) (.t 35)) [1,2,3,4,5,6,7,8,9,10,11,12,13,14,15,16,17,18,19],⟨21,some 37,.a false (.litSlice 1 1 [(.str [])] [(0,1,(.t 36))]) (some (.one (.str))),none,[1,2,3,4,5,6,7,8,9,10,11,12,13,14,15,16,17,18,19,20]⟩,xA 22 38 (.app 1 (.t 16) (.t 37)) (rg 22),xA 23 3 (.mv (.t 38)) (rg 23)])) (.region [om 0 14 4,oa 1 15 (.bin .add (.t 14) (.c (.int .i64 1))),om 2 4 15])))))) (.seq [2] (.region [on 0 39 3,oF 1 40 NB [(.t 39),(.c (.str [32]))],om 2 2 40]) .ret))))
def P7:Fn:=⟨⟨1,41,0,true,[.tmp 2],gq⟩,[.one .frz (.sl B8)],.one (.one .own (.str))⟩
def P0:List (Int×Int×Int)→List UInt8:=P7.V
def Tc:List (Int×Int×Int)→Prop:=P7.O
def iu:DCode:=(.seq [0] (.region [oa 0 2 (.mv (.c (.str [])))]) (.seq [2] (.region [om 0 3 0,oc 1 4 NI NC Yf [(.t 3)],om 2 2 4]) .ret))
def Eu:Fn:=⟨⟨1,5,0,true,[.tmp 2],iu⟩,[.one .frz (.int .i64)],.one (.one .own (.str))⟩
theorem Tj:Eu.A:=A7 ⟨jv,trivial⟩
def Fm:Int→List UInt8:=Eu.V
def Ib:Int→Prop:=Eu.O
theorem Tf:Eu.B:=A8 ⟨jD,trivial⟩ (by kernel_rfl) (fun x=>by kernel_rfl)
def ks:DCode:=(.seq [0] (.region [oa 0 2 (.mv (.c (.str [])))]) (.seq [] (.seq [3] (.region [om 0 3 0]) (.block 0 (.seq [4,3] (.region [oa 0 5 (.bin .eql (.t 3) (.c (.int .i64 3))),om 1 4 5]) (.cond (.t 4) (.seq [2] (.region [oa 0 2 (.mv (.c (.str [109,111,58])))]) .ret) (.seq [6,3] (.region [oa 0 7 (.bin .eql (.t 3) (.c (.int .i64 4))),om 1 6 7]) (.cond (.t 6) (.seq [2] (.region [oa 0 2 (.mv (.c (.str [116,103,58])))]) .ret) (.seq [8,3] (.region [oa 0 9 (.bin .eql (.t 3) (.c (.int .i64 5))),om 1 8 9]) (.cond (.t 8) (.seq [2] (.region [oa 0 2 (.mv (.c (.str [116,111,58])))]) .ret) (.seq [10] (.region [oa 0 11 (.bin .eql (.t 3) (.c (.int .i64 9))),om 1 10 11]) (.cond (.t 10) (.seq [2] (.region [oa 0 2 (.mv (.c (.str [109,97,99,114,111,58])))]) .ret) .skip)))))))))) (.seq [2] (.region [oa 0 2 (.mv (.c (.str [])))]) .ret)))
def GD:Fn:=⟨⟨1,12,0,true,[.tmp 2],ks⟩,[.one .frz (.int .i64)],.one (.one .own (.str))⟩
theorem Yg:GD.A:=A7 trivial
def GG:Int→List UInt8:=GD.V
def ND:Int→Prop:=GD.O
theorem Ys:GD.B:=A8 trivial (by kernel_rfl) (fun x=>by kernel_rfl)
def fK:DCode:=(.seq [1] (.region [oa 0 1 (.boxB 0 4 (.t 0)),oa 1 2 (.mv (.c (.str [])))]) (.seq [1] (.seq [5,1] (.region [oa 0 3 (.loadB 0 (some 4) (.t 1)),oF 1 4 Fq [(.t 3)],oa 2 5 (.un .not (.t 4))]) (.cond (.t 5) (.seq [2] (.region [oa 0 2 (.mv (.c (.str [])))]) .ret) .skip)) (.seq [1] (.seq [7,1] (.region [oa 0 6 (.fieldA 0 (.t 1)),oa 1 7 (.loadB 0 none (.t 6))]) (.block 0 (.seq [8,7,1] (.region [oa 0 9 (.bin .eql (.t 7) (.c (.int .i64 0))),om 1 8 9]) (.cond (.t 8) (.seq [2] (.region [oa 0 2 (.mv (.c (.str [110,111,110,101])))]) .ret) (.seq [10,7,1] (.region [oa 0 11 (.bin .eql (.t 7) (.c (.int .i64 1))),om 1 10 11]) (.cond (.t 10) (.seq [2] (.region [oa 0 2 (.mv (.c (.str [112,97,115,115])))]) .ret) (.seq [12,7,1] (.region [oa 0 13 (.bin .eql (.t 7) (.c (.int .i64 10))),om 1 12 13]) (.cond (.t 12) (.seq [2] (.region [oa 0 2 (.mv (.c (.str [99,97,112,115])))]) .ret) (.seq [14,7,1] (.region [oa 0 15 (.bin .eql (.t 7) (.c (.int .i64 2))),om 1 14 15]) (.cond (.t 14) (.seq [1] (.seq [18,1] (.region [oa 0 16 (.fieldA 2 (.t 1)),oa 1 17 (.loadB 0 none (.t 16)),oa 2 18 (.bin .neq (.t 17) (.c (.int .i64 0)))]) (.cond (.t 18) (.seq [2] (.region [oa 0 19 (.fieldA 2 (.t 1)),xA 1 20 (.loadB 0 none (.t 19)) (rg 1),oa 4 23 (.fieldA 1 (.t 1)),xA 5 24 (.loadB 0 none (.t 23)) [4],xF 2 21 Et [(.t 20)] (rg 2),xA 3 22 (.bin .add (.t 21) (.c (.str [45]))) (rg 3),xF 6 25 Ew [(.t 24)] [0,1,2,4,5],xA 7 26 (.bin .add (.t 22) (.t 25)) (rg 7),xA 8 2 (.mv (.t 26)) (rg 8)]) .ret) .skip)) (.seq [2] (.region [oa 0 27 (.fieldA 1 (.t 1)),oa 1 28 (.loadB 0 none (.t 27)),oF 2 29 Ew [(.t 28)],om 3 2 29]) .ret)) (.seq [30,7,1] (.region [oa 0 31 (.bin .eql (.t 7) (.c (.int .i64 6))),om 1 30 31]) (.cond (.t 30) (.seq [2] (.region [oa 0 32 (.fieldA 2 (.t 1)),xA 1 33 (.loadB 0 none (.t 32)) (rg 1),oa 4 36 (.fieldA 1 (.t 1)),xA 5 37 (.loadB 0 none (.t 36)) [4],xF 2 34 Et [(.t 33)] (rg 2),xA 3 35 (.bin .add (.t 34) (.c (.str [47]))) (rg 3),xF 6 38 Ew [(.t 37)] [0,1,2,4,5],xA 7 39 (.bin .add (.t 35) (.t 38)) (rg 7),xA 8 2 (.mv (.t 39)) (rg 8)]) .ret) (.seq [40,7,1] (.region [oa 0 41 (.bin .eql (.t 7) (.c (.int .i64 7))),om 1 40 41]) (.cond (.t 40) (.seq [2] (.region [oa 0 42 (.fieldA 3 (.t 1)),xA 1 43 (.loadB 0 none (.t 42)) (rg 1),oa 4 46 (.fieldA 1 (.t 1)),xA 5 47 (.loadB 0 none (.t 46)) [4],xF 2 44 Eu [(.t 43)] (rg 2),xA 3 45 (.bin .add (.t 44) (.c (.str [47]))) (rg 3),xF 6 48 Ew [(.t 47)] [0,1,2,4,5],xA 7 49 (.bin .add (.t 45) (.t 48)) (rg 7),xA 8 2 (.mv (.t 49)) (rg 8)]) .ret) (.seq [50,1] (.region [oa 0 51 (.bin .eql (.t 7) (.c (.int .i64 8))),om 1 50 51]) (.cond (.t 50) (.seq [2] (.region [oa 0 52 (.fieldA 2 (.t 1)),oa 1 53 (.loadB 0 none (.t 52)),oF 2 54 Et [(.t 53)],oa 3 55 (.bin .add (.c (.str [111,110,99,101,58])) (.t 54)),om 4 2 55]) .ret) .skip)))))))))))))))) (.seq [2] (.region [oa 0 56 (.fieldA 0 (.t 1)),xA 1 57 (.loadB 0 none (.t 56)) (rg 1),oa 3 59 (.fieldA 3 (.t 1)),xA 4 60 (.loadB 0 none (.t 59)) [3],xF 2 58 GD [(.t 57)] (rg 2),xF 5 61 Eu [(.t 60)] (rg 5),xA 6 62 (.bin .add (.t 58) (.t 61)) (rg 6),xA 7 2 (.mv (.t 62)) (rg 7)]) .ret))))
def Fk:Fn:=⟨⟨1,63,1,true,[.tmp 2],fK⟩,[.agg [(.frz,.int .i64),(.frz,.int .i64),(.frz,.int .i64),(.frz,.int .i64)]],.one (.one .own (.str))⟩
theorem Xf:Fk.A:=A7 ⟨Tw,PY,Qf,Qf,PY,Qf,Tj,Qf,PY,Yg,Tj,trivial⟩
def J6:Int×Int×Int×Int→List UInt8:=Fk.V
def M6:Int×Int×Int×Int→Prop:=Fk.O
theorem Xc:Fk.B:=A8 ⟨Tv,PW,Qc,Qc,PW,Qc,Tf,Qc,PW,Ys,Tf,trivial⟩ (by kernel_rfl) (fun x=>by kernel_rfl)
def gA:DCode:=(.seq [0] (.region [oa 0 2 (.mv (.c (.str [])))]) (.seq [0] (.seq [8,0] (.region [on 0 6 0,oF 1 7 GB [(.t 6)],oa 2 8 (.un .not (.t 7))]) (.cond (.t 8) (.seq [2] (.region [oa 0 2 (.mv (.c (.str [])))]) .ret) .skip)) (.seq [3,0] (.region [oa 0 3 (.mv (.c .nils))]) (.seq [3] (.seq [11,10,9,3] (.region [on 0 9 0,oa 1 10 (.len (.t 9)),oi 2 11 0]) (.block 0 (.loop [3,9,10,11] 1 (.seq [12,11,10,9,3] (.region [oa 0 12 (.bin .lss (.t 11) (.t 10))]) (.seq [11,10,9,3] (.cond (.t 12) .skip (.exit 0)) (.seq [11,10,9,3] (.block 1 (.seq [11,10,9,5,3] (.region [oa 0 13 (.indexA 3 (.t 9) (.t 11)),ob 1 14 (.loadH (some 3) (.t 13)),oa 2 5 (.allocB 0 [(.int .i64 0),(.int .i64 0),(.int .i64 0)]),os 3 (.storeB 0 3 (.t 5) (.t 14))]) (.region [om 0 15 3,oa 1 16 (.fieldA 0 (.t 5)),xA 2 17 (.loadB 0 none (.t 16)) [1],oa 3 18 (.fieldA 0 (.t 5)),xA 4 19 (.loadB 0 none (.t 18)) [3],xA 5 20 (.bin .add (.t 19) (.c (.int .i64 1))) [3,4],xA 6 21 (.substr (.c (.str [116,100,117])) (some (.t 17)) (some (.t 20))) [1,2,3,4,5],xA 7 22 (.bin .add (.t 21) (.c (.str [61]))) [1,2,3,4,5,6],oa 8 23 (.fieldA 1 (.t 5)),xB 9 24 (.loadB 0 none (.t 23)) [8],oa 10 25 (.fieldA 2 (.t 5)),xB 11 26 (.loadB 0 none (.t 25)) [10],xA 12 27 (.build [(.int .i64 0),(.int .i64 0),(.int .i64 0),(.int .i64 0)] [(0,1,(.c (.int .i64 2))),(1,1,(.t 24)),(2,1,(.t 26))]) [8,9,10,11],xF 13 28 Fk [(.t 27)] [8,9,10,11,12],xA 14 29 (.bin .add (.t 22) (.t 28)) [1,2,3,4,5,6,7,8,9,10,11,12,13],⟨15,some 30,.a false (.litSlice 1 1 [(.str [])] [(0,1,(.t 29))]) (some (.one (.str))),none,[1,2,3,4,5,6,7,8,9,10,11,12,13,14]⟩,xA 16 31 (.app 1 (.t 15) (.t 30)) (rg 16),xA 17 3 (.mv (.t 31)) (rg 17)]))) (.region [oa 0 32 (.bin .add (.t 11) (.c (.int .i64 1))),om 1 11 32]))))))) (.seq [2] (.region [on 0 33 3,oF 1 34 Ik [(.t 33),(.c (.str [32]))],om 2 2 34]) .ret)))))
def Gu:Fn:=⟨⟨1,35,1,true,[.tmp 2],gA⟩,[.one .frz (.sl B8)],.one (.one .own (.str))⟩
theorem gg:Gu.A:=A7 ⟨XW,Xf,iO,trivial⟩
def P2:List (Int×Int×Int)→List UInt8:=Gu.V
def PU:List (Int×Int×Int)→Prop:=Gu.O
theorem fR:Gu.B:=A8 ⟨XT,Xc,iP,trivial⟩ (by kernel_rfl) (fun x=>by kernel_rfl)
end
section
set_option maxRecDepth 100000
def F2(x0:((List UInt8)×Int)):Bool:=(iNe x0.2 0)
def H6(x0:((List UInt8)×Int)):((List UInt8)×Int):=((sAdd (rowS [(iConv .u8 (iAdd .i64 48 (bSel (iLt (iRem x0.2 10) 0) (iNeg .i64 (iRem x0.2 10)) (iRem x0.2 10))))]) x0.1),(iQuo .i64 x0.2 10))
def H5(x0:((List UInt8)×Int)):Prop:=(((iNe x0.2 0)=true→(((10:Int)≠0)∧((((List.length (rowS [(iConv .u8 (iAdd .i64 48 (bSel (iLt (iRem x0.2 10) 0) (iNeg .i64 (iRem x0.2 10)) (iRem x0.2 10))))]))+(List.length x0.1))≤9223372036854775807)∧((10:Int)≠0))))∧((iNe x0.2 0)=false→True))
theorem Xy (x):C7 x=(bSel (iEq x 0) [(48:UInt8)] (bSel (iLt x 0) (sAdd [(45:UInt8)] (An F2 H6 ([],x)).1) (An F2 H6 ([],x)).1)):=(Dh.v x).trans (by kernel_rfl)
theorem Xt (x):Gv x=(((iEq x 0)=true→True)∧((iEq x 0)=false→((LoopOk F2 H6 H5 ([],x))∧(((iLt x 0)=true→(((List.length [(45:UInt8)])+(List.length (An F2 H6 ([],x)).1))≤9223372036854775807))∧((iLt x 0)=false→True))))):=(Dh.o x).trans (by kernel_rfl)
theorem S9 (x):BD x=(bSel (bNot (Cl x)) [] (bSel (iEq x.1 0) [(110:UInt8),111,110,101] (bSel (iEq x.1 1) [(112:UInt8),97,115,115] (bSel (iEq x.1 3) (sAdd [(109:UInt8),111,58] (C7 x.2.2.2)) (bSel (iEq x.1 4) (sAdd [(116:UInt8),103,58] (C7 x.2.2.2)) (bSel (iEq x.1 5) (sAdd [(116:UInt8),111,58] (C7 x.2.2.2)) (bSel (iEq x.1 6) (sAdd (sAdd (BP x.2.2.1) [(47:UInt8)]) (Bv x.2.1)) (bSel (iEq x.1 7) (sAdd (sAdd (C7 x.2.2.2) [(47:UInt8)]) (Bv x.2.1)) (bSel (iEq x.1 8) (sAdd [(111:UInt8),110,99,101,58] (BP x.2.2.1)) (bSel (iEq x.1 9) (sAdd [(109:UInt8),97,99,114,111,58] (C7 x.2.2.2)) (bSel (iEq x.1 10) [(99:UInt8),97,112,115] (bSel (iEq x.2.2.1 0) (Bv x.2.1) (sAdd (sAdd (BP x.2.2.1) [(45:UInt8)]) (Bv x.2.1)))))))))))))):=(F3.v x).trans (by kernel_rfl)
theorem fL (x):Ls x=((LB x)∧(((bNot (Cl x))=true→True)∧((bNot (Cl x))=false→(((iEq x.1 0)=true→True)∧((iEq x.1 0)=false→(((iEq x.1 1)=true→True)∧((iEq x.1 1)=false→(((iEq x.1 3)=true→((Gv x.2.2.2)∧(((List.length [(109:UInt8),111,58])+(List.length (C7 x.2.2.2)))≤9223372036854775807)))∧((iEq x.1 3)=false→(((iEq x.1 4)=true→((Gv x.2.2.2)∧(((List.length [(116:UInt8),103,58])+(List.length (C7 x.2.2.2)))≤9223372036854775807)))∧((iEq x.1 4)=false→(((iEq x.1 5)=true→((Gv x.2.2.2)∧(((List.length [(116:UInt8),111,58])+(List.length (C7 x.2.2.2)))≤9223372036854775807)))∧((iEq x.1 5)=false→(((iEq x.1 6)=true→((Jb x.2.2.1)∧((((List.length (BP x.2.2.1))+(List.length [(47:UInt8)]))≤9223372036854775807)∧((Jf x.2.1)∧(((List.length (sAdd (BP x.2.2.1) [(47:UInt8)]))+(List.length (Bv x.2.1)))≤9223372036854775807)))))∧((iEq x.1 6)=false→(((iEq x.1 7)=true→((Gv x.2.2.2)∧((((List.length (C7 x.2.2.2))+(List.length [(47:UInt8)]))≤9223372036854775807)∧((Jf x.2.1)∧(((List.length (sAdd (C7 x.2.2.2) [(47:UInt8)]))+(List.length (Bv x.2.1)))≤9223372036854775807)))))∧((iEq x.1 7)=false→(((iEq x.1 8)=true→((Jb x.2.2.1)∧(((List.length [(111:UInt8),110,99,101,58])+(List.length (BP x.2.2.1)))≤9223372036854775807)))∧((iEq x.1 8)=false→(((iEq x.1 9)=true→((Gv x.2.2.2)∧(((List.length [(109:UInt8),97,99,114,111,58])+(List.length (C7 x.2.2.2)))≤9223372036854775807)))∧((iEq x.1 9)=false→(((iEq x.1 10)=true→True)∧((iEq x.1 10)=false→(((iEq x.2.2.1 0)=true→(Jf x.2.1))∧((iEq x.2.2.1 0)=false→((Jb x.2.2.1)∧((((List.length (BP x.2.2.1))+(List.length [(45:UInt8)]))≤9223372036854775807)∧((Jf x.2.1)∧(((List.length (sAdd (BP x.2.2.1) [(45:UInt8)]))+(List.length (Bv x.2.1)))≤9223372036854775807))))))))))))))))))))))))))))):=(F3.o x).trans (by kernel_rfl)
def I9(x:List (Int×Int×Int))(x0:((List (List UInt8))×Int)):Bool:=(bAnd (iLt x0.2 (lLen x)) (E2 x))
def Lr(x:List (Int×Int×Int))(x0:((List (List UInt8))×Int)):((List (List UInt8))×Int):=((lApp x0.1 [(sAdd (sAdd (lSub [(116:UInt8),100,117] (iNat (lGet x (iNat x0.2) (0,0,0)).1) (iNat (iAdd .i64 (lGet x (iNat x0.2) (0,0,0)).1 1))) [(61:UInt8)]) (BD (Bd (lGet x (iNat x0.2) (0,0,0)))))]),(iAdd .i64 x0.2 1))
def Lp(x:List (Int×Int×Int))(x0:((List (List UInt8))×Int)):Prop:=((((iLt x0.2 (lLen x))=true→(NA x))∧((iLt x0.2 (lLen x))=false→True))∧(((bAnd (iLt x0.2 (lLen x)) (E2 x))=true→((((0:Int)≤x0.2)∧(x0.2<(((List.length x):Int))))∧(((iNat x0.2)<(List.length x))∧((((0:Int)≤x0.2)∧(x0.2<(((List.length x):Int))))∧(((iNat x0.2)<(List.length x))∧(((((0:Int)≤(lGet x (iNat x0.2) (0,0,0)).1)∧((0:Int)≤(iAdd .i64 (lGet x (iNat x0.2) (0,0,0)).1 1)))∧(((iNat (lGet x (iNat x0.2) (0,0,0)).1)≤(iNat (iAdd .i64 (lGet x (iNat x0.2) (0,0,0)).1 1)))∧((iNat (iAdd .i64 (lGet x (iNat x0.2) (0,0,0)).1 1))≤(List.length [(116:UInt8),100,117]))))∧((((List.length (lSub [(116:UInt8),100,117] (iNat (lGet x (iNat x0.2) (0,0,0)).1) (iNat (iAdd .i64 (lGet x (iNat x0.2) (0,0,0)).1 1))))+(List.length [(61:UInt8)]))≤9223372036854775807)∧((((0:Int)≤x0.2)∧(x0.2<(((List.length x):Int))))∧(((iNat x0.2)<(List.length x))∧((Nl (lGet x (iNat x0.2) (0,0,0)))∧((Ls (Bd (lGet x (iNat x0.2) (0,0,0))))∧((((List.length (sAdd (lSub [(116:UInt8),100,117] (iNat (lGet x (iNat x0.2) (0,0,0)).1) (iNat (iAdd .i64 (lGet x (iNat x0.2) (0,0,0)).1 1))) [(61:UInt8)]))+(List.length (BD (Bd (lGet x (iNat x0.2) (0,0,0))))))≤9223372036854775807)∧(A5 (((List.length x0.1)+(List.length [(sAdd (sAdd (lSub [(116:UInt8),100,117] (iNat (lGet x (iNat x0.2) (0,0,0)).1) (iNat (iAdd .i64 (lGet x (iNat x0.2) (0,0,0)).1 1))) [(61:UInt8)]) (BD (Bd (lGet x (iNat x0.2) (0,0,0)))))]))*1))))))))))))))∧((bAnd (iLt x0.2 (lLen x)) (E2 x))=false→True)))
theorem gf (x):P0 x=(Nx ((An (I9 x) (Lr x) ([],0)).1,[(32:UInt8)])):=(P7.v x).trans (by kernel_rfl)
theorem fV (x):Tc x=((LoopOk (I9 x) (Lr x) (Lp x) ([],0))∧(Nk ((An (I9 x) (Lr x) ([],0)).1,[(32:UInt8)]))):=(P7.o x).trans (by kernel_rfl)
theorem Xw (x):Fm x=(LI x):=(Eu.v x).trans (by kernel_rfl)
theorem Xu (x):Ib x=(LD x):=(Eu.o x).trans (by kernel_rfl)
theorem Yh (x):GG x=(bSel (iEq x 3) [(109:UInt8),111,58] (bSel (iEq x 4) [(116:UInt8),103,58] (bSel (iEq x 5) [(116:UInt8),111,58] (bSel (iEq x 9) [(109:UInt8),97,99,114,111,58] [])))):=(GD.v x).trans (by kernel_rfl)
theorem Yj (x):ND x=True:=(GD.o x).trans (by kernel_rfl)
theorem fM (x):J6 x=(bSel (bNot (Ev x)) [] (bSel (iEq x.1 0) [(110:UInt8),111,110,101] (bSel (iEq x.1 1) [(112:UInt8),97,115,115] (bSel (iEq x.1 10) [(99:UInt8),97,112,115] (bSel (iEq x.1 2) (bSel (iNe x.2.2.1 0) (sAdd (sAdd (Fl x.2.2.1) [(45:UInt8)]) (Hh x.2.1)) (Hh x.2.1)) (bSel (iEq x.1 6) (sAdd (sAdd (Fl x.2.2.1) [(47:UInt8)]) (Hh x.2.1)) (bSel (iEq x.1 7) (sAdd (sAdd (Fm x.2.2.2) [(47:UInt8)]) (Hh x.2.1)) (bSel (iEq x.1 8) (sAdd [(111:UInt8),110,99,101,58] (Fl x.2.2.1)) (sAdd (GG x.1) (Fm x.2.2.2)))))))))):=(Fk.v x).trans (by kernel_rfl)
theorem fP (x):M6 x=((Ka x)∧(((bNot (Ev x))=true→True)∧((bNot (Ev x))=false→(((iEq x.1 0)=true→True)∧((iEq x.1 0)=false→(((iEq x.1 1)=true→True)∧((iEq x.1 1)=false→(((iEq x.1 10)=true→True)∧((iEq x.1 10)=false→(((iEq x.1 2)=true→(((iNe x.2.2.1 0)=true→((Ja x.2.2.1)∧((((List.length (Fl x.2.2.1))+(List.length [(45:UInt8)]))≤9223372036854775807)∧((Kc x.2.1)∧(((List.length (sAdd (Fl x.2.2.1) [(45:UInt8)]))+(List.length (Hh x.2.1)))≤9223372036854775807)))))∧((iNe x.2.2.1 0)=false→(Kc x.2.1))))∧((iEq x.1 2)=false→(((iEq x.1 6)=true→((Ja x.2.2.1)∧((((List.length (Fl x.2.2.1))+(List.length [(47:UInt8)]))≤9223372036854775807)∧((Kc x.2.1)∧(((List.length (sAdd (Fl x.2.2.1) [(47:UInt8)]))+(List.length (Hh x.2.1)))≤9223372036854775807)))))∧((iEq x.1 6)=false→(((iEq x.1 7)=true→((Ib x.2.2.2)∧((((List.length (Fm x.2.2.2))+(List.length [(47:UInt8)]))≤9223372036854775807)∧((Kc x.2.1)∧(((List.length (sAdd (Fm x.2.2.2) [(47:UInt8)]))+(List.length (Hh x.2.1)))≤9223372036854775807)))))∧((iEq x.1 7)=false→(((iEq x.1 8)=true→((Ja x.2.2.1)∧(((List.length [(111:UInt8),110,99,101,58])+(List.length (Fl x.2.2.1)))≤9223372036854775807)))∧((iEq x.1 8)=false→((ND x.1)∧((Ib x.2.2.2)∧(((List.length (GG x.1))+(List.length (Fm x.2.2.2)))≤9223372036854775807)))))))))))))))))))):=(Fk.o x).trans (by kernel_rfl)
def Lq(x:List (Int×Int×Int))(x0:((List (List UInt8))×Int)):Bool:=(iLt x0.2 (lLen x))
def M5(x:List (Int×Int×Int))(x0:((List (List UInt8))×Int)):((List (List UInt8))×Int):=((lApp x0.1 [(sAdd (sAdd (lSub [(116:UInt8),100,117] (iNat (lGet x (iNat x0.2) (0,0,0)).1) (iNat (iAdd .i64 (lGet x (iNat x0.2) (0,0,0)).1 1))) [(61:UInt8)]) (J6 (2,(lGet x (iNat x0.2) (0,0,0)).2.1,(lGet x (iNat x0.2) (0,0,0)).2.2,0)))]),(iAdd .i64 x0.2 1))
def PM(x:List (Int×Int×Int))(x0:((List (List UInt8))×Int)):Prop:=(((iLt x0.2 (lLen x))=true→((((0:Int)≤x0.2)∧(x0.2<(((List.length x):Int))))∧(((iNat x0.2)<(List.length x))∧(((((0:Int)≤(lGet x (iNat x0.2) (0,0,0)).1)∧((0:Int)≤(iAdd .i64 (lGet x (iNat x0.2) (0,0,0)).1 1)))∧(((iNat (lGet x (iNat x0.2) (0,0,0)).1)≤(iNat (iAdd .i64 (lGet x (iNat x0.2) (0,0,0)).1 1)))∧((iNat (iAdd .i64 (lGet x (iNat x0.2) (0,0,0)).1 1))≤(List.length [(116:UInt8),100,117]))))∧((((List.length (lSub [(116:UInt8),100,117] (iNat (lGet x (iNat x0.2) (0,0,0)).1) (iNat (iAdd .i64 (lGet x (iNat x0.2) (0,0,0)).1 1))))+(List.length [(61:UInt8)]))≤9223372036854775807)∧((M6 (2,(lGet x (iNat x0.2) (0,0,0)).2.1,(lGet x (iNat x0.2) (0,0,0)).2.2,0))∧((((List.length (sAdd (lSub [(116:UInt8),100,117] (iNat (lGet x (iNat x0.2) (0,0,0)).1) (iNat (iAdd .i64 (lGet x (iNat x0.2) (0,0,0)).1 1))) [(61:UInt8)]))+(List.length (J6 (2,(lGet x (iNat x0.2) (0,0,0)).2.1,(lGet x (iNat x0.2) (0,0,0)).2.2,0))))≤9223372036854775807)∧(A5 (((List.length x0.1)+(List.length [(sAdd (sAdd (lSub [(116:UInt8),100,117] (iNat (lGet x (iNat x0.2) (0,0,0)).1) (iNat (iAdd .i64 (lGet x (iNat x0.2) (0,0,0)).1 1))) [(61:UInt8)]) (J6 (2,(lGet x (iNat x0.2) (0,0,0)).2.1,(lGet x (iNat x0.2) (0,0,0)).2.2,0)))]))*1)))))))))∧((iLt x0.2 (lLen x))=false→True))
theorem ga (x):P2 x=(bSel (bNot (Il x)) [] (Qn ((An (Lq x) (M5 x) ([],0)).1,[(32:UInt8)]))):=(Gu.v x).trans (by kernel_rfl)
theorem gh (x):PU x=((Nu x)∧(((bNot (Il x))=true→True)∧((bNot (Il x))=false→((LoopOk (Lq x) (M5 x) (PM x) ([],0))∧(Qe ((An (Lq x) (M5 x) ([],0)).1,[(32:UInt8)])))))):=(Gu.o x).trans (by kernel_rfl)
attribute [irreducible] C7 Gv BD Ls P0 Tc Fm Ib GG ND J6 M6 P2 PU
end
section
set_option maxRecDepth 8000
def ja:DCode:=(.seq [0] (.region [oi 0 2 0,oa 1 3 (.mv (.c (.bool false)))]) (.seq [4,0] (.region [om 0 7 0,om 1 4 7]) (.seq [4,0] (.seq [15,4,0] (.region [om 0 8 0,oa 1 9 (.lenT (.t 8)),oa 2 10 (.bin .gtr (.t 9) (.c (.int .i64 0))),om 3 11 10,og 4 12 (.mv (.t 0)) 11 true,og 5 13 (.index (.t 12) (.c (.int .i64 0))) 11 true,og 6 14 (.bin .eql (.t 13) (.c (.int .u8 45))) 11 true,oa 7 15 (.pick (.t 11) (.t 14) (.c (.bool false)))]) (.cond (.t 15) (.region [om 0 16 0,oa 1 17 (.substr (.t 16) (some (.c (.int .i64 1))) none),om 2 4 17]) .skip)) (.seq [4,0] (.seq [25,4,0] (.region [om 0 18 4,oa 1 19 (.lenT (.t 18)),oa 2 20 (.bin .lss (.t 19) (.c (.int .i64 1))),om 3 21 20,og 4 22 (.mv (.t 4)) 21 false,og 5 23 (.lenT (.t 22)) 21 false,og 6 24 (.bin .gtr (.t 23) (.c (.int .i64 9))) 21 false,oa 7 25 (.pick (.t 21) (.c (.bool true)) (.t 24))]) (.cond (.t 25) (.seq [3,2] (.region [oi 0 2 0,oa 1 3 (.mv (.c (.bool false)))]) .ret) .skip)) (.seq [5,4,0] (.region [oi 0 5 0]) (.seq [5,4,0] (.seq [6,5,4,0] (.region [oi 0 6 0]) (.block 0 (.loop [0,4,5,6] 1 (.seq [6,5,4,0] (.seq [29,6,5,4,0] (.region [om 0 26 6,om 1 27 4,oa 2 28 (.lenT (.t 27)),oa 3 29 (.bin .lss (.t 26) (.t 28))]) (.cond (.t 29) .skip (.exit 0))) (.seq [6,5,4,0] (.block 1 (.seq [6,5,4,0] (.seq [41,6,5,4,0] (.region [om 0 32 4,om 1 33 6,oa 2 34 (.index (.t 32) (.t 33)),oa 3 35 (.bin .lss (.t 34) (.c (.int .u8 48))),om 4 36 35,og 5 37 (.mv (.t 4)) 36 false,og 6 38 (.mv (.t 6)) 36 false,og 7 39 (.index (.t 37) (.t 38)) 36 false,og 8 40 (.bin .gtr (.t 39) (.c (.int .u8 57))) 36 false,oa 9 41 (.pick (.t 36) (.c (.bool true)) (.t 40))]) (.cond (.t 41) (.seq [3,2] (.region [oi 0 2 0,oa 1 3 (.mv (.c (.bool false)))]) .ret) .skip)) (.region [om 0 42 5,oa 1 43 (.bin .mul (.c (.int .i64 10)) (.t 42)),om 2 44 4,om 3 45 6,oa 4 46 (.index (.t 44) (.t 45)),oa 5 47 (.conv .i64 (.t 46)),oa 6 48 (.bin .add (.t 43) (.t 47)),oa 7 49 (.bin .sub (.t 48) (.c (.int .i64 48))),om 8 5 49]))) (.region [om 0 30 6,oa 1 31 (.bin .add (.t 30) (.c (.int .i64 1))),om 2 6 31])))))) (.seq [5,0] (.seq [54,5,0] (.region [om 0 50 4,oa 1 51 (.lenT (.t 50)),om 2 52 0,oa 3 53 (.lenT (.t 52)),oa 4 54 (.bin .lss (.t 51) (.t 53))]) (.cond (.t 54) (.region [om 0 55 5,oa 1 56 (.un .neg (.t 55)),om 2 5 56]) .skip)) (.seq [5] (.seq [60,5] (.region [om 0 57 5,oF 1 58 Dh [(.t 57)],om 2 59 0,oa 3 60 (.bin .neq (.t 58) (.t 59))]) (.cond (.t 60) (.seq [3,2] (.region [oi 0 2 0,oa 1 3 (.mv (.c (.bool false)))]) .ret) .skip)) (.seq [3,2] (.region [om 0 61 5,om 1 2 61,oa 2 3 (.mv (.c (.bool true)))]) .ret)))))))))
def GA:Fn:=⟨⟨1,62,0,true,[.tmp 2,.tmp 3],ja⟩,[.one .frz (.str)],.tup [.one .own (.int .i64),.one .own (.bool)]⟩
theorem XO:GA.A:=A7 ⟨Lw,trivial⟩
def BH:List UInt8→Int×Bool:=GA.V
def Kf:List UInt8→Prop:=GA.O
theorem XL:GA.B:=A8 ⟨Lx,trivial⟩ (by kernel_rfl) (fun x=>by kernel_rfl)
def kj:DCode:=(.seq [6,2,1,0] (.region [oa 0 6 (.allocB 0 [(.int .i64 0),(.int .i64 0),(.int .i64 0),(.int .i64 0)])]) (.seq [7,6,2,1,0] (.region [om 0 10 2,oF 1 11 GA [(.t 10)],om 2 9 11,oa 3 12 (.extract (.t 9) 0),oa 4 13 (.extract (.t 9) 1),om 5 7 12,om 6 8 13]) (.seq [6,2,0] (.seq [14,7,6,2,0] (.region [om 0 14 1]) (.block 0 (.seq [15,14,7,6,2,0] (.region [oa 0 16 (.bin .eql (.t 14) (.c (.str [109,111]))),om 1 15 16]) (.cond (.t 15) (.seq [6] (.region [om 0 17 7,oa 1 18 (.build [(.int .i64 0),(.int .i64 0),(.int .i64 0),(.int .i64 0)] [(0,1,(.c (.int .i64 3))),(3,1,(.t 17))]),os 2 (.storeB 0 4 (.t 6) (.t 18))]) .ret) (.seq [19,14,7,6,2,0] (.region [oa 0 20 (.bin .eql (.t 14) (.c (.str [116,103]))),om 1 19 20]) (.cond (.t 19) (.seq [6] (.region [om 0 21 7,oa 1 22 (.build [(.int .i64 0),(.int .i64 0),(.int .i64 0),(.int .i64 0)] [(0,1,(.c (.int .i64 4))),(3,1,(.t 21))]),os 2 (.storeB 0 4 (.t 6) (.t 22))]) .ret) (.seq [23,14,7,6,2,0] (.region [oa 0 24 (.bin .eql (.t 14) (.c (.str [116,111]))),om 1 23 24]) (.cond (.t 23) (.seq [6] (.region [om 0 25 7,oa 1 26 (.build [(.int .i64 0),(.int .i64 0),(.int .i64 0),(.int .i64 0)] [(0,1,(.c (.int .i64 5))),(3,1,(.t 25))]),os 2 (.storeB 0 4 (.t 6) (.t 26))]) .ret) (.seq [27,7,6,2,0] (.region [oa 0 28 (.bin .eql (.t 14) (.c (.str [109,97,99,114,111]))),om 1 27 28]) (.cond (.t 27) (.seq [6] (.region [om 0 29 7,oa 1 30 (.build [(.int .i64 0),(.int .i64 0),(.int .i64 0),(.int .i64 0)] [(0,1,(.c (.int .i64 9))),(3,1,(.t 29))]),os 2 (.storeB 0 4 (.t 6) (.t 30))]) .ret) .skip)))))))))) (.seq [6] (.region [om 0 31 0,om 1 32 2,oF 2 33 Fp [(.t 32)],oa 3 34 (.build [(.int .i64 0),(.int .i64 0),(.int .i64 0),(.int .i64 0)] [(0,1,(.t 31)),(2,1,(.t 33))]),os 4 (.storeB 0 4 (.t 6) (.t 34))]) .ret))))
def Iq:Fn:=⟨⟨3,35,1,true,[.cell 6 (some 4)],kj⟩,[.one .frz (.int .i64),.one .frz (.str),.one .frz (.str)],.one (.agg [(.own,.int .i64),(.own,.int .i64),(.own,.int .i64),(.own,.int .i64)])⟩
theorem kr:Iq.A:=A7 ⟨XO,Th,trivial⟩
def Ea:Int×List UInt8×List UInt8→Int×Int×Int×Int:=Iq.V
def Qy:Int×List UInt8×List UInt8→Prop:=Iq.O
theorem jW:Iq.B:=A8 ⟨XL,Tg,trivial⟩ (by kernel_rfl) (fun x=>by kernel_rfl)
def gu:DCode:=(.seq [2,0] (.region [oa 0 2 (.allocB 0 [(.int .i64 0),(.int .i64 0),(.int .i64 0),(.int .i64 0)]),oa 1 3 (.mv (.c (.bool false)))]) (.seq [4,2,0] (.region [om 0 10 0,oF 1 11 Ey [(.t 10)],oa 2 12 (.build [(.int .i64 0),(.int .i64 0),(.int .i64 0),(.int .i64 0)] [(0,1,(.c (.int .i64 2))),(1,1,(.t 11))]),oa 3 4 (.allocB 1 [(.int .i64 0),(.int .i64 0),(.int .i64 0),(.int .i64 0)]),os 4 (.storeB 1 4 (.t 4) (.t 12))]) (.seq [5,4,2,0] (.region [om 0 13 0,oF 1 14 DJ [(.t 13),(.c (.int .u8 58))],on 2 5 14]) (.seq [6,5,4,2,0] (.region [om 0 15 0,oF 1 16 DJ [(.t 15),(.c (.int .u8 47))],on 2 6 16]) (.seq [7,6,5,4,2,0] (.region [om 0 17 0,oF 1 18 DJ [(.t 17),(.c (.int .u8 45))],on 2 7 18]) (.seq [4,2,0] (.block 0 (.seq [19,7,6,5,4,2,0] (.region [om 0 20 0,oa 1 21 (.bin .eql (.t 20) (.c (.str [110,111,110,101]))),om 2 19 21]) (.cond (.t 19) (.region [oa 0 22 (.build [(.int .i64 0),(.int .i64 0),(.int .i64 0),(.int .i64 0)] [(0,1,(.c (.int .i64 0)))]),os 1 (.storeB 1 4 (.t 4) (.t 22))]) (.seq [23,7,6,5,4,2,0] (.region [om 0 24 0,oa 1 25 (.bin .eql (.t 24) (.c (.str [112,97,115,115]))),om 2 23 25]) (.cond (.t 23) (.region [oa 0 26 (.build [(.int .i64 0),(.int .i64 0),(.int .i64 0),(.int .i64 0)] [(0,1,(.c (.int .i64 1)))]),os 1 (.storeB 1 4 (.t 4) (.t 26))]) (.seq [27,7,6,5,4,2,0] (.region [om 0 28 0,oa 1 29 (.bin .eql (.t 28) (.c (.str [99,97,112,115]))),om 2 27 29]) (.cond (.t 27) (.region [oa 0 30 (.build [(.int .i64 0),(.int .i64 0),(.int .i64 0),(.int .i64 0)] [(0,1,(.c (.int .i64 10)))]),os 1 (.storeB 1 4 (.t 4) (.t 30))]) (.seq [31,7,6,5,4,2,0] (.region [on 0 32 5,oa 1 33 (.len (.t 32)),oa 2 34 (.bin .eql (.t 33) (.c (.int .i64 2))),om 3 31 34]) (.cond (.t 31) (.region [on 0 35 5,xA 1 36 (.indexA 1 (.t 35) (.c (.int .i64 0))) (rg 1),xA 2 37 (.loadH none (.t 36)) (rg 2),on 3 38 5,xA 4 39 (.indexA 1 (.t 38) (.c (.int .i64 1))) [3],xA 5 40 (.loadH none (.t 39)) [3,4],xF 6 41 Iq [(.c (.int .i64 8)),(.t 37),(.t 40)] (rg 6),xS 7 (.storeB 1 4 (.t 4) (.t 41)) (rg 7)]) (.seq [42,7,6,4,2,0] (.region [on 0 43 6,oa 1 44 (.len (.t 43)),oa 2 45 (.bin .eql (.t 44) (.c (.int .i64 2))),om 3 42 45]) (.cond (.t 42) (.seq [9,8,6,4,2,0] (.region [on 0 47 6,oa 1 48 (.indexA 1 (.t 47) (.c (.int .i64 0))),oa 2 49 (.loadH none (.t 48)),oF 3 50 GA [(.t 49)],om 4 46 50,oa 5 51 (.extract (.t 46) 0),oa 6 52 (.extract (.t 46) 1),om 7 8 51,om 8 9 52]) (.seq [9,8,6,4,2,0] (.region [on 0 53 6,xA 1 54 (.indexA 1 (.t 53) (.c (.int .i64 1))) (rg 1),xA 2 55 (.loadH none (.t 54)) (rg 2),on 4 57 6,xA 5 58 (.indexA 1 (.t 57) (.c (.int .i64 0))) [4],xA 6 59 (.loadH none (.t 58)) [4,5],xF 3 56 Ey [(.t 55)] (rg 3),xF 7 60 Fp [(.t 59)] (rg 7),xA 8 61 (.build [(.int .i64 0),(.int .i64 0),(.int .i64 0),(.int .i64 0)] [(0,1,(.c (.int .i64 6))),(1,1,(.t 56)),(2,1,(.t 60))]) (rg 8),xS 9 (.storeB 1 4 (.t 4) (.t 61)) (rg 9)]) (.seq [62,8,6,4,2,0] (.region [om 0 62 9]) (.cond (.t 62) (.region [on 0 63 6,oa 1 64 (.indexA 1 (.t 63) (.c (.int .i64 1))),oa 2 65 (.loadH none (.t 64)),oF 3 66 Ey [(.t 65)],om 4 67 8,oa 5 68 (.build [(.int .i64 0),(.int .i64 0),(.int .i64 0),(.int .i64 0)] [(0,1,(.c (.int .i64 7))),(1,1,(.t 66)),(3,1,(.t 67))]),os 6 (.storeB 1 4 (.t 4) (.t 68))]) .skip)))) (.seq [69,7,4,2,0] (.region [on 0 70 7,oa 1 71 (.len (.t 70)),oa 2 72 (.bin .eql (.t 71) (.c (.int .i64 2))),om 3 69 72]) (.cond (.t 69) (.region [on 0 73 7,xA 1 74 (.indexA 1 (.t 73) (.c (.int .i64 1))) (rg 1),xA 2 75 (.loadH none (.t 74)) (rg 2),on 4 77 7,xA 5 78 (.indexA 1 (.t 77) (.c (.int .i64 0))) [4],xA 6 79 (.loadH none (.t 78)) [4,5],xF 3 76 Ey [(.t 75)] (rg 3),xF 7 80 Fp [(.t 79)] (rg 7),xA 8 81 (.build [(.int .i64 0),(.int .i64 0),(.int .i64 0),(.int .i64 0)] [(0,1,(.c (.int .i64 2))),(1,1,(.t 76)),(2,1,(.t 80))]) (rg 8),xS 9 (.storeB 1 4 (.t 4) (.t 81)) (rg 9)]) .skip))))))))))))) (.seq [4,2] (.seq [89,4,2] (.region [om 0 82 0,oa 1 83 (.bin .eql (.t 82) (.c (.str []))),om 2 84 83,og 3 85 (.loadB 1 (some 4) (.t 4)) 84 false,⟨4,some 86,.call false F3.S F3.P F3.D [(.t 85)],(some (84,false)),[]⟩,og 5 87 (.mv (.t 0)) 84 false,og 6 88 (.bin .neq (.t 86) (.t 87)) 84 false,oa 7 89 (.pick (.t 84) (.c (.bool true)) (.t 88))]) (.cond (.t 89) (.seq [3,2] (.region [oa 0 90 (.build [(.int .i64 0),(.int .i64 0),(.int .i64 0),(.int .i64 0)] []),os 1 (.storeB 0 4 (.t 2) (.t 90)),oa 2 3 (.mv (.c (.bool false)))]) .ret) .skip)) (.seq [3,2] (.region [ob 0 91 (.loadB 1 (some 4) (.t 4)),os 1 (.storeB 0 4 (.t 2) (.t 91)),oa 2 3 (.mv (.c (.bool true)))]) .ret))))))))
def H9:Fn:=⟨⟨1,92,2,true,[.cell 2 (some 4),.tmp 3],gu⟩,[.one .frz (.str)],.tup [.agg [(.own,.int .i64),(.own,.int .i64),(.own,.int .i64),(.own,.int .i64)],.one .own (.bool)]⟩
theorem fQ:H9.A:=A7 ⟨Qt,Ng,Ng,Ng,kr,XO,Qt,Th,Qt,Qt,Th,fI,trivial⟩
def CH:List UInt8→(Int×Int×Int×Int)×Bool:=H9.V
def Nc:List UInt8→Prop:=H9.O
theorem gC:H9.B:=A8 ⟨Qs,Ni,Ni,Ni,jW,XL,Qs,Tg,Qs,Qs,Tg,fN,trivial⟩ (by kernel_rfl) (fun x=>by kernel_rfl)
end
section
set_option maxRecDepth 100000
def Er(x:List UInt8)(x0:(Int×Int)):Bool:=(bAnd (iLt x0.2 (lLen (bSel (bAnd (iGt (lLen x) 0) (iEq (sGet x 0) 45)) (lSub x (iNat 1) (lN x)) x))) (bNot (bOr (iLt (sGet (bSel (bAnd (iGt (lLen x) 0) (iEq (sGet x 0) 45)) (lSub x (iNat 1) (lN x)) x) x0.2) 48) (iGt (sGet (bSel (bAnd (iGt (lLen x) 0) (iEq (sGet x 0) 45)) (lSub x (iNat 1) (lN x)) x) x0.2) 57))))
def EZ(x:List UInt8)(x0:(Int×Int)):(Int×Int):=((iSub .i64 (iAdd .i64 (iMul .i64 10 x0.1) (iConv .i64 (sGet (bSel (bAnd (iGt (lLen x) 0) (iEq (sGet x 0) 45)) (lSub x (iNat 1) (lN x)) x) x0.2))) 48),(iAdd .i64 x0.2 1))
def P4(x:List UInt8)(x0:(Int×Int)):Prop:=(((iLt x0.2 (lLen (bSel (bAnd (iGt (lLen x) 0) (iEq (sGet x 0) 45)) (lSub x (iNat 1) (lN x)) x)))=true→(((((0:Int)≤x0.2)∧(x0.2<(((List.length (bSel (bAnd (iGt (lLen x) 0) (iEq (sGet x 0) 45)) (lSub x (iNat 1) (lN x)) x)):Int))))∧(((iLt (sGet (bSel (bAnd (iGt (lLen x) 0) (iEq (sGet x 0) 45)) (lSub x (iNat 1) (lN x)) x) x0.2) 48)=true→True)∧((iLt (sGet (bSel (bAnd (iGt (lLen x) 0) (iEq (sGet x 0) 45)) (lSub x (iNat 1) (lN x)) x) x0.2) 48)=false→(((0:Int)≤x0.2)∧(x0.2<(((List.length (bSel (bAnd (iGt (lLen x) 0) (iEq (sGet x 0) 45)) (lSub x (iNat 1) (lN x)) x)):Int)))))))∧(((bOr (iLt (sGet (bSel (bAnd (iGt (lLen x) 0) (iEq (sGet x 0) 45)) (lSub x (iNat 1) (lN x)) x) x0.2) 48) (iGt (sGet (bSel (bAnd (iGt (lLen x) 0) (iEq (sGet x 0) 45)) (lSub x (iNat 1) (lN x)) x) x0.2) 57))=true→True)∧((bOr (iLt (sGet (bSel (bAnd (iGt (lLen x) 0) (iEq (sGet x 0) 45)) (lSub x (iNat 1) (lN x)) x) x0.2) 48) (iGt (sGet (bSel (bAnd (iGt (lLen x) 0) (iEq (sGet x 0) 45)) (lSub x (iNat 1) (lN x)) x) x0.2) 57))=false→(((0:Int)≤x0.2)∧(x0.2<(((List.length (bSel (bAnd (iGt (lLen x) 0) (iEq (sGet x 0) 45)) (lSub x (iNat 1) (lN x)) x)):Int))))))))∧((iLt x0.2 (lLen (bSel (bAnd (iGt (lLen x) 0) (iEq (sGet x 0) 45)) (lSub x (iNat 1) (lN x)) x)))=false→True))
theorem iL (x):BH x=(bSel (bOr (iLt (lLen (bSel (bAnd (iGt (lLen x) 0) (iEq (sGet x 0) 45)) (lSub x (iNat 1) (lN x)) x)) 1) (iGt (lLen (bSel (bAnd (iGt (lLen x) 0) (iEq (sGet x 0) 45)) (lSub x (iNat 1) (lN x)) x)) 9)) (0,false) (bSel (iLt (An (Er x) (EZ x) (0,0)).2 (lLen (bSel (bAnd (iGt (lLen x) 0) (iEq (sGet x 0) 45)) (lSub x (iNat 1) (lN x)) x))) (0,false) (bSel (sNe (C7 (bSel (iLt (lLen (bSel (bAnd (iGt (lLen x) 0) (iEq (sGet x 0) 45)) (lSub x (iNat 1) (lN x)) x)) (lLen x)) (iNeg .i64 (An (Er x) (EZ x) (0,0)).1) (An (Er x) (EZ x) (0,0)).1)) x) (0,false) ((bSel (iLt (lLen (bSel (bAnd (iGt (lLen x) 0) (iEq (sGet x 0) 45)) (lSub x (iNat 1) (lN x)) x)) (lLen x)) (iNeg .i64 (An (Er x) (EZ x) (0,0)).1) (An (Er x) (EZ x) (0,0)).1),true)))):=(GA.v x).trans (by kernel_rfl)
theorem iT (x):Kf x=(((((iGt (lLen x) 0)=true→(((0:Int)≤0)∧((0:Int)<(((List.length x):Int)))))∧((iGt (lLen x) 0)=false→True))∧(((bAnd (iGt (lLen x) 0) (iEq (sGet x 0) 45))=true→(((0:Int)≤1)∧(((iNat 1)≤(lN x))∧((lN x)≤(List.length x)))))∧((bAnd (iGt (lLen x) 0) (iEq (sGet x 0) 45))=false→True)))∧(((bOr (iLt (lLen (bSel (bAnd (iGt (lLen x) 0) (iEq (sGet x 0) 45)) (lSub x (iNat 1) (lN x)) x)) 1) (iGt (lLen (bSel (bAnd (iGt (lLen x) 0) (iEq (sGet x 0) 45)) (lSub x (iNat 1) (lN x)) x)) 9))=true→True)∧((bOr (iLt (lLen (bSel (bAnd (iGt (lLen x) 0) (iEq (sGet x 0) 45)) (lSub x (iNat 1) (lN x)) x)) 1) (iGt (lLen (bSel (bAnd (iGt (lLen x) 0) (iEq (sGet x 0) 45)) (lSub x (iNat 1) (lN x)) x)) 9))=false→((LoopOk (Er x) (EZ x) (P4 x) (0,0))∧(((iLt (An (Er x) (EZ x) (0,0)).2 (lLen (bSel (bAnd (iGt (lLen x) 0) (iEq (sGet x 0) 45)) (lSub x (iNat 1) (lN x)) x)))=true→True)∧((iLt (An (Er x) (EZ x) (0,0)).2 (lLen (bSel (bAnd (iGt (lLen x) 0) (iEq (sGet x 0) 45)) (lSub x (iNat 1) (lN x)) x)))=false→(Gv (bSel (iLt (lLen (bSel (bAnd (iGt (lLen x) 0) (iEq (sGet x 0) 45)) (lSub x (iNat 1) (lN x)) x)) (lLen x)) (iNeg .i64 (An (Er x) (EZ x) (0,0)).1) (An (Er x) (EZ x) (0,0)).1)))))))):=(GA.o x).trans (by kernel_rfl)
theorem NK (x):Ea x=(bSel (sEq x.2.1 [(109:UInt8),111]) (3,0,0,(BH x.2.2).1) (bSel (sEq x.2.1 [(116:UInt8),103]) (4,0,0,(BH x.2.2).1) (bSel (sEq x.2.1 [(116:UInt8),111]) (5,0,0,(BH x.2.2).1) (bSel (sEq x.2.1 [(109:UInt8),97,99,114,111]) (9,0,0,(BH x.2.2).1) (x.1,0,(DK x.2.2),0))))):=(Iq.v x).trans (by kernel_rfl)
theorem km (x):Qy x=((Kf x.2.2)∧(((sEq x.2.1 [(109:UInt8),111])=true→True)∧((sEq x.2.1 [(109:UInt8),111])=false→(((sEq x.2.1 [(116:UInt8),103])=true→True)∧((sEq x.2.1 [(116:UInt8),103])=false→(((sEq x.2.1 [(116:UInt8),111])=true→True)∧((sEq x.2.1 [(116:UInt8),111])=false→(((sEq x.2.1 [(109:UInt8),97,99,114,111])=true→True)∧((sEq x.2.1 [(109:UInt8),97,99,114,111])=false→(J7 x.2.2)))))))))):=(Iq.o x).trans (by kernel_rfl)
theorem gv (x):CH x=(bSel (bOr (sEq x []) (sNe (BD ((bSel (sEq x [(110:UInt8),111,110,101]) 0 (bSel (sEq x [(112:UInt8),97,115,115]) 1 (bSel (sEq x [(99:UInt8),97,112,115]) 10 (bSel (iEq (lLen (Al (x,58))) 2) (Ea (8,(lGet (Al (x,58)) (iNat 0) []),(lGet (Al (x,58)) (iNat 1) []))).1 (bSel (iEq (lLen (Al (x,47))) 2) (bSel (BH (lGet (Al (x,47)) (iNat 0) [])).2 7 6) (bSel (iEq (lLen (Al (x,45))) 2) 2 2)))))),(bSel (sEq x [(110:UInt8),111,110,101]) 0 (bSel (sEq x [(112:UInt8),97,115,115]) 0 (bSel (sEq x [(99:UInt8),97,112,115]) 0 (bSel (iEq (lLen (Al (x,58))) 2) (Ea (8,(lGet (Al (x,58)) (iNat 0) []),(lGet (Al (x,58)) (iNat 1) []))).2.1 (bSel (iEq (lLen (Al (x,47))) 2) (bSel (BH (lGet (Al (x,47)) (iNat 0) [])).2 (Cu (lGet (Al (x,47)) (iNat 1) [])) (Cu (lGet (Al (x,47)) (iNat 1) []))) (bSel (iEq (lLen (Al (x,45))) 2) (Cu (lGet (Al (x,45)) (iNat 1) [])) (Cu x))))))),(bSel (sEq x [(110:UInt8),111,110,101]) 0 (bSel (sEq x [(112:UInt8),97,115,115]) 0 (bSel (sEq x [(99:UInt8),97,112,115]) 0 (bSel (iEq (lLen (Al (x,58))) 2) (Ea (8,(lGet (Al (x,58)) (iNat 0) []),(lGet (Al (x,58)) (iNat 1) []))).2.2.1 (bSel (iEq (lLen (Al (x,47))) 2) (bSel (BH (lGet (Al (x,47)) (iNat 0) [])).2 0 (DK (lGet (Al (x,47)) (iNat 0) []))) (bSel (iEq (lLen (Al (x,45))) 2) (DK (lGet (Al (x,45)) (iNat 0) [])) 0)))))),(bSel (sEq x [(110:UInt8),111,110,101]) 0 (bSel (sEq x [(112:UInt8),97,115,115]) 0 (bSel (sEq x [(99:UInt8),97,112,115]) 0 (bSel (iEq (lLen (Al (x,58))) 2) (Ea (8,(lGet (Al (x,58)) (iNat 0) []),(lGet (Al (x,58)) (iNat 1) []))).2.2.2 (bSel (iEq (lLen (Al (x,47))) 2) (bSel (BH (lGet (Al (x,47)) (iNat 0) [])).2 (BH (lGet (Al (x,47)) (iNat 0) [])).1 0) (bSel (iEq (lLen (Al (x,45))) 2) 0 0)))))))) x)) ((0,0,0,0),false) (((bSel (sEq x [(110:UInt8),111,110,101]) 0 (bSel (sEq x [(112:UInt8),97,115,115]) 1 (bSel (sEq x [(99:UInt8),97,112,115]) 10 (bSel (iEq (lLen (Al (x,58))) 2) (Ea (8,(lGet (Al (x,58)) (iNat 0) []),(lGet (Al (x,58)) (iNat 1) []))).1 (bSel (iEq (lLen (Al (x,47))) 2) (bSel (BH (lGet (Al (x,47)) (iNat 0) [])).2 7 6) (bSel (iEq (lLen (Al (x,45))) 2) 2 2)))))),(bSel (sEq x [(110:UInt8),111,110,101]) 0 (bSel (sEq x [(112:UInt8),97,115,115]) 0 (bSel (sEq x [(99:UInt8),97,112,115]) 0 (bSel (iEq (lLen (Al (x,58))) 2) (Ea (8,(lGet (Al (x,58)) (iNat 0) []),(lGet (Al (x,58)) (iNat 1) []))).2.1 (bSel (iEq (lLen (Al (x,47))) 2) (bSel (BH (lGet (Al (x,47)) (iNat 0) [])).2 (Cu (lGet (Al (x,47)) (iNat 1) [])) (Cu (lGet (Al (x,47)) (iNat 1) []))) (bSel (iEq (lLen (Al (x,45))) 2) (Cu (lGet (Al (x,45)) (iNat 1) [])) (Cu x))))))),(bSel (sEq x [(110:UInt8),111,110,101]) 0 (bSel (sEq x [(112:UInt8),97,115,115]) 0 (bSel (sEq x [(99:UInt8),97,112,115]) 0 (bSel (iEq (lLen (Al (x,58))) 2) (Ea (8,(lGet (Al (x,58)) (iNat 0) []),(lGet (Al (x,58)) (iNat 1) []))).2.2.1 (bSel (iEq (lLen (Al (x,47))) 2) (bSel (BH (lGet (Al (x,47)) (iNat 0) [])).2 0 (DK (lGet (Al (x,47)) (iNat 0) []))) (bSel (iEq (lLen (Al (x,45))) 2) (DK (lGet (Al (x,45)) (iNat 0) [])) 0)))))),(bSel (sEq x [(110:UInt8),111,110,101]) 0 (bSel (sEq x [(112:UInt8),97,115,115]) 0 (bSel (sEq x [(99:UInt8),97,112,115]) 0 (bSel (iEq (lLen (Al (x,58))) 2) (Ea (8,(lGet (Al (x,58)) (iNat 0) []),(lGet (Al (x,58)) (iNat 1) []))).2.2.2 (bSel (iEq (lLen (Al (x,47))) 2) (bSel (BH (lGet (Al (x,47)) (iNat 0) [])).2 (BH (lGet (Al (x,47)) (iNat 0) [])).1 0) (bSel (iEq (lLen (Al (x,45))) 2) 0 0))))))),true)):=(H9.v x).trans (by kernel_rfl)
theorem fX (x):Nc x=((Jh x)∧((Ig (x,58))∧((Ig (x,47))∧((Ig (x,45))∧((((sEq x [(110:UInt8),111,110,101])=true→True)∧((sEq x [(110:UInt8),111,110,101])=false→(((sEq x [(112:UInt8),97,115,115])=true→True)∧((sEq x [(112:UInt8),97,115,115])=false→(((sEq x [(99:UInt8),97,112,115])=true→True)∧((sEq x [(99:UInt8),97,112,115])=false→(((iEq (lLen (Al (x,58))) 2)=true→((((0:Int)≤0)∧((0:Int)<(((List.length (Al (x,58))):Int))))∧(((iNat 0)<(List.length (Al (x,58))))∧((((0:Int)≤1)∧((1:Int)<(((List.length (Al (x,58))):Int))))∧(((iNat 1)<(List.length (Al (x,58))))∧(Qy (8,(lGet (Al (x,58)) (iNat 0) []),(lGet (Al (x,58)) (iNat 1) []))))))))∧((iEq (lLen (Al (x,58))) 2)=false→(((iEq (lLen (Al (x,47))) 2)=true→((((0:Int)≤0)∧((0:Int)<(((List.length (Al (x,47))):Int))))∧(((iNat 0)<(List.length (Al (x,47))))∧((Kf (lGet (Al (x,47)) (iNat 0) []))∧((((0:Int)≤1)∧((1:Int)<(((List.length (Al (x,47))):Int))))∧(((iNat 1)<(List.length (Al (x,47))))∧((((0:Int)≤0)∧((0:Int)<(((List.length (Al (x,47))):Int))))∧(((iNat 0)<(List.length (Al (x,47))))∧((Jh (lGet (Al (x,47)) (iNat 1) []))∧((J7 (lGet (Al (x,47)) (iNat 0) []))∧(((BH (lGet (Al (x,47)) (iNat 0) [])).2=true→((((0:Int)≤1)∧((1:Int)<(((List.length (Al (x,47))):Int))))∧(((iNat 1)<(List.length (Al (x,47))))∧(Jh (lGet (Al (x,47)) (iNat 1) [])))))∧((BH (lGet (Al (x,47)) (iNat 0) [])).2=false→True))))))))))))∧((iEq (lLen (Al (x,47))) 2)=false→(((iEq (lLen (Al (x,45))) 2)=true→((((0:Int)≤1)∧((1:Int)<(((List.length (Al (x,45))):Int))))∧(((iNat 1)<(List.length (Al (x,45))))∧((((0:Int)≤0)∧((0:Int)<(((List.length (Al (x,45))):Int))))∧(((iNat 0)<(List.length (Al (x,45))))∧((Jh (lGet (Al (x,45)) (iNat 1) []))∧(J7 (lGet (Al (x,45)) (iNat 0) []))))))))∧((iEq (lLen (Al (x,45))) 2)=false→True))))))))))))∧(((sEq x [])=true→True)∧((sEq x [])=false→(Ls ((bSel (sEq x [(110:UInt8),111,110,101]) 0 (bSel (sEq x [(112:UInt8),97,115,115]) 1 (bSel (sEq x [(99:UInt8),97,112,115]) 10 (bSel (iEq (lLen (Al (x,58))) 2) (Ea (8,(lGet (Al (x,58)) (iNat 0) []),(lGet (Al (x,58)) (iNat 1) []))).1 (bSel (iEq (lLen (Al (x,47))) 2) (bSel (BH (lGet (Al (x,47)) (iNat 0) [])).2 7 6) (bSel (iEq (lLen (Al (x,45))) 2) 2 2)))))),(bSel (sEq x [(110:UInt8),111,110,101]) 0 (bSel (sEq x [(112:UInt8),97,115,115]) 0 (bSel (sEq x [(99:UInt8),97,112,115]) 0 (bSel (iEq (lLen (Al (x,58))) 2) (Ea (8,(lGet (Al (x,58)) (iNat 0) []),(lGet (Al (x,58)) (iNat 1) []))).2.1 (bSel (iEq (lLen (Al (x,47))) 2) (bSel (BH (lGet (Al (x,47)) (iNat 0) [])).2 (Cu (lGet (Al (x,47)) (iNat 1) [])) (Cu (lGet (Al (x,47)) (iNat 1) []))) (bSel (iEq (lLen (Al (x,45))) 2) (Cu (lGet (Al (x,45)) (iNat 1) [])) (Cu x))))))),(bSel (sEq x [(110:UInt8),111,110,101]) 0 (bSel (sEq x [(112:UInt8),97,115,115]) 0 (bSel (sEq x [(99:UInt8),97,112,115]) 0 (bSel (iEq (lLen (Al (x,58))) 2) (Ea (8,(lGet (Al (x,58)) (iNat 0) []),(lGet (Al (x,58)) (iNat 1) []))).2.2.1 (bSel (iEq (lLen (Al (x,47))) 2) (bSel (BH (lGet (Al (x,47)) (iNat 0) [])).2 0 (DK (lGet (Al (x,47)) (iNat 0) []))) (bSel (iEq (lLen (Al (x,45))) 2) (DK (lGet (Al (x,45)) (iNat 0) [])) 0)))))),(bSel (sEq x [(110:UInt8),111,110,101]) 0 (bSel (sEq x [(112:UInt8),97,115,115]) 0 (bSel (sEq x [(99:UInt8),97,112,115]) 0 (bSel (iEq (lLen (Al (x,58))) 2) (Ea (8,(lGet (Al (x,58)) (iNat 0) []),(lGet (Al (x,58)) (iNat 1) []))).2.2.2 (bSel (iEq (lLen (Al (x,47))) 2) (bSel (BH (lGet (Al (x,47)) (iNat 0) [])).2 (BH (lGet (Al (x,47)) (iNat 0) [])).1 0) (bSel (iEq (lLen (Al (x,45))) 2) 0 0))))))))))))))):=(H9.o x).trans (by kernel_rfl)
attribute [irreducible] BH Kf Ea Qy CH Nc
end
section
set_option maxRecDepth 8000
def fo:DCode:=(.seq [1,0] (.region [oa 0 4 (.mv (.c (.bool false)))]) (.seq [4] (.region [om 0 5 0,oa 1 6 (.lenT (.t 5)),om 2 7 1,oa 3 8 (.lenT (.t 7)),oa 4 9 (.bin .geq (.t 6) (.t 8)),om 5 10 9,og 6 11 (.mv (.t 0)) 10 true,og 7 12 (.mv (.t 1)) 10 true,og 8 13 (.lenT (.t 12)) 10 true,og 9 14 (.substr (.t 11) none (some (.t 13))) 10 true,og 10 15 (.mv (.t 1)) 10 true,og 11 16 (.bin .eql (.t 14) (.t 15)) 10 true,oa 12 17 (.pick (.t 10) (.t 16) (.c (.bool false))),om 13 4 17]) .ret))
def HW:Fn:=⟨⟨2,18,0,true,[.tmp 4],fo⟩,[.one .frz (.str),.one .frz (.str)],.one (.one .own (.bool))⟩
theorem fk:HW.A:=A7 trivial
def J3:List UInt8×List UInt8→Bool:=HW.V
def M1:List UInt8×List UInt8→Prop:=HW.O
theorem fh:HW.B:=A8 trivial (by kernel_rfl) (fun x=>by kernel_rfl)
def fg:DCode:=(.seq [1,0] (.region [oa 0 4 (.mv (.c (.str []))),oa 1 5 (.mv (.c (.bool false)))]) (.seq [1,0] (.seq [9,1,0] (.region [om 0 6 0,om 1 7 1,oF 2 8 HW [(.t 6),(.t 7)],oa 3 9 (.un .not (.t 8))]) (.cond (.t 9) (.seq [5,4] (.region [om 0 10 0,om 1 4 10,oa 2 5 (.mv (.c (.bool false)))]) .ret) .skip)) (.seq [5,4] (.region [om 0 11 0,om 1 12 1,oa 2 13 (.lenT (.t 12)),oa 3 14 (.substr (.t 11) (some (.t 13)) none),om 4 4 14,oa 5 5 (.mv (.c (.bool true)))]) .ret)))
def HY:Fn:=⟨⟨2,15,0,true,[.tmp 4,.tmp 5],fg⟩,[.one .frz (.str),.one .frz (.str)],.tup [.one .own (.str),.one .own (.bool)]⟩
theorem fj:HY.A:=A7 ⟨fk,trivial⟩
def S4:List UInt8×List UInt8→List UInt8×Bool:=HY.V
def S3:List UInt8×List UInt8→Prop:=HY.O
theorem fp:HY.B:=A8 ⟨fh,trivial⟩ (by kernel_rfl) (fun x=>by kernel_rfl)
def fJ:DCode:=(.seq [1,0] (.region [oa 0 4 (.mv (.c (.str []))),oa 1 5 (.mv (.c (.bool false)))]) (.seq [5,4] (.region [om 0 6 0,om 1 7 1,oF 2 8 HY [(.t 6),(.t 7)],oa 3 9 (.extract (.t 8) 0),oa 4 10 (.extract (.t 8) 1),om 5 4 9,om 6 5 10]) .ret))
def Gt:Fn:=⟨⟨2,11,0,true,[.tmp 4,.tmp 5],fJ⟩,[.one .frz (.str),.one .frz (.str)],.tup [.one .own (.str),.one .own (.bool)]⟩
theorem Xe:Gt.A:=A7 ⟨fj,trivial⟩
def Ep:List UInt8×List UInt8→List UInt8×Bool:=Gt.V
def J5:List UInt8×List UInt8→Prop:=Gt.O
theorem Xg:Gt.B:=A8 ⟨fp,trivial⟩ (by kernel_rfl) (fun x=>by kernel_rfl)
def iR:DCode:=(.seq [0] (.region [oi 0 2 0,oa 1 3 (.mv (.c (.bool false)))]) (.seq [0] (.seq [13,0] (.region [om 0 6 0,oa 1 7 (.lenT (.t 6)),oa 2 8 (.bin .lss (.t 7) (.c (.int .i64 1))),om 3 9 8,og 4 10 (.mv (.t 0)) 9 false,og 5 11 (.lenT (.t 10)) 9 false,og 6 12 (.bin .gtr (.t 11) (.c (.int .i64 10))) 9 false,oa 7 13 (.pick (.t 9) (.c (.bool true)) (.t 12))]) (.cond (.t 13) (.seq [3,2] (.region [oi 0 2 0,oa 1 3 (.mv (.c (.bool false)))]) .ret) .skip)) (.seq [5,4,0] (.region [om 0 15 0,oc 1 16 NL NF Yv [(.t 15)],om 2 14 16,oa 3 17 (.extract (.t 14) 0),oa 4 18 (.extract (.t 14) 1),om 5 4 17,om 6 5 18]) (.seq [4] (.seq [34,4] (.region [om 0 19 5,oa 1 20 (.eqN true (.t 19) (.c (.ifc true))),om 2 21 20,og 3 22 (.mv (.t 4)) 21 false,og 4 23 (.bin .lss (.t 22) (.c (.int .i64 (-999999999)))) 21 false,oa 5 24 (.pick (.t 21) (.c (.bool true)) (.t 23)),om 6 25 24,og 7 26 (.mv (.t 4)) 25 false,og 8 27 (.bin .gtr (.t 26) (.c (.int .i64 999999999))) 25 false,oa 9 28 (.pick (.t 25) (.c (.bool true)) (.t 27)),om 10 29 28,og 11 30 (.mv (.t 4)) 29 false,⟨12,some 31,.call false Eu.S Eu.P Eu.D [(.t 30)],(some (29,false)),[]⟩,og 13 32 (.mv (.t 0)) 29 false,og 14 33 (.bin .neq (.t 31) (.t 32)) 29 false,oa 15 34 (.pick (.t 29) (.c (.bool true)) (.t 33))]) (.cond (.t 34) (.seq [3,2] (.region [oi 0 2 0,oa 1 3 (.mv (.c (.bool false)))]) .ret) .skip)) (.seq [3,2] (.region [om 0 35 4,om 1 2 35,oa 2 3 (.mv (.c (.bool true)))]) .ret)))))
def Gz:Fn:=⟨⟨1,36,0,true,[.tmp 2,.tmp 3],iR⟩,[.one .frz (.str)],.tup [.one .own (.int .i64),.one .own (.bool)]⟩
theorem XE:Gz.A:=A7 ⟨jE,Tj,trivial⟩
def F4:List UInt8→Int×Bool:=Gz.V
def Kd:List UInt8→Prop:=Gz.O
theorem XC:Gz.B:=A8 ⟨jB,Tf,trivial⟩ (by kernel_rfl) (fun x=>by kernel_rfl)
def fT:DCode:=(.seq [2,0] (.region [oa 0 2 (.allocB 0 [(.int .i64 0),(.int .i64 0),(.int .i64 0),(.int .i64 0)])]) (.seq [2,0] (.seq [19,2,0] (.region [om 0 19 0]) (.block 0 (.seq [20,19,2,0] (.region [oa 0 21 (.bin .eql (.t 19) (.c (.str [110,111,110,101]))),om 1 20 21]) (.cond (.t 20) (.seq [2] (.region [oa 0 22 (.build [(.int .i64 0),(.int .i64 0),(.int .i64 0),(.int .i64 0)] []),os 1 (.storeB 0 4 (.t 2) (.t 22))]) .ret) (.seq [23,19,2,0] (.region [oa 0 24 (.bin .eql (.t 19) (.c (.str [112,97,115,115]))),om 1 23 24]) (.cond (.t 23) (.seq [2] (.region [oa 0 25 (.build [(.int .i64 0),(.int .i64 0),(.int .i64 0),(.int .i64 0)] [(0,1,(.c (.int .i64 1)))]),os 1 (.storeB 0 4 (.t 2) (.t 25))]) .ret) (.seq [26,2,0] (.region [oa 0 27 (.bin .eql (.t 19) (.c (.str [99,97,112,115]))),om 1 26 27]) (.cond (.t 26) (.seq [2] (.region [oa 0 28 (.build [(.int .i64 0),(.int .i64 0),(.int .i64 0),(.int .i64 0)] [(0,1,(.c (.int .i64 10)))]),os 1 (.storeB 0 4 (.t 2) (.t 28))]) .ret) .skip)))))))) (.seq [2,0] (.seq [31,30,29,2,0] (.region [⟨0,some 29,.a false (.litSlice 1 4 [(.int .i64 0),(.int .i64 0),(.int .i64 0),(.int .i64 0)] [(0,1,(.c (.int .i64 3))),(1,1,(.c (.int .i64 4))),(2,1,(.c (.int .i64 5))),(3,1,(.c (.int .i64 9)))]) (some (.one (.int .i64))),none,[]⟩,oa 1 30 (.len (.t 29)),oi 2 31 0]) (.block 1 (.loop [0,2,29,30,31] 1 (.seq [32,31,30,29,2,0] (.region [oa 0 32 (.bin .lss (.t 31) (.t 30))]) (.seq [31,30,29,2,0] (.cond (.t 32) .skip (.exit 1)) (.seq [31,30,29,2,0] (.block 2 (.seq [31,30,29,4,2,0] (.region [oa 0 33 (.indexA 1 (.t 29) (.t 31)),ob 1 34 (.loadH none (.t 33)),om 2 4 34]) (.seq [31,30,29,6,5,4,2,0] (.region [om 0 36 0,om 1 37 4,oF 2 38 GD [(.t 37)],oF 3 39 Gt [(.t 36),(.t 38)],om 4 35 39,oa 5 40 (.extract (.t 35) 0),oa 6 41 (.extract (.t 35) 1),om 7 5 40,om 8 6 41]) (.seq [42,31,30,29,5,4,2,0] (.region [om 0 42 6]) (.cond (.t 42) (.seq [7,4,2] (.region [om 0 44 5,oF 1 45 Gz [(.t 44)],om 2 43 45,oa 3 46 (.extract (.t 43) 0),oa 4 47 (.extract (.t 43) 1),om 5 7 46,om 6 8 47]) (.seq [2] (.region [om 0 48 4,om 1 49 7,oa 2 50 (.build [(.int .i64 0),(.int .i64 0),(.int .i64 0),(.int .i64 0)] [(0,1,(.t 48)),(3,1,(.t 49))]),os 3 (.storeB 0 4 (.t 2) (.t 50))]) .ret)) .skip))))) (.region [oa 0 51 (.bin .add (.t 31) (.c (.int .i64 1))),om 1 31 51]))))))) (.seq [2,0] (.seq [10,9,2,0] (.region [om 0 53 0,oF 1 54 Gt [(.t 53),(.c (.str [111,110,99,101,58]))],om 2 52 54,oa 3 55 (.extract (.t 52) 0),oa 4 56 (.extract (.t 52) 1),om 5 9 55,om 6 10 56]) (.seq [57,9,2,0] (.region [om 0 57 10]) (.cond (.t 57) (.seq [2] (.region [om 0 58 9,oF 1 59 Fo [(.t 58)],oa 2 60 (.build [(.int .i64 0),(.int .i64 0),(.int .i64 0),(.int .i64 0)] [(0,1,(.c (.int .i64 8))),(2,1,(.t 59))]),os 3 (.storeB 0 4 (.t 2) (.t 60))]) .ret) .skip))) (.seq [2,0] (.seq [13,12,11,2,0] (.region [om 0 62 0,oF 1 63 Fu [(.t 62),(.c (.str [47]))],om 2 61 63,oa 3 64 (.extract (.t 61) 0),oa 4 65 (.extract (.t 61) 1),oa 5 66 (.extract (.t 61) 2),om 6 11 64,om 7 12 65,om 8 13 66]) (.seq [67,12,11,2,0] (.region [om 0 67 13]) (.cond (.t 67) (.seq [12,11,2] (.seq [15,14,12,11,2] (.region [om 0 69 11,oF 1 70 Gz [(.t 69)],om 2 68 70,oa 3 71 (.extract (.t 68) 0),oa 4 72 (.extract (.t 68) 1),om 5 14 71,om 6 15 72]) (.seq [73,14,12,11,2] (.region [om 0 73 15]) (.cond (.t 73) (.seq [2] (.region [om 0 74 14,om 1 75 12,oF 2 76 Ez [(.t 75)],oa 3 77 (.build [(.int .i64 0),(.int .i64 0),(.int .i64 0),(.int .i64 0)] [(0,1,(.c (.int .i64 7))),(3,1,(.t 74)),(1,1,(.t 76))]),os 4 (.storeB 0 4 (.t 2) (.t 77))]) .ret) .skip))) (.seq [2] (.region [om 0 78 11,oF 1 79 Fo [(.t 78)],om 2 80 12,oF 3 81 Ez [(.t 80)],oa 4 82 (.build [(.int .i64 0),(.int .i64 0),(.int .i64 0),(.int .i64 0)] [(0,1,(.c (.int .i64 6))),(2,1,(.t 79)),(1,1,(.t 81))]),os 5 (.storeB 0 4 (.t 2) (.t 82))]) .ret)) .skip))) (.seq [2,0] (.seq [18,17,16,2,0] (.region [om 0 84 0,oF 1 85 Fu [(.t 84),(.c (.str [45]))],om 2 83 85,oa 3 86 (.extract (.t 83) 0),oa 4 87 (.extract (.t 83) 1),oa 5 88 (.extract (.t 83) 2),om 6 16 86,om 7 17 87,om 8 18 88]) (.seq [89,17,16,2,0] (.region [om 0 89 18]) (.cond (.t 89) (.seq [2] (.region [om 0 90 16,oF 1 91 Fo [(.t 90)],om 2 92 17,oF 3 93 Ez [(.t 92)],oa 4 94 (.build [(.int .i64 0),(.int .i64 0),(.int .i64 0),(.int .i64 0)] [(0,1,(.c (.int .i64 2))),(2,1,(.t 91)),(1,1,(.t 93))]),os 5 (.storeB 0 4 (.t 2) (.t 94))]) .ret) .skip))) (.seq [2] (.region [om 0 95 0,oF 1 96 Ez [(.t 95)],oa 2 97 (.build [(.int .i64 0),(.int .i64 0),(.int .i64 0),(.int .i64 0)] [(0,1,(.c (.int .i64 2))),(1,1,(.t 96))]),os 3 (.storeB 0 4 (.t 2) (.t 97))]) .ret)))))))
def H8:Fn:=⟨⟨1,98,1,true,[.cell 2 (some 4)],fT⟩,[.one .frz (.str)],.one (.agg [(.own,.int .i64),(.own,.int .i64),(.own,.int .i64),(.own,.int .i64)])⟩
theorem gj:H8.A:=A7 ⟨Yg,Xe,XE,Xe,Tl,TD,XE,Qv,Tl,Qv,TD,Tl,Qv,Qv,trivial⟩
def Dg:List UInt8→Int×Int×Int×Int:=H8.V
def PT:List UInt8→Prop:=H8.O
theorem fZ:H8.B:=A8 ⟨Ys,Xg,XC,Xg,Ti,TG,XC,Qx,Ti,Qx,TG,Ti,Qx,Qx,trivial⟩ (by kernel_rfl) (fun x=>by kernel_rfl)
def fW:DCode:=(.seq [2,0] (.region [oa 0 2 (.allocB 0 [(.int .i64 0),(.int .i64 0),(.int .i64 0),(.int .i64 0)]),oa 1 3 (.mv (.c (.bool false)))]) (.seq [4,2,0] (.region [om 0 5 0,oF 1 6 H8 [(.t 5)],oa 2 4 (.allocB 1 [(.int .i64 0),(.int .i64 0),(.int .i64 0),(.int .i64 0)]),os 3 (.storeB 1 4 (.t 4) (.t 6))]) (.seq [4,2] (.seq [15,4,2] (.region [oa 0 7 (.loadB 1 (some 4) (.t 4)),oF 1 8 Fq [(.t 7)],oa 2 9 (.un .not (.t 8)),om 3 10 9,og 4 11 (.loadB 1 (some 4) (.t 4)) 10 false,⟨5,some 12,.call false Fk.S Fk.P Fk.D [(.t 11)],(some (10,false)),[]⟩,og 6 13 (.mv (.t 0)) 10 false,og 7 14 (.bin .neq (.t 12) (.t 13)) 10 false,oa 8 15 (.pick (.t 10) (.c (.bool true)) (.t 14))]) (.cond (.t 15) (.seq [3,2] (.region [oa 0 16 (.build [(.int .i64 0),(.int .i64 0),(.int .i64 0),(.int .i64 0)] []),os 1 (.storeB 0 4 (.t 2) (.t 16)),oa 2 3 (.mv (.c (.bool false)))]) .ret) .skip)) (.seq [3,2] (.region [ob 0 17 (.loadB 1 (some 4) (.t 4)),os 1 (.storeB 0 4 (.t 2) (.t 17)),oa 2 3 (.mv (.c (.bool true)))]) .ret))))
def Ia:Fn:=⟨⟨1,18,2,true,[.cell 2 (some 4),.tmp 3],fW⟩,[.one .frz (.str)],.tup [.agg [(.own,.int .i64),(.own,.int .i64),(.own,.int .i64),(.own,.int .i64)],.one .own (.bool)]⟩
theorem gb:Ia.A:=A7 ⟨gj,Tw,Xf,trivial⟩
def Dw:List UInt8→(Int×Int×Int×Int)×Bool:=Ia.V
def Nb:List UInt8→Prop:=Ia.O
theorem gd:Ia.B:=A8 ⟨fZ,Tv,Xc,trivial⟩ (by kernel_rfl) (fun x=>by kernel_rfl)
end
section
set_option maxRecDepth 100000
theorem W6 (x):J3 x=(bAnd (iGe (lLen x.1) (lLen x.2)) (sEq (lSub x.1 0 (iNat (lLen x.2))) x.2)):=(HW.v x).trans (by kernel_rfl)
theorem W4 (x):M1 x=(((iGe (lLen x.1) (lLen x.2))=true→(((0:Int)≤(lLen x.2))∧((0≤(iNat (lLen x.2)))∧((iNat (lLen x.2))≤(List.length x.1)))))∧((iGe (lLen x.1) (lLen x.2))=false→True)):=(HW.o x).trans (by kernel_rfl)
theorem W3 (x):S4 x=(bSel (bNot (J3 x)) (x.1,false) ((lSub x.1 (iNat (lLen x.2)) (lN x.1)),true)):=(HY.v x).trans (by kernel_rfl)
theorem W5 (x):S3 x=((M1 x)∧(((bNot (J3 x))=true→True)∧((bNot (J3 x))=false→(((0:Int)≤(lLen x.2))∧(((iNat (lLen x.2))≤(lN x.1))∧((lN x.1)≤(List.length x.1))))))):=(HY.o x).trans (by kernel_rfl)
theorem Xh (x):Ep x=(S4 x):=(Gt.v x).trans (by kernel_rfl)
theorem Xd (x):J5 x=(S3 x):=(Gt.o x).trans (by kernel_rfl)
theorem iJ (x):F4 x=(bSel (bOr (iLt (lLen x) 1) (iGt (lLen x) 10)) (0,false) (bSel (bOr (bNot (Dx x).2) (bOr (iLt (Dx x).1 (-999999999)) (bOr (iGt (Dx x).1 999999999) (sNe (Fm (Dx x).1) x)))) (0,false) ((Dx x).1,true))):=(Gz.v x).trans (by kernel_rfl)
theorem jn (x):Kd x=(((bOr (iLt (lLen x) 1) (iGt (lLen x) 10))=true→True)∧((bOr (iLt (lLen x) 1) (iGt (lLen x) 10))=false→((LG x)∧(((bNot (Dx x).2)=true→True)∧((bNot (Dx x).2)=false→(((iLt (Dx x).1 (-999999999))=true→True)∧((iLt (Dx x).1 (-999999999))=false→(((iGt (Dx x).1 999999999)=true→True)∧((iGt (Dx x).1 999999999)=false→(Ib (Dx x).1)))))))))):=(Gz.o x).trans (by kernel_rfl)
def Fg(x:List UInt8)(x0:Int):Bool:=(bAnd (iLt x0 (lLen [(3:Int),4,5,9])) (bNot (Ep (x,(GG (lGet [3,4,5,9] (iNat x0) 0)))).2))
def F1(x0:Int):Int:=(iAdd .i64 x0 1)
def PL(x:List UInt8)(x0:Int):Prop:=(((iLt x0 (lLen [(3:Int),4,5,9]))=true→((((0:Int)≤x0)∧(x0<(((List.length [(3:Int),4,5,9]):Int))))∧(((iNat x0)<(List.length [(3:Int),4,5,9]))∧((ND (lGet [3,4,5,9] (iNat x0) 0))∧((J5 (x,(GG (lGet [3,4,5,9] (iNat x0) 0))))∧(((Ep (x,(GG (lGet [3,4,5,9] (iNat x0) 0)))).2=true→(Kd (Ep (x,(GG (lGet [3,4,5,9] (iNat x0) 0)))).1))∧((Ep (x,(GG (lGet [3,4,5,9] (iNat x0) 0)))).2=false→True)))))))∧((iLt x0 (lLen [(3:Int),4,5,9]))=false→True))
theorem Lu (x):Dg x=(bSel (sEq x [(110:UInt8),111,110,101]) (0,0,0,0) (bSel (sEq x [(112:UInt8),97,115,115]) (1,0,0,0) (bSel (sEq x [(99:UInt8),97,112,115]) (10,0,0,0) (bSel (iLt (An (Fg x) F1 0) (lLen [(3:Int),4,5,9])) ((lGet [3,4,5,9] (iNat (An (Fg x) F1 0)) 0),0,0,(F4 (Ep (x,(GG (lGet [3,4,5,9] (iNat (An (Fg x) F1 0)) 0)))).1).1) (bSel (Ep (x,[(111:UInt8),110,99,101,58])).2 (8,0,(Jd (Ep (x,[(111:UInt8),110,99,101,58])).1),0) (bSel (Ax (x,[(47:UInt8)])).2.2 (bSel (F4 (Ax (x,[(47:UInt8)])).1).2 (7,(GF (Ax (x,[(47:UInt8)])).2.1),0,(F4 (Ax (x,[(47:UInt8)])).1).1) (6,(GF (Ax (x,[(47:UInt8)])).2.1),(Jd (Ax (x,[(47:UInt8)])).1),0)) (bSel (Ax (x,[(45:UInt8)])).2.2 (2,(GF (Ax (x,[(45:UInt8)])).2.1),(Jd (Ax (x,[(45:UInt8)])).1),0) (2,(GF x),0,0)))))))):=(H8.v x).trans (by kernel_rfl)
theorem fS (x):PT x=(((sEq x [(110:UInt8),111,110,101])=true→True)∧((sEq x [(110:UInt8),111,110,101])=false→(((sEq x [(112:UInt8),97,115,115])=true→True)∧((sEq x [(112:UInt8),97,115,115])=false→(((sEq x [(99:UInt8),97,112,115])=true→True)∧((sEq x [(99:UInt8),97,112,115])=false→((LoopOk (Fg x) F1 (PL x) 0)∧(((iLt (An (Fg x) F1 0) (lLen [(3:Int),4,5,9]))=true→True)∧((iLt (An (Fg x) F1 0) (lLen [(3:Int),4,5,9]))=false→((J5 (x,[(111:UInt8),110,99,101,58]))∧(((Ep (x,[(111:UInt8),110,99,101,58])).2=true→(J8 (Ep (x,[(111:UInt8),110,99,101,58])).1))∧((Ep (x,[(111:UInt8),110,99,101,58])).2=false→((Jg (x,[(47:UInt8)]))∧(((Ax (x,[(47:UInt8)])).2.2=true→((Kd (Ax (x,[(47:UInt8)])).1)∧(((F4 (Ax (x,[(47:UInt8)])).1).2=true→(Ji (Ax (x,[(47:UInt8)])).2.1))∧((F4 (Ax (x,[(47:UInt8)])).1).2=false→((J8 (Ax (x,[(47:UInt8)])).1)∧(Ji (Ax (x,[(47:UInt8)])).2.1))))))∧((Ax (x,[(47:UInt8)])).2.2=false→((Jg (x,[(45:UInt8)]))∧(((Ax (x,[(45:UInt8)])).2.2=true→((J8 (Ax (x,[(45:UInt8)])).1)∧(Ji (Ax (x,[(45:UInt8)])).2.1)))∧((Ax (x,[(45:UInt8)])).2.2=false→(Ji x))))))))))))))))))):=(H8.o x).trans (by kernel_rfl)
theorem gz (x):Dw x=(bSel (bOr (bNot (Ev (Dg x))) (sNe (J6 (Dg x)) x)) ((0,0,0,0),false) ((Dg x),true)):=(Ia.v x).trans (by kernel_rfl)
theorem fY (x):Nb x=((PT x)∧((Ka (Dg x))∧(((bNot (Ev (Dg x)))=true→True)∧((bNot (Ev (Dg x)))=false→(M6 (Dg x)))))):=(Ia.o x).trans (by kernel_rfl)
attribute [irreducible] J3 M1 S4 S3 Ep J5 F4 Kd Dg PT Dw Nb
end
theorem AM(a:Bool):bNot a=!a:=by simp only[My]
theorem Aw(a b:Bool):bAnd a b=(a&&b):=by simp only[Wf]
theorem BL(a b:Bool):bOr a b=(a||b):=by simp only[eO]
theorem Mi(a b:Bool):bIff a b=(a == b):=by simp only[dK]
theorem Bi{α:Type}(c:Bool)(x y:α):bSel c x y=if c=true then x else y:=by cases c<;>simp[AR,AN]
theorem Co(a b:Int):iEq a b=decide (a=b):=by
 rw[SL];by_cases h:a=b<;>simp[h]
theorem Dp(a b:Int):iNe a b=!decide (a=b):=by
 rw[eS];by_cases h:a=b<;>simp[h]
theorem Au(a b:Int):iLt a b=decide (a<b):=by simp only[eE]
theorem Ca(a b:Int):iLe a b=decide (a≤b):=by simp only[eK]
theorem DB(a b:Int):iGt a b=decide (b<a):=by simp only[eL]
theorem Df(a b:Int):iGe a b=decide (b≤a):=by simp only[ez]
theorem B5(a b:List UInt8):sEq a b=(a == b):=by simp only[eA]
theorem KW(a b:List UInt8):sNe a b=!(a == b):=by simp only[eM]
section
variable {α:Type}
theorem As(l:List α):lLen l=(l.length:Int):=by simp only[Wb]
theorem FL(l:List α):lN l=l.length:=by simp only[Pv]
theorem CY(l:List α)(j:Nat)(d:α):lGet l j d=l.getD j d:=by simp only[Mw]
theorem s5(l:List α)(j:Nat)(x:α):lSet l j x=l.set j x:=by simp only[O2]
theorem DP(l:List α)(a b:Nat):lSub l a b=(l.drop a).take (b-a):=by simp only[VO]
theorem aQ(l:List α)(n:Nat):lTake l n=l.take n:=by simp only[VA]
theorem EE(l m:List α):lApp l m=l++m:=by simp only[KZ]
theorem tQ(n:Int)(x:α):lRep n x=List.replicate n.toNat x:=by simp only[dx]
theorem AQ(a:Int):iNat a=a.toNat:=by simp only[V8]
theorem Hu(a b:List UInt8):sAdd a b=a++b:=by simp only[dJ]
end
def AU(n:Int):Prop:=-9223372036854775808≤n∧n≤9223372036854775807
theorem wrap_i64{n:Int}(h:AU n):IntKind.i64.wrap n=n:=by
 obtain⟨h1,h2⟩:=h;show (if decide (n % 18446744073709551616≥9223372036854775808)=true then n % 18446744073709551616-18446744073709551616 else n % 18446744073709551616)=n;simp only[AX];split<;>omega
theorem BS{a b:Int}(h:AU (a+b)):iAdd .i64 a b=a+b:=by rw[V1];exact wrap_i64 h
theorem U8{a b:Int}(h:AU (a-b)):iSub .i64 a b=a-b:=by rw[dU];exact wrap_i64 h
theorem rW{a b:Int}(h:AU (a*b)):iMul .i64 a b=a*b:=by rw[dc];exact wrap_i64 h
theorem bt{a:Int}(h:AU (0-a)):iNeg .i64 a=-a:=by rw[dW];rw[wrap_i64 h];omega
theorem oT{a:Int}(h:AU a):iConv .i64 a=a:=by rw[RG];exact wrap_i64 h
theorem qX{a b:Int}(ha:0≤a)(h:AU (a / b)):iQuo .i64 a b=a / b:=by
 rw[VY];rw[Int.tdiv_eq_ediv_of_nonneg ha];exact wrap_i64 h
theorem tv{a b:Int}(ha:0≤a):iRem a b=a % b:=by rw[Sr];exact Int.tmod_eq_emod_of_nonneg ha
section
variable {X:Type} {c:X→Bool} {f:X→X} {p:X→Prop}
theorem IE(I:X→Prop)(m:X→Nat)(h:∀ x,I x→p x∧(c x=true→I (f x)∧m (f x)<m x)){x0:X}(h0:I x0) :
 LoopOk c f p x0∧I (An c f x0)∧c (An c f x0)=false:=by
 have go:∀ (n:Nat) (x:X),m x<n→I x→∃ y,LoopTo c f p x y∧I y∧c y=false:=by
  intro n
  induction n with
  |zero=>intro x hm;exact absurd hm (R6 _)
  | succ n ih=>
    intro x hm hI;obtain⟨h1,h2⟩:=h x hI
    cases hc:c x with
    |false=>exact⟨x,.stop h1 hc,hI,hc⟩
    | true=>
      obtain⟨h3,h4⟩:=h2 hc;obtain⟨y,h5,h6,h7⟩:=ih (f x) (by omega) h3;exact⟨y,.go h1 hc h5,h6,h7⟩
 obtain⟨y,h1,h2,h3⟩:=go _ x0 (Sa _) h0
 rw[h1.val]
 exact⟨⟨y,h1⟩,h2,h3⟩
theorem ZR(I:X→Prop)(m:X→Nat)(h:∀ x,I x→c x=true→I (f x)∧m (f x)<m x){x0:X}(h0:I x0):I (An c f x0)∧c (An c f x0)=false:=
 (IE (p:=fun _=>True) I m (fun x hx=>⟨trivial,h x hx⟩) h0).2
theorem Dj(n:Nat)(st:Nat→X){x0:X}(h0:st 0=x0)(hs:∀ k,k<n→p (st k)∧c (st k)=true∧f (st k)=st (k+1))(he:p (st n)∧c (st n)=false):LoopOk c f p x0∧An c f x0=st n:=by
 have go:∀ k,k≤n→LoopTo c f p (st (n-k)) (st n):=by
  intro k
  induction k with
  |zero=>intro _;exact .stop he.1 he.2
  | succ k ih=>
    intro hk;obtain⟨h1,h2,h3⟩:=hs (n-(k+1)) (by omega);refine .go h1 h2 ?_;rw[h3,show n-(k+1)+1=n-k by omega];exact ih (by omega)
 have:=go n (AB _);rw[OZ,h0] at this;exact⟨⟨_,this⟩,this.val⟩
end
def C0(t:Nat→Bool):Nat→Nat→Nat
 |0,i=>i
 |k+1,i=>if t i then i else C0 t k (i+1)
theorem N6(t:Nat→Bool):∀ k i,i≤C0 t k i∧C0 t k i≤i+k
 |0,i=>⟨AB _,AB _⟩
 | k+1,i=>by
   unfold C0
   split
   · omega
   · have:=N6 t k (i+1);omega
theorem N3(t:Nat→Bool):∀ k i,C0 t k i<i+k→t (C0 t k i)=true
 |0,i,h=>by unfold C0 at h;omega
 | k + 1,i,h=>by
   unfold C0 at h ⊢
   split
   · rename_i ht;exact ht
   · rename_i ht
     rw[Ad ht] at h
     exact N3 t k (i+1) (by omega)
theorem QO(t:Nat→Bool):∀ k i j,i≤j→j<C0 t k i→t j=false
 |0,i,j,h,h'=>by unfold C0 at h';omega
 | k + 1,i,j,h,h'=>by
   unfold C0 at h'
   split at h'
   · omega
   · rename_i ht
     by_cases hj:j=i
     · subst hj;simpa using ht
     · exact QO t k (i+1) j (by omega) h'
theorem pU{c:Int→Bool}{f:Int→Int}{p:Int→Prop}(n:Nat)(t:Nat→Bool)(hn:(n:Int)≤9223372036854775806)(hc:∀ i:Nat,i≤n→c i=(decide (i<n)&&!t i))(hf:∀ i:Nat,i<n→f i=iAdd .i64 i 1)(hp:∀ i:Nat,i≤n→p i) :
 LoopOk c f p 0∧An c f 0=(C0 t n 0:Nat):=by
 have hle:=N6 t n 0
 refine Dj (C0 t n 0) (fun k=>(k:Int)) rfl (fun k hk=>?_) ⟨hp _ (by omega),?_⟩
 · have hk':k<n:=by omega
   refine⟨hp k (by omega),?_,?_⟩
   · rw[hc k (by omega),QO t n 0 k (by omega) hk];simp[hk']
   · rw[hf k hk',BS (by unfold AU;omega)];omega
 · rw[hc _ (by omega)]
   by_cases h:C0 t n 0<n
   · rw[N3 t n 0 (by omega)];simp
   · simp[h]
theorem Zf{t:Nat→Bool}{n:Nat}:C0 t n 0=n↔∀ i,i<n→t i=false:=by
 constructor
 · intro h i hi;exact QO t n 0 i (by omega) (by omega)
 · intro h;have hle:=N6 t n 0;rcases AZ (C0 t n 0) n with h1|h1
   · have:=N3 t n 0 (by omega);rw[h _ h1] at this;cases this
   · omega
theorem cL{α:Type}{c:Int→Bool}{f:Int→Int}{p:Int→Prop}(a b:List α)(d:α)(ne:Nat→Bool)(hl:a.length=b.length)(hne:∀ i,i<a.length→(ne i=false↔a.getD i d=b.getD i d))(hn:(a.length:Int)≤9223372036854775806)(hc:∀ i:Nat,i≤a.length→c i=(decide (i<a.length)&&!ne i))(hf:∀ i:Nat,i<a.length→f i=iAdd .i64 i 1)(hp:∀ i:Nat,i≤a.length→p i) :
 LoopOk c f p 0∧(An c f 0<(a.length:Int)↔a≠b):=by
 obtain⟨h1,h2⟩:=pU a.length ne hn hc hf hp
 refine⟨h1,?_⟩
 rw[h2]
 have hle:=N6 ne a.length 0
 constructor
 · intro h hab
   subst hab;have:=N3 ne a.length 0 (by omega);rw[(hne _ (by omega)).2 rfl] at this;cases this
 · intro h
   rcases AZ (C0 ne a.length 0) a.length with h3|h3
   · omega
   · exfalso;apply h
     have h4:C0 ne a.length 0=a.length:=by omega
     rw[Zf] at h4
     refine Wk hl fun i hi hi'=>?_
     have:=(hne i hi).1 (h4 i hi);rw[Cd,Cd,Ay hi,Ay hi'] at this;simpa using this
theorem u9{α:Type}{c:Int→Bool}{f:Int→Int}{p:Int→Prop}(a b:List α)(d:α)(ne:Nat→Bool)(hl:a.length=b.length)(hne:∀ i,i<a.length→(ne i=false↔a.getD i d=b.getD i d))(hn:(a.length:Int)≤9223372036854775806)(hc:∀ i:Nat,i≤a.length→c i=(decide (i<a.length)&&!ne i))(hf:∀ i:Nat,i<a.length→f i=iAdd .i64 i 1)(hp:∀ i:Nat,i≤a.length→p i):LoopOk c f p 0:=(cL a b d ne hl hne hn hc hf hp).1
theorem wy{α:Type}{c:Int→Bool}{f:Int→Int}(a b:List α)(d:α)(ne:Nat→Bool)(hl:a.length=b.length)(hne:∀ i,i<a.length→(ne i=false↔a.getD i d=b.getD i d))(hn:(a.length:Int)≤9223372036854775806)(hc:∀ i:Nat,i≤a.length→c i=(decide (i<a.length)&&!ne i))(hf:∀ i:Nat,i<a.length→f i=iAdd .i64 i 1):An c f 0<(a.length:Int)↔a≠b:=(cL (p:=fun _=>True) a b d ne hl hne hn hc hf (fun _ _=>trivial)).2
theorem Rs{α:Type}(x:List α)(i:Nat)(d:α)(h:i<x.length):x.getD i d∈x:=by
 rw[Cd,Ay h];exact Dd h
theorem dg{X:Type}{c:X→Bool}{f:X→X}{p:X→Prop}(ix:X→Int)(n:Int)(hn:n≤9223372036854775806)(hc:∀ x,0≤ix x→ix x≤n→c x=true→ix x<n)(hf:∀ x,ix (f x)=iAdd .i64 (ix x) 1)(hp:∀ x,0≤ix x→ix x≤n→p x){x0:X}(h0:0≤ix x0)(h1:ix x0≤n):LoopOk c f p x0:=by
 refine(IE (fun x=>0≤ix x∧ix x≤n) (fun x=>(n-ix x).toNat) (fun x hI=>⟨hp x hI.1 hI.2,fun hcc=>?_⟩) ⟨h0,h1⟩).1;have:=hc x hI.1 hI.2 hcc;obtain⟨k1,k2⟩:=hI;have e:=hf x;rw[BS (by unfold AU;omega)] at e;refine⟨by omega,by omega⟩
theorem NY(x:Int×Int×Int×Int):Cl x=Ev x:=by
 simp only[Tn,jk,GJ,kI,kH,jA,AM,Aw,BL,Mi,Bi,Co,Dp,Au,Ca,DB,Df,B5,KW,As,FL,CY,s5,DP,aQ,EE,tQ,AQ,Hu];rw[Bool.eq_iff_iff]
 repeat' split
 all_goals simp only[Ah,Ce,DA,JM,Pu,DU,AX,Cc,Wx,Bool.not_eq_false,AW,OO] at *
 all_goals omega
theorem Xo(x:Int×Int×Int×Int):LB x:=by
 have h:∀ y,Hj y:=fun y=>by rw[NP];trivial
 rw[jf];simp[h]
theorem Te(x:Int×Int×Int×Int):Ka x:=by
 have h1:∀ y,LJ y:=fun y=>by rw[kD];trivial
 have h2:∀ y,Kh y:=fun y=>by rw[kt];trivial
 have h3:∀ y,Nz y:=fun y=>by rw[jM];trivial
 rw[iU];simp[h1,h2,h3]
theorem sE(a b c:Int):B3 (a,b,c)=(decide (b≤a)&&decide (a≤c)):=by rw[GJ];simp only[Aw,Df,Ca]
theorem rQ(a:Int):iAdd .i64 a 1=IntKind.i64.wrap (a+1):=by simp only[V1]
theorem pn(k:IntKind)(a:Int):iConv k a=k.wrap a:=by simp only[RG]
theorem qS(a b:Int):iRem a b=a.tmod b:=by simp only[Sr]
section
variable {α:Type} {f:α→Int→α×Int} {l:List α} {c:Nat} {m:Int}
def W0(f:α→Int→α×Int)(l:List α)(c:Nat):Prop:=∀ a∈l,∀ m:Int,0≤m→m+c≤2305843009213693952→m≤(f a m).2∧(f a m).2≤m+c
theorem aT(hf:W0 f l c)(h0:0≤m)(h1:m+(l.length*c:Nat)≤2305843009213693952)(d:α):∀ i,i≤l.length→m≤(BZ f l m i).2∧(BZ f l m i).2≤m+(i*c:Nat):=by
 intro i
 induction i with
 |zero=>intro _;rw[ZV];simp
 | succ i ih=>
   intro hi;obtain⟨h2,h3⟩:=ih (by omega);rw[N8 f l m (by omega) d];have hm:l.getD i d∈l:=Rs l i d (by omega);have hmul:(i+1)*c≤l.length*c:=FG _ (by omega);rw[CQ,HB] at hmul ⊢;obtain⟨h4,h5⟩:=hf _ hm (BZ f l m i).2 (by omega) (by omega);exact⟨by omega,by simp only;omega⟩
theorem uM(hf:W0 f l c)(h0:0≤m)(h1:m+(l.length*c:Nat)≤2305843009213693952):m≤(BO f l m).2∧(BO f l m).2≤m+(l.length*c:Nat):=by
 cases l with
 |nil=>simp[BO]
 | cons a r=>
   have:=aT hf h0 h1 a (a::r).length (AB _);rw[Oe] at this;exact this
theorem rD(f:α→Int→α×Int)(l:List α)(m:Int){i:Nat}(hi:i<l.length)(d:α):(BO f l m).1.getD i d=(f (l.getD i d) (BZ f l m i).2).1:=by
 have h1:=N8 f l m hi d
 have h2:(BZ f l m (i+1)).1.getD i d=(f (l.getD i d) (BZ f l m i).2).1:=by
  rw[h1];simp only;rw[Cd,List.getElem?_set_self (by rw[Q7];exact hi)];rfl
 rw[← h2,← Oe f l m]
 have:∀ k,i<k→k≤l.length→(BZ f l m k).1.getD i d=(BZ f l m (i+1)).1.getD i d:=by
  intro k
  induction k with
  |zero=>intro h;omega
  | succ k ih=>
    intro h h';by_cases hk:k=i
    · rw[hk]
    · rw[← ih (by omega) (by omega),N8 f l m (by omega) d];simp only[Cd];rw[List.getElem?_set_ne hk]
 exact this _ hi (AB _)
theorem pe {C:Int×Int→Bool} {F:Int×Int→Int×Int} {p:Int×Int→Prop} (hl:l.length≤1048576) (d:α)
 (hs:∀ i,i<l.length→p ((BZ f l m i).2,(i:Int))∧C ((BZ f l m i).2,(i:Int))=true∧F ((BZ f l m i).2,(i:Int))=((f (l.getD i d) (BZ f l m i).2).2,iAdd .i64 (i:Int) 1))
 (he:p ((BO f l m).2,(l.length:Int))∧C ((BO f l m).2,(l.length:Int))=false):LoopOk C F p (m,0)∧An C F (m,0)=((BO f l m).2,(l.length:Int)):=by
 have:=Dj (p:=p) (c:=C) (f:=F) l.length (fun i=>((BZ f l m i).2,(i:Int))) (x0:=(m,0)) rfl (fun k hk=>by
  obtain⟨h1,h2,h3⟩:=hs k hk;refine⟨h1,h2,?_⟩;rw[h3,N8 f l m hk d,BS (by unfold AU;omega)]
  simp) (by rw[Oe];exact he)
 simp only[Oe] at this
 exact this
end
theorem qL{i n c:Nat}(h:i<n):i*c+c≤n*c:=by
 have:=FG c (show i+1≤n from h);rw[CQ,HB] at this;exact this
theorem sy{n m c B:Nat}(h:n≤m)(e:m*c=B):n*c≤B:=e▸FG c h
theorem MG{m:Int}(h0:0≤m)(h1:m≤2305843009213693960):IntKind.i64.wrap (m+1)=m+1:=eH (by omega)
theorem cv{X:Type}{c:X→Bool}{f:X→X}{p:X→Prop}(n:Nat)(st:Nat→X)(t:Nat→Bool){x0:X}(h0:st 0=x0)(hc:∀ i,i≤n→(∀ j,j<i→t j=true)→c (st i)=(decide (i<n)&&t i))(hf:∀ i,i<n→(∀ j,j≤i→t j=true)→f (st i)=st (i+1))(hp:∀ i,i≤n→(∀ j,j<i→t j=true)→p (st i)) :
 LoopOk c f p x0∧∃ k,k≤n∧An c f x0=st k∧(k=n↔∀ i,i<n→t i=true):=by
 have hle:=N6 (fun i=>!t i) n 0
 have hno:∀ j,j<C0 (fun i=>!t i) n 0→t j=true:=fun j hj=>by
  have:=QO (fun i=>!t i) n 0 j (by omega) hj;simpa using this
 have:=Dj (c:=c) (f:=f) (p:=p) (C0 (fun i=>!t i) n 0) st h0 (fun k hk=>by
  refine⟨hp k (by omega) (fun j hj=>hno j (by omega)),?_,hf k (by omega) (fun j hj=>hno j (by omega))⟩;rw[hc k (by omega) (fun j hj=>hno j (by omega)),hno k hk]
  have:k<n:=by omega
  simp[this]) ⟨hp _ (by omega) hno,by
  rw[hc _ (by omega) hno];by_cases h:C0 (fun i=>!t i) n 0<n
  · have:=N3 (fun i=>!t i) n 0 (by omega);simp only[DA] at this;rw[this];simp
  · simp[h]⟩
 refine⟨this.1,_,by omega,this.2,?_⟩
 rw[Zf]
 simp
theorem Ra{α:Type}(x:List α)(d:α){i:Nat}(h:i<x.length):x.take i++[x.getD i d]=x.take (i+1):=by
 rw[Sx,Cd,Ay h];rfl
theorem tC{n:Int}(h0:0≤n)(h1:n<256):IntKind.u8.wrap n=n:=by
 simp only[IntKind.wrap,IntKind.bits,IntKind.signed,HF,AD,AL];omega
theorem cK{n:Int}(h0:0≤n)(h1:n<256):iConv .u8 n=n:=by rw[RG];exact tC h0 h1
theorem qY{n:Int}(h0:0≤n)(h1:n<9223372036854775808):iConv .i64 n=n:=oT (by unfold AU;omega)
theorem sx{a b:Nat}(ha:a<9223372036854775808)(hb:b<9223372036854775808):iAnd .i64 (a:Int) (b:Int)=((a &&& b:Nat):Int):=by
 have e:(BitVec.ofInt 64 (a:Int) &&& BitVec.ofInt 64 (b:Int)).toNat=a &&& b:=by
  rw[BitVec.ofInt_natCast,BitVec.ofInt_natCast,BitVec.toNat_and,BitVec.toNat_ofNat,BitVec.toNat_ofNat,Nat.mod_eq_of_lt (by omega),Nat.mod_eq_of_lt (by omega)]
 have h:a &&& b≤a:=Nat.and_le_left;rw[dX];show IntKind.i64.wrap ((BitVec.ofInt 64 (a:Int) &&& BitVec.ofInt 64 (b:Int)).toNat:Int)=_;rw[e];exact wrap_i64 (by unfold AU;omega)
theorem uf(a k:Nat)(h:k≤64):iShr .i64 (a:Int) (k:Int)=((a / 2^k:Nat):Int):=by
 rw[et];show Int.fdiv (a:Int) (2^min (k:Int).toNat 64)=_;rw[Bp,Nat.min_eq_left h,Int.fdiv_eq_ediv_of_nonneg _ (by exact_mod_cast FI _)];norm_cast
def Bytes(x:List Int):Prop:=∀ a∈x,0≤a∧a<256
theorem Bytes.get{x:List Int}(h:Bytes x)(i:Nat):∃ n:Nat,n<256∧x.getD i 0=(n:Int):=by
 by_cases hi:i<x.length
 · obtain⟨h0,h1⟩:=h _ (Rs x i 0 hi);exact⟨(x.getD i 0).toNat,by omega,by omega⟩
 · exact⟨0,by omega,by rw[Cd,Bg (by omega)];rfl⟩
theorem Bytes.of{x:List Int}(h:CT.wf (.sl (.one (.int .u8))) x):Bytes x:=by
 intro a ha;have:=h.2 a ha;simp only[RT.wf,CT.wf] at this
 have h:IntKind.u8.min≤a∧a≤IntKind.u8.max:=by simpa [Lit.wf] using this
 have e1:IntKind.u8.min=0:=by decide
 have e2:IntKind.u8.max=255:=by decide
 rw[e1,e2] at h;omega
def RepOk(x:Int×List Int):Prop:=(0≤x.1∧x.1≤15)∧∀ i,i<x.2.length→(1≤x.2.getD i 0∧x.2.getD i 0≤56)∧(0<i→x.2.getD (i-1) 0<x.2.getD i 0)
theorem RepOk.code{x:Int×List Int}(h:RepOk x)(i:Nat)(hi:i<x.2.length):(i:Int)+1≤x.2.getD i 0:=by
 induction i with
 |zero=>have:=(h.2 0 hi).1;omega
 | succ i ih=>
   have h1:=ih (by omega);have h2:=(h.2 (i+1) hi).2 (by omega);rw[Nat.add_sub_cancel] at h2;omega
theorem RepOk.len{x:Int×List Int}(h:RepOk x):x.2.length≤56:=by
 rcases AZ 56 x.2.length with h1|h1
 · have h2:=h.code 56 h1;have h3:=(h.2 56 h1).1;omega
 · exact h1
section
set_option maxRecDepth 20000
theorem Ho{n:Nat}(h:n≤1048577000):A5 n:=by unfold A5;exact Dq h (by decide)
theorem IG(s:List UInt8)(j:Int):sGet s j=((s.getD j.toNat 0).toNat:Int):=by simp only[dz]
theorem KD(s:List UInt8):sRow s=s.map fun b=>((b.toNat:Nat):Int):=by simp only[dF]
theorem VE(l:List Int):rowS l=l.map fun n=>UInt8.ofNat n.toNat:=by simp only[eg]
theorem oD(s:List UInt8):rowS (sRow s)=s:=by
 rw[KD,VE,List.map_map]
 conv=>rhs;rw[← List.map_id s]
 apply List.map_congr_left;intro b _;simp
theorem bJ(a b:List UInt8):sRow (a++b)=sRow a++sRow b:=by rw[KD,KD,KD,EO]
theorem bq(a:List UInt8):(sRow a).length=a.length:=by rw[KD,AF]
def BW:List UInt8→Int→List (List UInt8)
 |[],_=>[[]]
 |b::r,c=>if (b.toNat:Int)=c then []::BW r c else match BW r c with|[]=>[[b]]|w::ws=>(b::w)::ws
theorem NZ:∀ (s:List UInt8) (c:Int),(∀ b∈s,(b.toNat:Int)≠c)→BW s c=[s]
 |[],_,_=>rfl
 | b::r,c,h=>by
   have e:=NZ r c (fun x hx=>h x (by simp[hx]))
   simp[BW,h b (by simp),e]
theorem Q6:∀ (a:List UInt8) (b:UInt8) (r:List UInt8) (c:Int),(∀ x∈a,(x.toNat:Int)≠c)→(b.toNat:Int)=c→BW (a++b::r) c=a::BW r c
 |[],b,r,c,_,h=>by simp[BW,h]
 | x::a,b,r,c,ha,h=>by
   have e:=Q6 a b r c (fun y hy=>ha y (by simp[hy])) h
   simp[BW,ha x (by simp),e]
theorem Zq{s:List UInt8}{F I:Nat}(h:F≤I)(hI:I<s.length):s.drop F=(s.drop F).take (I-F)++s.getD I 0::s.drop (I+1):=by
 rw[Cd,Ay hI,Hw]
 conv=>lhs;rw[← List.take_append_drop (I-F) (s.drop F)]
 rw[List.drop_drop,show F+(I-F)=I by omega,MB hI]
theorem Of(s:List UInt8)(c:Int)(h:s.length≤1048576):Ig (s,c)∧Al (s,c)=BW s c:=by
 rw[iw,hF]
 have key:=IE (c:=Na (s,c)) (f:=PR (s,c)) (p:=Tb (s,c))
  (fun st=>∃ (out:List (List UInt8)) (F I:Nat),st=(out,(F:Int),(I:Int))∧out.length≤I∧((F≤I∧I≤s.length∧(∀ b∈(s.drop F).take (I-F),(b.toNat:Int)≠c)∧BW s c=out++BW (s.drop F) c)∨(I=s.length+1∧BW s c=out)))
  (fun st=>s.length+1-st.2.2.toNat) (fun st hI=>?_) (x0:=([],0,0)) ⟨[],0,0,rfl,by simp,.inl ⟨AB _,FI _,by simp,rfl⟩⟩
 · obtain⟨k1,⟨out,F,I,e,_,hh⟩,k2⟩:=key;refine⟨k1,?_⟩;rw[e] at k2 ⊢;simp only[Na,Ca,As,Cc] at k2;rcases hh with⟨_,h1,_⟩|⟨_,h1⟩
   · omega
   · exact h1.symm
 · obtain⟨out,F,I,rfl,hl,hh⟩:=hI;simp only[Na,PR,Tb,Ca,Co,As,AQ,Bp,DP,EE,IG,BL,Bi,AX,Cc,AP,AO]
   have ha:iAdd .i64 (I:Int) 1=((I+1:Nat):Int):=by
    rw[BS (by unfold AU;rcases hh with⟨_,h1,_⟩|⟨h1,_⟩<;>omega)];rfl
   rw[ha];rcases hh with⟨hFI,hIl,hfree,hs⟩|⟨hI1,hs⟩
   · refine⟨⟨fun _=>⟨⟨fun _=>trivial,fun hne=>⟨by omega,by omega⟩⟩,fun _=>⟨⟨⟨by omega,by omega⟩,by omega,by omega⟩,Ho (by omega)⟩,fun _=>trivial⟩,fun _=>trivial⟩,fun _=>?_⟩;by_cases hlt:I<s.length
     · have hne:decide ((I:Int)=(s.length:Int))=false:=Cz (by omega);rw[hne,Bool.false_or];by_cases hc:((s.getD I 0).toNat:Int)=c
       · simp only[hc,decide_true,AA];refine⟨⟨_,I+1,I+1,rfl,by simp;omega,.inl ⟨AB _,by omega,by simp,?_⟩⟩,by simp only[Bp];omega⟩;rw[hs]
         conv=>lhs;rw[Zq hFI hlt,Q6 _ _ _ _ hfree hc]
         simp
       · simp only[hc,decide_false,AD,AL];refine⟨⟨_,F,I+1,rfl,by omega,.inl ⟨by omega,by omega,fun b hb=>?_,hs⟩⟩,by simp only[Bp];omega⟩
         have e:(s.drop F).take (I+1-F)=(s.drop F).take (I-F)++[s.getD I 0]:=by
          rw[show I+1-F=(I-F)+1 by omega,Sx,IW,show F+(I-F)=I by omega,Ay hlt,Cd,Ay hlt];rfl
         rw[e,C3,List.mem_singleton] at hb;rcases hb with hb|rfl
         · exact hfree b hb
         · exact hc
     · have e:I=s.length:=by omega
       subst e;simp only[decide_true,Bool.true_or,AA];refine⟨⟨_,s.length+1,s.length+1,rfl,by simp;omega,.inr ⟨rfl,?_⟩⟩,by simp only[Bp];omega⟩;have e2:(s.drop F).take (s.length-F)=s.drop F:=KU (by rw[KL];exact AB _);rw[e2] at hfree ⊢;rw[hs,NZ _ _ hfree]
   · subst hI1;refine⟨⟨fun hh=>by omega,fun _=>trivial⟩,fun hh=>by omega⟩
theorem l8:BW Rc 32=Cm:=by decide
theorem Zr:Qk PUnit.unit∧LH PUnit.unit=Cm:=by
 rw[jy,jH];have:=Of Rc 32 (by decide);rw[l8] at this;exact this
theorem Qq:D8 ([97,32,98,32,99,32,100,32,101,32,102,32,103,32,104,32,105,32,106,32,107,32,108,32,109,32,110,32,111,32,112,32,113,32,114,32,115,32,116,32,117,32,118,32,119,32,120,32,121,32,122,32,49,32,50,32,51,32,52,32,53,32,54,32,55,32,56,32,57,32,48,32,101,110,116,101,114,32,101,115,99,32,98,97,99,107,32,116,97,98,32,115,112,97,99,101,32,109,105,110,117,115,32,101,113,117,97,108,32,108,101,102,116,32,114,105,103,104,116,32,117,112,32,100,111,119,110,32,102,49,32,102,50,32,102,51,32,102,52,32,102,53,32,102,54,32,102,55,32,102,56,32,102,57],[32])=Cm:=by
 rw[XF]
 have e:Lib.split Rc [32]=Cm:=by kernel_rfl
 exact e
theorem Yt:Je ([97,32,98,32,99,32,100,32,101,32,102,32,103,32,104,32,105,32,106,32,107,32,108,32,109,32,110,32,111,32,112,32,113,32,114,32,115,32,116,32,117,32,118,32,119,32,120,32,121,32,122,32,49,32,50,32,51,32,52,32,53,32,54,32,55,32,56,32,57,32,48,32,101,110,116,101,114,32,101,115,99,32,98,97,99,107,32,116,97,98,32,115,112,97,99,101,32,109,105,110,117,115,32,101,113,117,97,108,32,108,101,102,116,32,114,105,103,104,116,32,117,112,32,100,111,119,110,32,102,49,32,102,50,32,102,51,32,102,52,32,102,53,32,102,54,32,102,55,32,102,56,32,102,57],[32])=True:=by
 rw[XB]
 have e:Rc.length<4294967281∧1≤([32]:List UInt8).length:=by decide
 exact eq_true e
theorem NN(k:Int):Jf k∧Kc k∧Hh k=Bv k∧(Bv k).length≤5:=by
 obtain⟨n1,n2⟩:=Zr;have hl:Cm.length=56:=rfl
 have hw:∀ w∈Cm,w.length≤5:=by decide
 rw[iZ,jm,Qh,je,n2,Qq,Yt];simp only[NP,GJ,AM,Aw,BL,Bi,Df,Ca,Au,DB,CY,AQ,hl];by_cases h:1≤k∧k≤56
 · have e:iSub .i64 k 1=k-1:=U8 (by unfold AU;omega);rw[e];have d1:decide (1≤k)=true:=BI h.1;have d2:decide (k≤56)=true:=BI h.2;have d3:decide (k<1)=false:=Cz (by omega);have d4:decide (56<k)=false:=Cz (by omega);simp only[d1,d2,d3,d4];refine⟨⟨trivial,fun h=>(by cases h),fun _=>⟨n1,⟨by omega,by omega⟩,by omega⟩⟩,⟨fun h=>(by cases h),fun _=>⟨trivial,⟨by omega,by omega⟩,by omega⟩⟩,rfl,?_⟩;show (Cm.getD (k-1).toNat []).length≤5;rw[Cd,Ay (show (k-1).toNat<Cm.length by omega)];exact hw _ (Dd _)
 · have d:(decide (1≤k)&&decide (k≤56))=false:=by
    rw[Pu,Cc,Cc];omega
   have d':(decide (k<1)||decide (56<k))=true:=by
    rw[Ce,AX,AX];omega
   simp only[d,d'];exact⟨⟨trivial,fun _=>trivial,fun h=>(by cases h)⟩,⟨fun _=>trivial,fun h=>(by cases h)⟩,rfl,by simp⟩
def W1(m:Int)(k:Nat):Bool:=iEq (iAnd .i64 (iShr .i64 m (k:Int)) 1) 1
def fm(m:Int):Nat→List UInt8
 |0=>[]
 |k+1=>if W1 m k then fm m k++[([67,83,65,71]:List UInt8).getD k 0] else fm m k
theorem O5(m:Int):∀ k,(fm m k).length≤k
 |0=>AB _
 | k+1=>by
   unfold fm
   split
   · simp;exact O5 m k
   · exact Nat.le_succ_of_le (O5 m k)
theorem UZ(m:Int):Jb m∧Ja m∧Fl m=BP m∧BP m=(if 1≤m∧m≤15 then fm m 4 else []):=by
 rw[gI,gQ,gX,gN];by_cases h:1≤m∧m≤15
 · have d1:B3 (m,1,15)=true:=by simp only[GJ,Aw,Df,Ca];simp[h.1,h.2]
   have d2:bOr (iLt m 1) (iGt m 15)=false:=by simp only[BL,Au,DB,DU,Cc];omega
   have hk:∀ k:Nat,k<4→k=0∨k=1∨k=2∨k=3:=fun k hk=>by omega
   have ad:∀ k:Nat,k<4→iAdd .i64 (k:Int) 1=((k+1:Nat):Int):=fun k hk=>by rw[BS (by unfold AU;omega)];rfl
   have sub:∀ k:Nat,k<4→lSub ([67,83,65,71]:List UInt8) k (k+1)=[([67,83,65,71]:List UInt8).getD k 0]:=fun k h4=>by
    rw[DP];rcases hk k h4 with rfl|rfl|rfl|rfl<;>rfl
   have gt:∀ k:Nat,k<4→lGet ([[67],[83],[65],[71]]:List (List UInt8)) k []=[([67,83,65,71]:List UInt8).getD k 0]:=fun k h4=>by
    rw[CY];rcases hk k h4 with rfl|rfl|rfl|rfl<;>rfl
   have L1:=Dj (c:=J4 m) (f:=M8 m) (p:=Lt m) 4 (fun k=>(fm m k,(k:Int))) (x0:=([],0)) rfl (fun k h4=>by
    have i4:iLt (k:Int) 4=true:=by rw[Au];exact BI (by omega)
    have len:=O5 m k;simp only[J4,M8,Lt,d1,i4,ad k h4,sub k h4,Aw,Cw,NP,AQ,Bp,AP,AO];refine⟨⟨⟨fun _=>trivial,fun h=>(by cases h)⟩,fun _=>⟨by omega,fun _=>⟨⟨⟨by omega,by omega⟩,by omega,by omega⟩,by omega⟩,fun _=>trivial⟩,fun h=>(by cases h)⟩,trivial,?_⟩;rw[fm,Bi,Hu]
    rfl) (by
    have i4:iLt ((4:Nat):Int) 4=false:=by rw[Au];rfl
    simp only[J4,Lt,i4,Aw,HF]
    exact⟨⟨⟨fun h=>(by cases h),fun _=>trivial⟩,fun h=>(by cases h),fun _=>trivial⟩,trivial⟩)
   have L2:=Dj (c:=M7) (f:=PO m) (p:=PN m) 4 (fun k=>(fm m k,(k:Int))) (x0:=([],0)) rfl (fun k h4=>by
    have i4:iLt (k:Int) (lLen ([[67],[83],[65],[71]]:List (List UInt8)))=true:=by rw[Au,As];exact BI (by simp;omega)
    have len:=O5 m k;simp only[M7,PO,PN,i4,ad k h4,gt k h4,mz,l9,AQ,Bp,AP,AO];refine⟨⟨fun _=>⟨⟨by omega,by omega⟩,by omega,by omega,fun _=>by omega,fun _=>trivial⟩,fun h=>(by cases h)⟩,trivial,?_⟩;rw[fm,Bi,Hu]
    rfl) (by
    have i4:iLt ((4:Nat):Int) (lLen ([[67],[83],[65],[71]]:List (List UInt8)))=false:=by rw[Au,As];rfl
    simp only[M7,PN,i4]
    exact⟨⟨fun h=>(by cases h),fun _=>trivial⟩,trivial⟩)
   rw[L1.2,L2.2,d2];exact⟨L1.1,⟨fun h=>(by cases h),fun _=>L2.1⟩,by rw[Bi];rfl,by rw[Ab h]⟩
 · have d1:B3 (m,1,15)=false:=by
    simp only[GJ,Aw,Df,Ca,Pu,Cc];omega
   have d2:bOr (iLt m 1) (iGt m 15)=true:=by simp only[BL,Au,DB,Ce,AX];omega
   have L1:=Dj (c:=J4 m) (f:=M8 m) (p:=Lt m) 0 (fun _=>([],0)) (x0:=([],0)) rfl (fun k h=>by omega) (by
    simp only[J4,Lt,d1,Aw,Bool.and_false,NP]
    exact⟨⟨⟨fun _=>trivial,fun _=>trivial⟩,fun h=>(by cases h),fun _=>trivial⟩,trivial⟩)
   rw[L1.2,d2];exact⟨L1.1,⟨fun _=>trivial,fun h=>(by cases h)⟩,by rw[Bi];rfl,by rw[Ad h]⟩
theorem Rz(m:Int):Jb m∧Ja m∧Fl m=BP m∧(BP m).length≤4:=by
 obtain⟨a,b,c,d⟩:=UZ m;refine⟨a,b,c,?_⟩;rw[d];split
 · exact O5 m 4
 · simp
theorem Z1(sep x:List UInt8):∀ (l:List (List UInt8)),Bt (l++[x]) sep=if l=[] then x else Bt l sep++sep++x
 |[]=>by simp[Bt,List.intercalate]
 |[a]=>by simp[Bt,List.intercalate]
 | a::b::r=>by
   have:=Z1 sep x (b::r)
   simp only[Bt,List.intercalate,Cf,List.intersperse,Gg,reduceCtorEq,AL] at this ⊢
   rw[this]
   simp
theorem U2(sep:List UInt8)(W:Nat):∀ (l:List (List UInt8)),(∀ w∈l,w.length+sep.length≤W)→(Bt l sep).length≤l.length*W
 |[],_=>by simp[Bt,List.intercalate]
 | [a],h=>by
   have:=h a (by simp)
   simp[Bt,List.intercalate];omega
 | a::b::r,h=>by
   have i:=U2 sep W (b::r) (fun w hw=>h w (by simp[hw]))
   have:=h a (by simp)
   simp only[Bt,List.intercalate,List.intersperse,Gg,CD,AP] at i ⊢
   rw[CQ (r.length+1) 1 W]
   omega
theorem pO(xs:List (List UInt8))(sep:List UInt8)(hl:xs.length≤1048576)(hw:∀ w∈xs,w.length+sep.length≤1000):Nk (xs,sep)∧Nx (xs,sep)=Bt xs sep:=by
 rw[ji,jd]
 have tl:∀ k,(Bt (xs.take k) sep).length≤1048576000:=fun k=>by
  have h1:=U2 sep 1000 (xs.take k) (fun w hw'=>hw w (KI hw'))
  have h2:(xs.take k).length≤1048576:=by rw[EM];omega
  exact Dq h1 (Nat.mul_le_mul h2 (AB _))
 have L:=Dj (c:=Nf (xs,sep)) (f:=P6 (xs,sep)) (p:=P1 (xs,sep)) xs.length (fun k=>(sRow (Bt (xs.take k) sep),(k:Int))) (x0:=([],0)) (by simp[Bt,List.intercalate,KD]) (fun k hk=>by
  have i1:iLt (k:Int) (lLen xs)=true:=by rw[Au,As];exact BI (by omega)
  have ad:iAdd .i64 (k:Int) 1=((k+1:Nat):Int):=by rw[BS (by unfold AU;omega)];rfl
  have gk:lGet xs k []=xs.getD k []:=CY _ _ _
  have hwk:(xs.getD k []).length+sep.length≤1000:=by
   rw[Cd,Ay hk];exact hw _ (Dd _)
  have tk:=tl k
  have sn:Bt (xs.take (k+1)) sep=if xs.take k=[] then xs.getD k [] else Bt (xs.take k) sep++sep++xs.getD k []:=by
   rw[← Ra xs [] hk,Z1]
  simp only[Nf,P6,P1,i1,ad,gk,EE,AQ,Bp,bq,CD];refine⟨⟨fun _=>⟨⟨fun _=>Ho (by omega),fun _=>trivial⟩,⟨by omega,by omega⟩,hk,?_⟩,fun h=>(by cases h)⟩,trivial,?_⟩
  · refine Ho ?_;rw[Bi];split<;>simp only[CD,bq]<;>omega
  · rw[sn,Bi,DB];rcases KT k with rfl|h0
    · simp[KD,Bt,List.intercalate]
    · have h1:xs.take k≠[]:=fun e=>by
       have:=congrArg List.length e;rw[EM,AO] at this;omega
      have h2:decide ((0:Int)<(k:Int))=true:=BI (by omega)
      rw[Ad h1,h2,Ab rfl,bJ,bJ]) (by
  have i1:iLt (xs.length:Int) (lLen xs)=false:=by rw[Au,As];exact Cz (by omega)
  simp only[Nf,P1,i1]
  exact⟨⟨fun h=>(by cases h),fun _=>trivial⟩,trivial⟩)
 rw[L.2,IP,oD];exact⟨L.1,rfl⟩
theorem bN(xs:List (List UInt8))(sep:List UInt8)(hl:xs.length≤1048576)(hw:∀ w∈xs,w.length+sep.length≤100):Nk (xs,sep)∧Nx (xs,sep)=Bt xs sep:=pO xs sep hl fun w h=>Dq (hw w h) (by decide)
end
section
set_option maxRecDepth 20000
theorem l7(s:List UInt8)(c:Int)(h:s.length≤1048576):P9 (s,c)∧Bu (s,c)=BW s c:=by
 rw[iB,ia]
 have key:=IE (c:=He (s,c)) (f:=H4 (s,c)) (p:=Td (s,c))
  (fun st=>∃ (out:List (List UInt8)) (F I:Nat),st=(out,(F:Int),(I:Int))∧out.length≤I∧F≤I∧I≤s.length∧(∀ b∈(s.drop F).take (I-F),(b.toNat:Int)≠c)∧BW s c=out++BW (s.drop F) c)
  (fun st=>s.length-st.2.2.toNat) (fun st hI=>?_) (x0:=([],0,0)) ⟨[],0,0,rfl,by simp,AB _,FI _,by simp,rfl⟩
 · obtain⟨k1,⟨out,F,I,e,hl,hFI,hIl,hfree,hs⟩,k2⟩:=key;rw[e] at k2 ⊢;simp only[He,Au,As,Cc] at k2
   have e2:I=s.length:=by omega
   subst e2;simp only[DP,FL,EE,AQ,Bp,AP,AO];have e2:(s.drop F).take (s.length-F)=s.drop F:=KU (by rw[KL];exact AB _);rw[e2] at hfree ⊢;exact⟨⟨k1,⟨by omega,hFI,AB _⟩,Ho (by omega)⟩,by rw[hs,NZ _ _ hfree]⟩
 · obtain⟨out,F,I,rfl,hl,hFI,hIl,hfree,hs⟩:=hI;simp only[He,H4,Td,Au,Co,As,AQ,Bp,DP,EE,IG,Bi,AX,Cc,AP,AO]
   have ha:iAdd .i64 (I:Int) 1=((I+1:Nat):Int):=by rw[BS (by unfold AU;omega)];rfl
   rw[ha];refine⟨⟨fun hlt=>⟨⟨by omega,by omega⟩,fun _=>⟨⟨⟨by omega,by omega⟩,by omega,by omega⟩,Ho (by omega)⟩,fun _=>trivial⟩,fun _=>trivial⟩,fun hlt=>?_⟩
   have hlt:I<s.length:=by omega
   by_cases hc:((s.getD I 0).toNat:Int)=c
   · simp only[hc,AA];refine⟨⟨_,I+1,I+1,rfl,by simp;omega,AB _,by omega,by simp,?_⟩,by simp only[Bp];omega⟩;rw[hs]
     conv=>lhs;rw[Zq hFI hlt,Q6 _ _ _ _ hfree hc]
     simp
   · simp only[hc,AL];refine⟨⟨_,F,I+1,rfl,by omega,by omega,by omega,fun b hb=>?_,hs⟩,by simp only[Bp];omega⟩
     have e:(s.drop F).take (I+1-F)=(s.drop F).take (I-F)++[s.getD I 0]:=by
      rw[show I+1-F=(I-F)+1 by omega,Sx,IW,show F+(I-F)=I by omega,Ay hlt,Cd,Ay hlt];rfl
     rw[e,C3,List.mem_singleton] at hb;rcases hb with hb|rfl
     · exact hfree b hb
     · exact hc
theorem ZA:∀ (s:List UInt8) (c:Int),(BW s c).length≤s.length+1
 |[],_=>by simp[BW]
 | b::r,c=>by
   have:=ZA r c
   unfold BW
   split
   · simp;omega
   · split<;>simp_all<;>omega
theorem Zu(s:List UInt8)(c:Int):0<(BW s c).length:=by
 cases s with
 |nil=>simp[BW]
 |cons b r=>unfold BW;split<;>(try split)<;>simp
theorem Rv:∀ (s:List UInt8) (b:UInt8),b ∉ s∨∃ x y,s=x++b::y∧b ∉ x
 |[],b=>.inl (by simp)
 | z :: r,b=>by
   by_cases h:z=b
   · subst h;exact .inr ⟨[],r,rfl,by simp⟩
   · rcases Rv r b with h1|⟨x,y,rfl,h2⟩
     · exact .inl (by simp[h1,EH h])
     · exact .inr ⟨z::x,y,rfl,by simp[h2,EH h]⟩
theorem Yx:∀ (s:List UInt8) (b:UInt8),b ∉ s→Lib.indexByte s b=-1
 |[],_,_=>rfl
 | z::r,b,h=>by
   have h1:z≠b:=fun e=>h (by simp[e])
   have h2:=Yx r b (fun e=>h (by simp[e]))
   unfold Lib.indexByte
   rw[Ad (by simpa using h1),h2];rfl
theorem YQ:∀ (x y:List UInt8) (b:UInt8),b ∉ x→Lib.indexByte (x++b::y) b=(x.length:Int)
 |[],y,b,_=>by simp[Lib.indexByte]
 | z::x,y,b,h=>by
   have h1:z≠b:=fun e=>h (by simp[e])
   have h2:=YQ x y b (fun e=>h (by simp[e]))
   rw[Cf]
   unfold Lib.indexByte
   rw[Ad (by simpa using h1),h2,Ad (by simp<;>omega),AP]
   try rfl
theorem L6(s:List UInt8)(b:UInt8)(h:b ∉ s):Jg (s,[b])∧Ax (s,[b])=(s,[],false):=by
 have hi:DI (s,[b])=-1:=by rw[S5];exact Yx s b h
 have ho:I8 (s,[b]):=by rw[S6];rfl
 have e:iGe (-1) 0=false:=by rw[Df];rfl
 rw[Yr,Yy,Xa,Xb,hi,e,AN];exact⟨⟨ho,fun h=>(by cases h),fun _=>trivial⟩,rfl⟩
theorem JD(x y:List UInt8)(b:UInt8)(h:b ∉ x)(hl:(x++b::y).length≤1048576):Jg (x++b::y,[b])∧Ax (x++b::y,[b])=(x,y,true):=by
 have hi:DI (x++b::y,[b])=(x.length:Int):=by rw[S5];exact YQ x y b h
 have ho:I8 (x++b::y,[b]):=by rw[S6];rfl
 have e:iGe (x.length:Int) 0=true:=by rw[Df];exact BI (by omega)
 rw[CD,AP] at hl
 have ad:iAdd .i64 (x.length:Int) (lLen [b])=((x.length+1:Nat):Int):=by
  rw[As,BS (by unfold AU;simp only[AP,AO];omega)];rfl
 rw[Yr,Yy,Xa,Xb,hi,e,AR];simp only[ad,AQ,Bp,DP,FL,CD,AP];refine⟨⟨ho,fun _=>⟨⟨by omega,by omega,by omega⟩,by omega,by omega,by omega⟩,fun h=>(by cases h)⟩,?_⟩
 have e1:((x++b::y).drop 0).take (x.length-0)=x:=by simp
 have e2:(x++b::y).drop (x.length+1)=y:=by
  rw[← List.drop_drop,List.drop_left];rfl
 rw[e1,e2,KU (by omega)]
theorem LO(k:Nat)(h:k<56):Bv ((k:Int)+1)=Cm.getD k []:=by
 obtain⟨_,n2⟩:=Zr;rw[Qh,n2]
 have e:iSub .i64 ((k:Int)+1) 1=(k:Int):=by rw[U8 (by unfold AU;omega)];omega
 have d:B3 ((k:Int)+1,1,56)=true:=by
  simp only[GJ,Aw,Df,Ca,Ah,AX];omega
 rw[e,d,AM,Bi,CY,AQ];rfl
def C6(x:List UInt8):Nat:=Cm.findIdx (· == x)
theorem V4(x:List UInt8):C6 x≤56:=List.findIdx_le_length
theorem Wl(x:List UInt8){k:Nat}(h:k<C6 x):Cm.getD k []≠x:=by
 have hl:Cm.length=56:=rfl;have h56:=V4 x
 have hk:k<Cm.length:=by omega
 have:=List.not_of_lt_findIdx h;rw[Cd,Ay hk];simpa using this
theorem V3(x:List UInt8)(h:C6 x<56):Cm.getD (C6 x) []=x:=by
 have hl:Cm.length=56:=rfl
 have hk:C6 x<Cm.length:=by omega
 have:=List.findIdx_getElem (w:=hk);rw[Cd,Ay hk];exact eq_of_beq this
theorem N2(x:List UInt8):Jh x∧Ji x∧GF x=Cu x:=by
 have hl:Cm.length=56:=rfl;have h56:=V4 x;rw[ku,kJ,Yq,kC,Yt]
 have L1:=Dj (c:=Ij x) (f:=J9) (p:=Kb) (C6 x) (fun k=>(k:Int)+1) (x0:=1) rfl (fun k hk=>by
  have i1:iLe ((k:Int)+1) 56=true:=by rw[Ca];exact BI (by omega)
  have i2:sEq (Bv ((k:Int)+1)) x=false:=by rw[LO k (by omega),B5];simpa using Wl x hk
  simp only[Ij,J9,Kb,i1,i2,Aw,AM]
  exact⟨⟨fun _=>(NN _).1,fun h=>(by cases h)⟩,rfl,by rw[BS (by unfold AU;omega)];simp⟩) (by
  simp only[Ij,Kb,Aw,AM];refine⟨⟨fun _=>(NN _).1,fun _=>trivial⟩,?_⟩;rcases AZ (C6 x) 56 with h|h
  · rw[LO _ h,V3 x h,B5];simp
  · have i1:iLe ((C6 x:Int)+1) 56=false:=by rw[Ca];exact Cz (by omega)
    rw[i1];rfl)
 have L2:=Dj (c:=LA x) (f:=Ns) (p:=Qg) (C6 x) (fun k=>(k:Int)) (x0:=0) rfl (fun k hk=>by
  have i2:sEq (lGet Cm k []) x=false:=by rw[CY,B5];simpa using Wl x hk
  simp only[LA,Ns,Qg,Qq,AQ,Bp,i2,Aw,AM,Au,As,hl]
  exact⟨⟨fun _=>⟨⟨by omega,by omega⟩,by omega⟩,fun _=>trivial⟩,by simp;omega,by rw[BS (by unfold AU;omega)];simp⟩) (by
  simp only[LA,Qg,Qq,AQ,Bp,Aw,AM,Au,As,hl,CY,B5,AX];refine⟨⟨fun h=>⟨⟨by omega,by omega⟩,by omega⟩,fun _=>trivial⟩,?_⟩;rcases AZ (C6 x) 56 with h|h
  · rw[V3 x h];simp
  · simp;omega)
 rw[L1.2,L2.2];refine⟨L1.1,⟨trivial,L2.1⟩,?_⟩;rw[Qq,Au,Ca,As,hl,Bi,Bi,BS (by unfold AU;omega)];rcases AZ (C6 x) 56 with h|h
 · rw[Ab (BI (by omega)),Ab (BI (by omega))]
 · rw[Ad (by simp;omega),Ad (by simp;omega)]
theorem NM(x:List UInt8):J7 x∧J8 x∧Jd x=DK x:=by
 have ec:M9 x=Gs x:=by
  funext m;simp only[M9,Gs,(Rz m).2.2.1]
 have ef:PQ=H7:=rfl
 have key:∀ {p:Int→Prop},(∀ m,p m)→LoopOk (Gs x) H7 p 1:=fun hp=>
  (IE (fun st=>1≤st∧st≤16) (fun st=>(16-st).toNat) (fun st hI=>⟨hp st,fun hc=>by
   simp only[Gs,Aw,Ca,Ah,AX] at hc;rw[show H7 st=st+1 by unfold H7;exact BS (by unfold AU;omega)]
   omega⟩) (by omega)).1
 rw[iA,gZ,Xx,iG,ec,ef];exact⟨key fun m=>⟨fun _=>(Rz m).1,fun _=>trivial⟩,key fun m=>⟨fun _=>(Rz m).2.1,fun _=>trivial⟩,rfl⟩
end
section
set_option maxRecDepth 20000
theorem Jn(n:Nat)(h:n<10):Lib.decDigits n=[UInt8.ofNat (48+n)]:=by
 unfold Lib.decDigits;rw[dif_pos h]
theorem kT(n:Int)(h0:0≤n)(h1:n≤3):Gv n∧Ib n∧Fm n=C7 n∧(C7 n).length≤1:=by
 obtain⟨k,rfl⟩:∃ k:Nat,n=k:=⟨n.toNat,by omega⟩
 have hk:k=0∨k=1∨k=2∨k=3:=by omega
 have ei:Fm (k:Int)=[UInt8.ofNat (48+k)]:=by
  rw[Xw,TB];unfold Lib.itoa;rw[Ad (by omega),Bp,Jn k (by omega)]
 have oi:Ib (k:Int):=by rw[Xu,TA];omega
 rw[ei]
 have hne:iNe (0:Int) 0=false:=by rw[Dp];rfl
 rw[Xt,Xy];rcases KT k with rfl|hp
 · have e:iEq ((0:Nat):Int) 0=true:=by rw[Co];rfl
   rw[e,AR];exact⟨⟨fun _=>trivial,fun h=>(by cases h)⟩,oi,rfl,by simp⟩
 · have e:iEq (k:Int) 0=false:=by rw[Co];exact Cz (by omega)
   have e2:iLt (k:Int) 0=false:=by rw[Au];exact Cz (by omega)
   have e3:iNe (k:Int) 0=true:=by rw[Dp];simp;omega
   have hr:iRem (k:Int) 10=(k:Int):=by rw[tv (by omega)];omega
   have hq:iQuo .i64 (k:Int) 10=0:=by rw[qX (by omega) (by unfold AU;omega)];omega
   have hd:rowS [iConv .u8 (iAdd .i64 48 (bSel (iLt (iRem (k:Int) 10) 0) (iNeg .i64 (iRem (k:Int) 10)) (iRem (k:Int) 10)))]=[UInt8.ofNat (48+k)]:=by
    rw[hr,e2,AN,BS (by unfold AU;omega),cK (by omega) (by omega),VE]
    have:((48:Int)+(k:Int)).toNat=48+k:=by omega
    simp[this]
   have L:=Dj (c:=F2) (f:=H6) (p:=H5) 1 (fun j=>if j=0 then ([],(k:Int)) else ([UInt8.ofNat (48+k)],0)) (x0:=([],(k:Int))) rfl (fun j hj=>by
    have:j=0:=by omega
    subst this;simp only[F2,H6,H5,hd,hq,e3,Hu,AA]
    exact⟨⟨fun _=>⟨by decide,by simp,by decide⟩,fun h=>(by cases h)⟩,trivial,rfl⟩) (by
    simp only[F2,H5,Ad (show ¬ (1:Nat)=0 by decide),hne]
    exact⟨⟨fun h=>(by cases h),fun _=>trivial⟩,trivial⟩)
   rw[e,e2,AN,AN,L.2];exact⟨⟨fun h=>(by cases h),fun _=>⟨L.1,fun h=>(by cases h),fun _=>trivial⟩⟩,oi,rfl,by simp⟩
theorem Uo(k c m n:Int)(h:Cl (k,c,m,n)=true):(0≤k∧k≤10)∧(k=3∨k=4∨k=5∨k=7∨k=9→0≤n∧n≤3):=by
 rw[Tn] at h;simp only[GJ,Bi,BL,Aw,Co,Df,Ca] at h;by_cases h0:k=0∨k=1∨k=10
 · omega
 · by_cases h2:k=2
   · omega
   · by_cases h3:k=3∨k=4
     · rcases h3 with rfl|rfl<;>simp at h<;>omega
     · by_cases h5:k=5∨k=9
       · rcases h5 with rfl|rfl<;>simp at h<;>omega
       · by_cases h6:k=6
         · omega
         · by_cases h7:k=7
           · subst h7;simp at h;omega
           · by_cases h8:k=8
             · omega
             · have a0:(k=0)=False:=eq_false (by omega);have a1:(k=1)=False:=eq_false (by omega);have a2:(k=10)=False:=eq_false (by omega);have a3:(k=3)=False:=eq_false (by omega);have a4:(k=4)=False:=eq_false (by omega);have a5:(k=5)=False:=eq_false (by omega);have a9:(k=9)=False:=eq_false (by omega);simp[a0,a1,a2,a3,a4,a5,a9,h2,h6,h7,h8] at h
theorem Ke(x:Int×Int×Int×Int):Ls x∧M6 x∧J6 x=BD x∧(BD x).length≤20:=by
 obtain⟨k,c,m,n⟩:=x;obtain⟨c1,c2,c3,c4⟩:=NN c;obtain⟨m1,m2,m3,m4⟩:=Rz m;have a1:LB (k,c,m,n):=Xo _;have a2:Ka (k,c,m,n):=Te _;rw[fL,fP,S9,fM,← NY]
 cases hv:Cl (k,c,m,n) with
 | false=>
   rw[AM];simp only[Bool.not_false,AR];exact⟨⟨a1,fun _=>trivial,fun h=>(by cases h)⟩,⟨a2,fun _=>trivial,fun h=>(by cases h)⟩,by first|rfl|trivial,by simp⟩
 | true=>
   obtain⟨hk,hn⟩:=Uo k c m n hv
   have hn:k=3∨k=4∨k=5∨k=7∨k=9→Gv n∧Ib n∧Fm n=C7 n∧(C7 n).length≤1:=fun h=>kT n (hn h).1 (hn h).2
   simp only[AM,Gd,AN,Co,Dp,Bi,Hu,c3,m3,Yj,Yh,a1,a2];rcases (show k=0∨k=1∨k=2∨k=3∨k=4∨k=5∨k=6∨k=7∨k=8∨k=9∨k=10 by omega) with rfl|rfl|rfl|rfl|rfl|rfl|rfl|rfl|rfl|rfl|rfl
   · simp
   · simp
   · by_cases h0:m=0
     · subst h0;simp[c1,c2,c4];omega
     · simp[h0,c1,c2,m1,m2];omega
   · obtain⟨i1,i2,i3,i4⟩:=hn (by omega);simp[i1,i2,i3];omega
   · obtain⟨i1,i2,i3,i4⟩:=hn (by omega);simp[i1,i2,i3];omega
   · obtain⟨i1,i2,i3,i4⟩:=hn (by omega);simp[i1,i2,i3];omega
   · simp[c1,c2,m1,m2];omega
   · obtain⟨i1,i2,i3,i4⟩:=hn (by omega);simp[i1,i2,i3,c1,c2];omega
   · simp[m1,m2];omega
   · obtain⟨i1,i2,i3,i4⟩:=hn (by omega);simp[i1,i2,i3];omega
   · simp
end
section
set_option maxRecDepth 20000
theorem RN(u:Nat)(h:10≤u):Lib.decDigits u=Lib.decDigits (u / 10)++[UInt8.ofNat (48+u % 10)]:=by
 rw[Lib.decDigits,dif_neg (by omega)]
theorem Zd(d:Nat)(h:d<10):Lib.digitVal (UInt8.ofNat (48+d))=some d:=by
 unfold Lib.digitVal
 have:(UInt8.ofNat (48+d)).toNat=48+d:=by
  rw[UInt8.toNat_ofNat'];exact Nat.mod_eq_of_lt (by omega)
 rw[this,Ab (by omega)];congr 1;omega
theorem TW:∀ (l r:List UInt8) (a:Nat),Lib.decFrom a (l++r)=(Lib.decFrom a l).bind fun n=>Lib.decFrom n r
 |[],_,_=>rfl
 | b::l,r,a=>by
   rw[Cf,Lib.decFrom,Lib.decFrom]
   cases Lib.digitVal b with
   |none=>rfl
   |some d=>exact TW l r _
theorem QM:∀ (m u:Nat),u<10^m→Lib.decFrom 0 (Lib.decDigits u)=some u
 | 0,u,h=>by
   have:u=0:=by simpa using h
   subst this;rw[Jn 0 (by decide)];rfl
 | m+1,u,h=>by
   by_cases hu:u<10
   · rw[Jn u hu];simp only[Lib.decFrom,Zd u hu,IK,Bn]
   · rw[RN u (by omega),TW,QM m (u / 10) (by rw[Nat.pow_succ] at h;omega)];simp only[Fb,Lib.decFrom,Zd (u % 10) (by omega)];congr 1;omega
theorem Mo:∀ (m u:Nat),u<10^m→0<m→1≤(Lib.decDigits u).length∧(Lib.decDigits u).length≤m
 |0,_,_,h=>absurd h (by decide)
 | m + 1,u,h,_=>by
   by_cases hu:u<10
   · rw[Jn u hu];simp
   · rw[RN u (by omega)]
     have hm:0<m:=by
      rcases KT m with rfl|h'
      · simp at h;omega
      · exact h'
     have:=Mo m (u / 10) (by rw[Nat.pow_succ] at h;omega) hm;simp;omega
theorem Oy:∀ (m u:Nat),u<10^m→∀ b∈Lib.decDigits u,48≤b.toNat∧b.toNat≤57
 | 0,u,h,b,hb=>by
   have:u=0:=by simpa using h
   subst this;rw[Jn 0 (by decide)] at hb;simp only[List.mem_singleton] at hb;subst hb;decide
 | m + 1,u,h,b,hb=>by
   have key:∀ d,d<10→48≤(UInt8.ofNat (48+d)).toNat∧(UInt8.ofNat (48+d)).toNat≤57:=fun d hd=>by
    have:(UInt8.ofNat (48+d)).toNat=48+d:=by
     rw[UInt8.toNat_ofNat'];exact Nat.mod_eq_of_lt (by omega)
    rw[this];omega
   by_cases hu:u<10
   · rw[Jn u hu] at hb;simp only[List.mem_singleton] at hb;subst hb;exact key u hu
   · rw[RN u (by omega),C3] at hb;rcases hb with hb|hb
     · exact Oy m (u / 10) (by rw[Nat.pow_succ] at h;omega) b hb
     · simp only[List.mem_singleton] at hb;subst hb;exact key _ (by omega)
theorem rP(k:Nat):(-(k:Int)).tdiv 10=-((k / 10:Nat):Int):=by
 rw[Int.neg_tdiv,Int.tdiv_eq_ediv_of_nonneg (by omega)];omega
theorem rq(k:Nat):(-(k:Int)).tmod 10=-((k % 10:Nat):Int):=by
 rw[Int.neg_tmod,Int.tmod_eq_emod_of_nonneg (by omega)];omega
theorem tn(x:Int):bSel (iLt (iRem x 10) 0) (iNeg .i64 (iRem x 10)) (iRem x 10)=((x.natAbs % 10:Nat):Int):=by
 rw[Sr];rcases Int.le_total 0 x with h|h
 · obtain⟨k,rfl⟩:∃ k:Nat,x=k:=⟨x.toNat,by omega⟩;rw[Int.tmod_eq_emod_of_nonneg (by omega),Bi,Au,Ad (by simp;omega)];simp only[Int.natAbs_natCast];omega
 · obtain⟨k,rfl⟩:∃ k:Nat,x=-(k:Int):=⟨x.natAbs,by omega⟩;rw[rq,Bi,Au]
   have e:(-(k:Int)).natAbs=k:=by omega
   rw[e];by_cases h0:k % 10=0
   · rw[h0];simp
   · rw[Ab (by simp;omega),bt (by unfold AU;omega)];omega
theorem s9(x:Int)(h:AU x):(iQuo .i64 x 10).natAbs=x.natAbs / 10∧AU (iQuo .i64 x 10):=by
 rw[VY];rcases Int.le_total 0 x with hx|hx
 · obtain⟨k,rfl⟩:∃ k:Nat,x=k:=⟨x.toNat,by omega⟩;rw[Int.tdiv_eq_ediv_of_nonneg (by omega),wrap_i64 (by unfold AU at *;omega)];unfold AU at *;omega
 · obtain⟨k,rfl⟩:∃ k:Nat,x=-(k:Int):=⟨x.natAbs,by omega⟩;rw[rP,wrap_i64 (by unfold AU at *;omega)];unfold AU at *;omega
theorem bP:∀ (m:Nat) (x:Int) (s:List UInt8),x.natAbs<10^m→s.length+m≤100→AU x →
 ∃ y,LoopTo F2 H6 H5 (s,x) y∧y.1=(if x=0 then s else Lib.decDigits x.natAbs++s)
 | 0,x,s,h,hl,hi=>by
   have hx:x=0:=by simp at h;exact h
   subst hx;refine⟨(s,0),.stop ?_ ?_,by simp⟩
   · simp only[H5,Dp];exact⟨fun h=>(by simp at h),fun _=>trivial⟩
   · simp[F2,Dp]
 | m + 1,x,s,h,hl,hi=>by
   by_cases hx:x=0
   · subst hx;refine⟨(s,0),.stop ?_ ?_,by simp⟩
     · simp only[H5,Dp];exact⟨fun h=>(by simp at h),fun _=>trivial⟩
     · simp[F2,Dp]
   · have e1:rowS [iConv .u8 (iAdd .i64 48 (bSel (iLt (iRem x 10) 0) (iNeg .i64 (iRem x 10)) (iRem x 10)))]=[UInt8.ofNat (48+x.natAbs % 10)]:=by
      rw[tn,BS (by unfold AU;omega),cK (by omega) (by omega),VE]
      have:((48:Int)+((x.natAbs % 10:Nat):Int)).toNat=48+x.natAbs % 10:=by omega
      simp only[B4,Mr,this]
     obtain⟨q1,q2⟩:=s9 x hi
     have e2:H6 (s,x)=(UInt8.ofNat (48+x.natAbs % 10)::s,iQuo .i64 x 10):=by
      simp only[H6,e1,Hu];rfl
     have c1:F2 (s,x)=true:=by simp[F2,Dp,hx]
     have p1:H5 (s,x):=by
      simp only[H5,e1];refine⟨fun _=>⟨by decide,?_,by decide⟩,fun _=>trivial⟩;simp;omega
     obtain⟨y,y1,y2⟩:=bP m (iQuo .i64 x 10) (UInt8.ofNat (48+x.natAbs % 10)::s) (by rw[q1];rw[Nat.pow_succ] at h;omega) (by simp;omega) q2;refine⟨y,.go p1 c1 (by rw[e2];exact y1),?_⟩;rw[y2,Ad hx,q1];by_cases h10:x.natAbs<10
     · have:iQuo .i64 x 10=0:=by omega
       rw[Ab this,Jn _ h10,Nat.mod_eq_of_lt h10];rfl
     · rw[Ad (by omega),RN x.natAbs (by omega)];simp
theorem Yu(n:Int)(h:n.natAbs<10^18):Gv n∧C7 n=Lib.itoa n:=by
 rw[Xt,Xy]
 have hi:AU n:=by unfold AU;omega
 obtain⟨y,y1,y2⟩:=bP 18 n [] h (by simp) hi;have hv:=y1.val;by_cases h0:n=0
 · subst h0
   have e:iEq (0:Int) 0=true:=by rw[Co];rfl
   rw[e,AR];refine⟨⟨fun _=>trivial,fun h=>(by cases h)⟩,?_⟩;unfold Lib.itoa;rw[Ad (by decide),show (0:Int).toNat=0 from rfl,Jn 0 (by decide)];rfl
 · have e:iEq n 0=false:=by rw[Co];exact Cz h0
   rw[Ad h0,Mu] at y2;obtain⟨l1,l2⟩:=Mo 18 n.natAbs h (by decide);rw[e,AN,hv,y2];refine⟨⟨fun h=>(by cases h),fun _=>⟨⟨_,y1⟩,fun _=>?_,fun _=>trivial⟩⟩,?_⟩
   · simp;omega
   · unfold Lib.itoa;rw[Bi,Au,Hu];by_cases hn:n<0
     · rw[Ab (BI hn),Ab hn];rfl
     · rw[Ad (by simpa using hn),Ad hn,show n.natAbs=n.toNat by omega]
theorem j0(n:Int)(h:n.natAbs<10^18):Ib n∧Fm n=Lib.itoa n:=by
 rw[Xu,Xw,TA,TB];exact⟨by omega,rfl⟩
theorem LQ(n:Int)(h:n.natAbs<10^9):1≤(Lib.itoa n).length∧(Lib.itoa n).length≤10∧Lib.atoi (Lib.itoa n)=some n:=by
 obtain⟨l1,l2⟩:=Mo 9 n.natAbs h (by decide);have hd:=QM 9 n.natAbs h;unfold Lib.itoa;by_cases hn:n<0
 · rw[Ab hn];refine⟨by simp,by simp;omega,?_⟩;simp only[Lib.atoi,beq_self_eq_true,AA,Lib.decNat];rw[Ad (by simp;intro hh;rw[hh] at l1;simp at l1),hd];simp only[BV];congr 1;omega
 · rw[Ad hn,show n.toNat=n.natAbs by omega];refine⟨l1,by omega,?_⟩;have hs:=Oy 9 n.natAbs h
   cases hl:Lib.decDigits n.natAbs with
   |nil=>rw[hl] at l1;simp at l1
   | cons b r=>
     rw[hl] at hs hd;have hb:=hs b (by simp)
     have n1:(b == 45)=false:=by
      rw[OO];intro e;subst e;exact absurd hb.1 (by decide)
     have n2:(b == 43)=false:=by
      rw[OO];intro e;subst e;exact absurd hb.1 (by decide)
     simp only[Lib.atoi,n1,n2,Lib.decNat,List.isEmpty_cons,AD,AL,hd,BV];congr 1;omega
theorem TK(s:List UInt8):Kd s∧(F4 s=(0,false)∧(∀ n:Int,n.natAbs<10^9→Lib.itoa n≠s)∨∃ n:Int,n.natAbs<10^9∧Lib.itoa n=s∧F4 s=(n,true)):=by
 rw[jn,iJ];simp only[BL,Bi,Au,DB,As,KW,AM,XU,X3];by_cases hl:s.length<1∨10<s.length
 · have e:(decide ((s.length:Int)<1)||decide (10<(s.length:Int)))=true:=by
    rw[Ce,AX,AX];omega
   rw[e];refine⟨⟨fun _=>trivial,fun h=>(by cases h)⟩,.inl ⟨rfl,fun n hn e=>?_⟩⟩;have:=LQ n hn;rw[e] at this;omega
 · have e:(decide ((s.length:Int)<1)||decide (10<(s.length:Int)))=false:=by
    rw[DU,Cc,Cc];omega
   rw[e]
   cases ha:Lib.atoi s with
   | none=>
     simp only[Option.isSome_none,Bool.not_false,Bool.true_or,AA,AD,AL];refine⟨⟨fun h=>(by cases h),fun _=>⟨by omega,fun _=>trivial,fun h=>(by cases h)⟩⟩,.inl ⟨by first|rfl|trivial,fun n hn e=>?_⟩⟩;have:=(LQ n hn).2.2;rw[e,ha] at this;cases this
   | some n=>
     simp only[Option.isSome_some,Gd,Bool.false_or,Hw,AD,AL];by_cases hr:n < -999999999∨999999999<n
     · have hc:(decide (n < -999999999)||(decide (999999999<n)||decide (Fm n≠s)))=true:=by
        rcases hr with hr|hr
        · simp[hr]
        · simp[hr]
       rw[Ab (by simpa using hc)];refine⟨⟨fun h=>(by cases h),fun _=>⟨by omega,fun h=>(by cases h),fun _=>⟨fun _=>trivial,fun h1=>⟨fun _=>trivial,fun h2=>?_⟩⟩⟩⟩,.inl ⟨rfl,fun k hk e=>?_⟩⟩
       · simp at h1 h2;omega
       · have:=(LQ k hk).2.2;rw[e,ha] at this;cases this;omega
     · obtain⟨f1,f2⟩:=j0 n (by omega);rw[f2]
       have h1:decide (n < -999999999)=false:=by simp;omega
       have h2:decide (999999999<n)=false:=by simp;omega
       simp only[h1,h2,Bool.false_or];refine⟨⟨fun h=>(by cases h),fun _=>⟨by omega,fun h=>(by cases h),fun _=>⟨fun h=>(by cases h),fun _=>⟨fun h=>(by cases h),fun _=>f1⟩⟩⟩⟩,?_⟩;by_cases he:Lib.itoa n=s
       · exact .inr ⟨n,by omega,he,by simp[he]⟩
       · refine .inl ⟨by simp[he],fun k hk e=>?_⟩;have:=(LQ k hk).2.2;rw[e,ha] at this;cases this;exact he e
def B6:List UInt8→List UInt8
 |[]=>[]
 |b::r=>if b.toNat=45 then r else b::r
theorem Wj(s:List UInt8):bSel (bAnd (iGt (lLen s) 0) (iEq (sGet s 0) 45)) (lSub s (iNat 1) (lN s)) s=B6 s:=by
 rw[Bi,Aw,DB,Co,As,IG,DP,AQ,FL]
 cases s with
 |nil=>rfl
 | cons b r=>
   have e1:decide (0<((b::r).length:Int))=true:=BI (by simp);rw[e1,OW];by_cases h:b.toNat=45
   · rw[Ab (by simp[h])];simp[B6,h]
   · rw[Ad (by simp;omega)];simp[B6,h]
theorem n8(s:List UInt8)(h9:(B6 s).length≤9):LoopOk (Er s) (EZ s) (P4 s) (0,0) ∧
 ∃ k m:Nat,An (Er s) (EZ s) (0,0)=((m:Int),(k:Int))∧k≤(B6 s).length∧Lib.decFrom 0 ((B6 s).take k)=some m∧m<10^k∧(k<(B6 s).length→Lib.decFrom 0 (B6 s)=none):=by
 have key:=IE (c:=Er s) (f:=EZ s) (p:=P4 s)
  (fun st=>∃ k m:Nat,st=((m:Int),(k:Int))∧k≤(B6 s).length∧Lib.decFrom 0 ((B6 s).take k)=some m∧m<10^k)
  (fun st=>(B6 s).length-st.2.toNat) (fun st hI=>?_) (x0:=(0,0)) ⟨0,0,rfl,FI _,rfl,by decide⟩
 · obtain⟨k1,⟨k,m,e,h1,h2,h3⟩,k2⟩:=key
   refine⟨k1,k,m,e,h1,h2,h3,fun hk=>?_⟩;rw[e] at k2;simp only[Er,Wj] at k2;generalize B6 s=t at *;rw[Aw,AM,BL,Au,Au,DB,As,IG,Bp,BI (show (k:Int)<(t.length:Int) by omega),OW] at k2
   have hd:Lib.digitVal (t.getD k 0)=none:=by
    unfold Lib.digitVal;rw[Ad];intro hh;simp only[JM,Ce,AX] at k2;omega
   have e2:t=t.take k++t.getD k 0::t.drop (k+1):=by
    rw[Cd,Ay hk,Hw]
    conv=>lhs;rw[← List.take_append_drop k t,MB hk]
   rw[e2,TW,h2,Fb,Lib.decFrom,hd]
 · obtain⟨k,m,rfl,h1,h2,h3⟩:=hI
   simp only[Er,EZ,P4,Wj];generalize B6 s=t at *
   have hp:(m:Int)<1000000000:=by
    have:10^k≤10^9:=Nat.pow_le_pow_right (by decide) (by omega);omega
   simp only[Aw,AM,BL,Au,DB,As,IG,Bp,AX,Cc];refine⟨⟨fun hk=>⟨⟨⟨by omega,by omega⟩,fun _=>trivial,fun _=>⟨by omega,by omega⟩⟩,fun _=>trivial,fun _=>⟨by omega,by omega⟩⟩,fun _=>trivial⟩,fun hc=>?_⟩;rw[Ah,AX] at hc;obtain⟨hk,hd⟩:=hc
   have hkl:k<t.length:=by omega
   have hd':48≤(t.getD k 0).toNat∧(t.getD k 0).toNat≤57:=by simp only[DA,DU,Cc] at hd;omega
   rw[rW (by unfold AU;omega),qY (by omega) (by omega),BS (by unfold AU;omega),U8 (by unfold AU;omega),BS (by unfold AU;omega)];refine⟨⟨k+1,m*10+((t.getD k 0).toNat-48),?_,by omega,?_,?_⟩,?_⟩
   · rw[Ak];omega
   · refine Lib.decFrom_take t k 0 m (t.getD k 0) _ h2 ?_ ?_
     · rw[Cd,Ay hkl];rfl
     · unfold Lib.digitVal;rw[Ab hd']
   · rw[Nat.pow_succ];omega
   · show t.length-((k:Int)+1).toNat<t.length-(k:Int).toNat;omega
theorem UK(n:Int)(h:n.natAbs<10^9):B6 (Lib.itoa n)=Lib.decDigits n.natAbs∧((B6 (Lib.itoa n)).length<(Lib.itoa n).length↔n<0):=by
 obtain⟨l1,_⟩:=Mo 9 n.natAbs h (by decide);unfold Lib.itoa;by_cases hn:n<0
 · rw[Ab hn];exact⟨rfl,by simp[B6,hn]⟩
 · rw[Ad hn,show n.toNat=n.natAbs by omega];have hs:=Oy 9 n.natAbs h
   cases hl:Lib.decDigits n.natAbs with
   |nil=>rw[hl] at l1;simp at l1
   | cons b r=>
     rw[hl] at hs;have hb:=hs b (by simp)
     have:B6 (b::r)=b::r:=by show (if b.toNat=45 then r else b::r)=b::r;rw[Ad (by omega)]
     rw[this];exact⟨rfl,by simp[hn]⟩
theorem QC(s:List UInt8):Kf s∧(BH s=(0,false)∧(∀ n:Int,n.natAbs<10^9→Lib.itoa n≠s)∨∃ n:Int,n.natAbs<10^9∧Lib.itoa n=s∧BH s=(n,true)):=by
 rw[iT,iL];simp only[Wj]
 have h0:((iGt (lLen s) 0=true→(0:Int)≤0∧(0:Int)<(s.length:Int))∧(iGt (lLen s) 0=false→True))∧((bAnd (iGt (lLen s) 0) (iEq (sGet s 0) 45))=true→(0:Int)≤1∧iNat 1≤lN s∧lN s≤s.length)∧((bAnd (iGt (lLen s) 0) (iEq (sGet s 0) 45))=false→True):=by
  rw[Aw,DB,As,AQ,FL];simp only[AX,Ah];refine⟨⟨fun h=>⟨by decide,h⟩,fun _=>trivial⟩,fun h=>⟨by decide,?_,AB _⟩,fun _=>trivial⟩;have:=h.1;show 1≤s.length;omega
 have no:∀ {P:Prop},(∀ n:Int,n.natAbs<10^9→Lib.itoa n=s→P)→∀ n:Int,n.natAbs<10^9→Lib.itoa n=s→P:=fun h=>h
 by_cases hl:(B6 s).length<1∨9<(B6 s).length
 · have e:bOr (iLt (lLen (B6 s)) 1) (iGt (lLen (B6 s)) 9)=true:=by
    rw[BL,Au,DB,As,Ce,AX,AX];omega
   rw[e,AR];refine⟨⟨h0,fun _=>trivial,fun h=>(by cases h)⟩,.inl ⟨rfl,fun n hn e=>?_⟩⟩;have h1:=(UK n hn).1;have h2:=Mo 9 n.natAbs hn (by decide);rw[e] at h1;rw[h1] at hl;omega
 · have e:bOr (iLt (lLen (B6 s)) 1) (iGt (lLen (B6 s)) 9)=false:=by
    rw[BL,Au,DB,As,DU,Cc,Cc];omega
   obtain⟨k1,k,m,k2,k3,k4,k5,k6⟩:=n8 s (by omega);rw[e,AN,k2];by_cases hk:k<(B6 s).length
   · have e3:iLt ((k:Int)) (lLen (B6 s))=true:=by rw[Au,As];exact BI (by omega)
     rw[e3,AR];refine⟨⟨h0,fun h=>(by cases h),fun _=>⟨k1,fun _=>trivial,fun h=>(by cases h)⟩⟩,.inl ⟨rfl,fun n hn e=>?_⟩⟩;have h1:=(UK n hn).1;have h2:=QM 9 n.natAbs hn;rw[e] at h1;rw[← h1,k6 hk] at h2;cases h2
   · have e3:iLt ((k:Int)) (lLen (B6 s))=false:=by rw[Au,As];exact Cz (by omega)
     have hkl:k=(B6 s).length:=by omega
     rw[hkl,IP] at k4;have hm:m<10^9:=Hz k5 (Nat.pow_le_pow_right (by decide) (by omega))
     have hn:bSel (iLt (lLen (B6 s)) (lLen s)) (iNeg .i64 (m:Int)) (m:Int)=if (B6 s).length<s.length then -(m:Int) else m:=by
      rw[Bi,Au,As,As,bt (by unfold AU;omega)];by_cases hh:(B6 s).length<s.length
      · rw[Ab (BI (by omega)),Ab hh]
      · rw[Ad (by simp;omega),Ad hh]
     rw[e3,AN,hn];generalize hN:(if (B6 s).length<s.length then -(m:Int) else (m:Int))=N
     have hNa:N.natAbs=m:=by subst hN;split<;>omega
     obtain⟨f1,f2⟩:=Yu N (by omega);rw[f2];refine⟨⟨h0,fun h=>(by cases h),fun _=>⟨k1,fun h=>(by cases h),fun _=>f1⟩⟩,?_⟩;rw[Bi,KW];by_cases he:Lib.itoa N=s
     · exact .inr ⟨N,by omega,he,by simp[he]⟩
     · refine .inl ⟨by simp[he],fun n hn e=>he ?_⟩;have h1:=UK n hn;have h2:=QM 9 n.natAbs hn;rw[e] at h1;rw[← h1.1,k4] at h2
       have h3:m=n.natAbs:=by simpa using h2
       have:N=n:=by
        subst hN;by_cases hh:n<0
        · rw[Ab (h1.2.2 hh)];omega
        · rw[Ad (fun hq=>hh (h1.2.1 hq))];omega
       rw[this];exact e
theorem bL{a b:Int}(ha:a.natAbs<10^9)(hb:b.natAbs<10^9)(h:Lib.itoa a=Lib.itoa b):a=b:=by
 have h1:=(LQ a ha).2.2;rw[h,(LQ b hb).2.2] at h1;exact(by simpa using h1:b=a).symm
theorem YO(s:List UInt8):Kf s∧Kd s∧F4 s=BH s:=by
 obtain⟨a1,a2⟩:=QC s;obtain⟨b1,b2⟩:=TK s;refine⟨a1,b1,?_⟩;rcases a2 with⟨a2,a3⟩|⟨n,n1,n2,n3⟩
 · rcases b2 with⟨b2,_⟩|⟨k,k1,k2,_⟩
   · rw[a2,b2]
   · exact absurd k2 (a3 k k1)
 · rcases b2 with⟨_,b3⟩|⟨k,k1,k2,k3⟩
   · exact absurd n2 (b3 n n1)
   · rw[n3,k3,bL k1 n1 (k2.trans n2.symm)]
end
section
set_option maxRecDepth 20000
theorem Zo(x:List UInt8):Cu x=if C6 x<56 then (C6 x:Int)+1 else 0:=by
 have hl:Cm.length=56:=rfl;have h56:=V4 x;rw[Yq]
 have L1:=Dj (c:=Ij x) (f:=J9) (p:=Kb) (C6 x) (fun k=>(k:Int)+1) (x0:=1) rfl (fun k hk=>by
  have i1:iLe ((k:Int)+1) 56=true:=by rw[Ca];exact BI (by omega)
  have i2:sEq (Bv ((k:Int)+1)) x=false:=by rw[LO k (by omega),B5];simpa using Wl x hk
  simp only[Ij,J9,Kb,i1,i2,Aw,AM]
  exact⟨⟨fun _=>(NN _).1,fun h=>(by cases h)⟩,rfl,by rw[BS (by unfold AU;omega)];simp⟩) (by
  simp only[Ij,Kb,Aw,AM];refine⟨⟨fun _=>(NN _).1,fun _=>trivial⟩,?_⟩;rcases AZ (C6 x) 56 with h|h
  · rw[LO _ h,V3 x h,B5];simp
  · have i1:iLe ((C6 x:Int)+1) 56=false:=by rw[Ca];exact Cz (by omega)
    rw[i1];rfl)
 rw[L1.2,Ca,Bi];rcases AZ (C6 x) 56 with h|h
 · rw[Ab (BI (by omega)),Ab h]
 · rw[Ad (by simp;omega),Ad (by omega)]
theorem ot:((List.range 56).all fun k=>Cm.findIdx (· == Cm.getD k []) == k)=true:=by kernel_rfl
theorem mn(k:Int)(h1:1≤k)(h2:k≤56):Cu (Bv k)=k:=by
 obtain⟨j,rfl⟩:∃ j:Nat,k=(j:Int)+1:=⟨(k-1).toNat,by omega⟩
 have hj:j<56:=by omega
 have:=CE.1 ot j (List.mem_range.2 hj)
 have e:C6 (Cm.getD j [])=j:=by unfold C6;exact eq_of_beq this
 rw[LO j hj,Zo,e,Ab hj]
theorem Hm(k:Int)(h0:0≤k)(h1:k≤56):Cu (Bv k)=k:=by
 by_cases h:k=0
 · subst h
   have e:Bv 0=[]:=by
    rw[Qh,GJ];simp only[AM,Aw,Bi,Df,Ca];rfl
   have c:C6 []=56:=by unfold C6;exact(by kernel_rfl:Cm.findIdx (· == [])=56)
   rw[e,Zo,c];rfl
 · exact mn k (by omega) h1
def Gp(m:Nat):Nat→List UInt8
 |0=>[]
 |k+1=>if m.testBit k then Gp m k++[([67,83,65,71]:List UInt8).getD k 0] else Gp m k
theorem sZ{m k:Nat}(hm:m<16)(hk:k<4):W1 (m:Int) k=m.testBit k:=by
 have h:m / 2^k≤m:=Nat.div_le_self _ _;have e:iAnd .i64 ((m / 2^k:Nat):Int) 1=((m / 2^k &&& 1:Nat):Int):=sx (b:=1) (by omega) (by omega);unfold W1;rw[uf _ _ (by omega),e,Co,Nat.and_one_is_mod,Nat.testBit_eq_decide_div_mod_eq];exact decide_eq_decide.2 (by omega)
theorem dO{m:Nat}(hm:m<16):∀ k,k≤4→fm (m:Int) k=Gp m k
 |0,_=>rfl
 | k+1,h=>by
   unfold fm Gp
   rw[sZ hm (by omega),dO hm k (by omega)]
theorem UH{m:Nat}(hm:m<16):BP (m:Int)=Gp m 4:=by
 rw[(UZ _).2.2.2];split
 · exact dO hm 4 (AB _)
 · have:m=0:=by omega
   subst this;rfl
theorem sw:∀ a,a<16→∀ b,b<16→Gp a 4=Gp b 4→a=b:=by decide
theorem kF{m:Nat}(hm:m<16):DK (BP (m:Int))=(m:Int):=by
 rw[UH hm,Xx]
 have L:=Dj (c:=Gs (Gp m 4)) (f:=H7) (p:=fun _=>True) (if m=0 then 15 else m-1) (fun k=>(k:Int)+1) (x0:=1) rfl (fun k hk=>by
  have hk15:k+1<16:=by split at hk<;>omega
  have hne:k+1≠m:=by split at hk<;>omega
  have i1:iLe ((k:Int)+1) 15=true:=by rw[Ca];exact BI (by omega)
  have e:BP ((k:Int)+1)=Gp (k+1) 4:=UH (m:=k+1) hk15
  have i2:sEq (BP ((k:Int)+1)) (Gp m 4)=false:=by
   rw[e,B5]
   have:Gp (k+1) 4≠Gp m 4:=fun h=>hne (sw _ hk15 _ hm h)
   simpa using this
  refine⟨trivial,by simp only[Gs,i1,i2,Aw,AM];rfl,?_⟩;unfold H7
  rw[BS (by unfold AU;omega)];simp) ⟨trivial,by
  by_cases h0:m=0
  · subst h0;simp only[Gs,Aw,AA]
    have i1:iLe (((15:Nat):Int)+1) 15=false:=by rw[Ca];rfl
    rw[i1];rfl
  · simp only[Gs,Aw,Ad h0]
    have e:((m-1:Nat):Int)+1=(m:Int):=by omega
    rw[e,UH hm,B5,AM];simp⟩
 rw[L.2,Ca,Bi];by_cases h0:m=0
 · subst h0;rfl
 · rw[Ad h0,Ab (BI (by omega))];omega
theorem dL(m:Int):∀ k,k≤4→∀ b∈fm m k,b∈([67,83,65,71]:List UInt8)
 |0,_,b,hb=>by simp[fm] at hb
 | k + 1,h,b,hb=>by
   have i:=dL m k (by omega) b
   unfold fm at hb
   split at hb
   · rw[C3,List.mem_singleton] at hb
     rcases hb with h1|h1
     · exact i h1
     · rcases (show k=0∨k=1∨k=2∨k=3 by omega) with rfl|rfl|rfl|rfl<;>(subst h1;decide)
   · exact i hb
theorem bS(m:Int):∀ b∈BP m,b∈([67,83,65,71]:List UInt8):=by
 rw[(UZ m).2.2.2];split
 · exact dL m 4 (AB _)
 · intro b hb;simp at hb
theorem Ub(k:Int):Bv k=[]∨(1≤k∧k≤56∧Bv k∈Cm):=by
 by_cases h:1≤k∧k≤56
 · obtain⟨j,rfl⟩:∃ j:Nat,k=(j:Int)+1:=⟨(k-1).toNat,by omega⟩;right;refine⟨h.1,h.2,?_⟩
   have hj:j<Cm.length:=by show j<56;omega
   rw[LO j (by omega),Cd,Ay hj];exact Dd _
 · left;rw[Qh,GJ]
   have e:(decide (1≤k)&&decide (k≤56))=false:=by
    rw[Pu,Cc,Cc];omega
   simp only[AM,Aw,Bi,Df,Ca,e];rfl
theorem pS(k:Int):∀ b∈Bv k,b ∉ ([32,45,47,58,61,124]:List UInt8):=by
 have key:∀ w∈Cm,∀ b∈w,b ∉ ([32,45,47,58,61,124]:List UInt8):=by decide
 rcases Ub k with h|⟨_,_,h⟩
 · rw[h];intro b hb;simp at hb
 · exact key _ h
end
section
set_option maxRecDepth 20000
abbrev HV:=Int×Int×Int×Int
theorem Q4(k c m n:Int)(h:Cl (k,c,m,n)=true) :
 ((k=0∨k=1∨k=10)∧c=0∧m=0∧n=0)∨(k=2∧n=0∧0≤c∧c≤56∧0≤m∧m≤15∧(c≠0∨m≠0))∨((k=3∨k=4)∧c=0∧m=0∧1≤n∧n≤3)∨((k=5∨k=9)∧c=0∧m=0∧0≤n∧n≤3) ∨
 (k=6∧n=0∧1≤c∧c≤56∧1≤m∧m≤15)∨(k=7∧m=0∧1≤c∧c≤56∧1≤n∧n≤3)∨(k=8∧c=0∧n=0∧1≤m∧m≤15):=by
 obtain⟨hk,_⟩:=Uo k c m n h
 rw[Tn] at h
 simp only[GJ,Bi,BL,Aw,Co,Df,Ca] at h
 rcases (show k=0∨k=1∨k=2∨k=3∨k=4∨k=5∨k=6∨k=7∨k=8∨k=9∨k=10 by omega) with rfl|rfl|rfl|rfl|rfl|rfl|rfl|rfl|rfl|rfl|rfl<;>simp at h
 all_goals first|omega|(obtain⟨h1,h2⟩:=h;split at h2<;>omega)
theorem QF(p t:List UInt8)(h:(p++t).length≤1048576):J5 (p++t,p)∧Ep (p++t,p)=(t,true):=by
 rw[CD] at h
 have e1:J3 (p++t,p)=true:=by
  rw[W6,Df,As,As,B5,DP,AQ,Aw];simp;omega
 have o1:M1 (p++t,p):=by
  rw[W4,Df,As,As,AQ];simp
 rw[Xd,Xh,W5,W3,e1,AM,As,AQ,FL,DP,Gd,AN];refine⟨⟨o1,fun h=>(by cases h),fun _=>⟨by omega,by simp,AB _⟩⟩,?_⟩;simp only[Bp];rw[List.drop_left,KU (by simp)]
theorem TR(s p:List UInt8)(h:¬ p <+: s):J5 (s,p)∧Ep (s,p)=(s,false):=by
 have e1:J3 (s,p)=false:=by
  rw[W6,Df,As,As,B5,DP,AQ,Aw,Pu,Cc,OO];simp only[Bp,HC,OX];by_cases hl:p.length≤s.length
  · right;intro e;exact h (e▸List.take_prefix _ _)
  · left;omega
 have o1:M1 (s,p):=by
  rw[W4,Df,As,As,AQ];simp only[AX,Cc,Bp];exact⟨fun h=>⟨by omega,by omega,by omega⟩,fun _=>trivial⟩
 rw[Xd,Xh,W5,W3,e1,AM,Bool.not_false,AR];exact⟨⟨o1,fun _=>trivial,fun h=>(by cases h)⟩,rfl⟩
theorem YR(s p:List UInt8)(h:s.length≤1048576):J5 (s,p):=by
 by_cases hp:p <+: s
 · obtain⟨t,rfl⟩:=hp;exact(QF p t h).1
 · exact(TR s p hp).1
theorem Wg(s:List UInt8)(b:UInt8)(h:s.length≤1048576):Jg (s,[b]):=by
 rcases Rv s b with h1|⟨x,y,rfl,h2⟩
 · exact(L6 s b h1).1
 · exact(JD x y b h2 h).1
def wd(i:Nat):List UInt8:=([[109,111,58],[116,103,58],[116,111,58],[109,97,99,114,111,58]]:List (List UInt8)).getD i []
theorem RR(i:Nat)(h:i<4):ND (lGet [3,4,5,9] i 0)∧GG (lGet [3,4,5,9] i 0)=wd i:=by
 rw[Yj,Yh,CY];rcases (show i=0∨i=1∨i=2∨i=3 by omega) with rfl|rfl|rfl|rfl<;>simp only[Bi,Co]<;>exact⟨by simp,rfl⟩
theorem Ua(s:List UInt8)(h:s.length≤1048576):LoopOk (Fg s) F1 (PL s) 0 ∧
 ∃ k:Nat,k≤4∧An (Fg s) F1 0=(k:Int)∧(∀ j,j<k→¬ wd j <+: s)∧(k<4→wd k <+: s):=by
 have key:=IE (c:=Fg s) (f:=F1) (p:=PL s)
  (fun st=>∃ k:Nat,st=(k:Int)∧k≤4∧∀ j,j<k→¬ wd j <+: s) (fun st=>4-st.toNat) (fun st hI=>?_) (x0:=0) ⟨0,rfl,by decide,fun j hj=>absurd hj (by omega)⟩
 · obtain⟨k1,⟨k,e,h1,h2⟩,k2⟩:=key
   refine⟨k1,k,h1,e,h2,fun hk=>?_⟩;rw[e] at k2;simp only[Fg,Aw,AM,Au,As,AQ,Bp] at k2;rw[(RR k hk).2] at k2;apply Classical.byContradiction;intro hn;rw[(TR s _ hn).2] at k2;simp at k2;omega
 · obtain⟨k,rfl,h1,h2⟩:=hI
   simp only[Fg,F1,PL,Aw,AM,Au,As,AQ,Bp];have hl:(([3,4,5,9]:List Int).length:Int)=4:=rfl;have hl':([3,4,5,9]:List Int).length=4:=rfl;rw[hl];refine⟨⟨fun hk=>?_,fun _=>trivial⟩,fun hc=>?_⟩
   · have hk:k<4:=by simp only[AX] at hk;omega
     obtain⟨w1,w2⟩:=RR k hk;rw[w2];exact⟨⟨by omega,by omega⟩,by omega,w1,YR _ _ h,fun _=>(TK _).1,fun _=>trivial⟩
   · rw[Ah,AX] at hc;obtain⟨hk,hc⟩:=hc
     have hk:k<4:=by omega
     rw[BS (by unfold AU;omega)];refine⟨⟨k+1,by omega,by omega,fun j hj=>?_⟩,by omega⟩;by_cases hjk:j<k
     · exact h2 j hjk
     · have:j=k:=by omega
       subst this;rintro⟨t,rfl⟩;rw[(RR j hk).2,(QF _ t h).2] at hc;cases hc
theorem qI(s:List UInt8)(h:s.length≤1048576):PT s:=by
 rw[fS]
 have pm:∀ x,J8 x:=fun x=>(NM x).2.1
 have co:∀ x,Ji x:=fun x=>(N2 x).2.1
 have pi:∀ x,Kd x:=fun x=>(TK x).1
 exact⟨fun _=>trivial,fun _=>⟨fun _=>trivial,fun _=>⟨fun _=>trivial,fun _=>⟨(Ua s h).1,fun _=>trivial,fun _=>⟨YR _ _ h,fun _=>pm _,fun _=>⟨Wg _ _ h,
  fun _=>⟨pi _,fun _=>co _,fun _=>⟨pm _,co _⟩⟩,fun _=>⟨Wg _ _ h,fun _=>⟨pm _,co _⟩,fun _=>co _⟩⟩⟩⟩⟩⟩⟩
theorem kf(s:List UInt8)(h:s.length≤1048576):Nb s:=by
 rw[fY];exact⟨qI s h,Te _,fun _=>trivial,fun _=>(Ke _).2.1⟩
def JO:List UInt8:=[110,111,110,101]
def HI:List UInt8:=[112,97,115,115]
def Gi:List UInt8:=[99,97,112,115]
theorem Rt(i:Nat)(h:i<4):(58:UInt8)∈wd i:=by
 rcases (show i=0∨i=1∨i=2∨i=3 by omega) with rfl|rfl|rfl|rfl<;>decide
theorem aj(s:List UInt8)(h:s.length≤1048576)(hc:∀ j,j<4→¬ wd j <+: s):An (Fg s) F1 0=4:=by
 obtain⟨_,k,k1,k2,_,k4⟩:=Ua s h;rw[k2];rcases AZ k 4 with hk|hk
 · exact absurd (k4 hk) (hc k hk)
 · have:k=4:=by omega
   subst this;rfl
theorem pJ(s:List UInt8)(h:s.length≤1048576)(i:Nat)(hi:i<4)(h1:wd i <+: s)(h2:∀ j,j<i→¬ wd j <+: s):An (Fg s) F1 0=(i:Int):=by
 obtain⟨_,k,k1,k2,k3,k4⟩:=Ua s h;rw[k2]
 have:k=i:=by
  rcases Nat.lt_trichotomy k i with hk|hk|hk
  · exact absurd (k4 (by omega)) (h2 k hk)
  · exact hk
  · exact absurd h1 (k3 i hk)
 rw[this]
theorem aa{s p:List UInt8}{b:UInt8}(h1:b∈p)(h2:b ∉ s):¬ p <+: s:=fun h=>h2 (h.subset h1)
theorem B9{a b:List UInt8}(h:a≠b):sEq a b=false:=by rw[B5];exact OO.2 h
theorem T5(s:List UInt8)(h:s.length≤1048576)(h58:(58:UInt8) ∉ s)(n1:s≠JO)(n2:s≠HI)(n3:s≠Gi) :
 Dg s=(bSel (Ax (s,[(47:UInt8)])).2.2 (bSel (F4 (Ax (s,[(47:UInt8)])).1).2 (7,(GF (Ax (s,[(47:UInt8)])).2.1),0,(F4 (Ax (s,[(47:UInt8)])).1).1) (6,(GF (Ax (s,[(47:UInt8)])).2.1),(Jd (Ax (s,[(47:UInt8)])).1),0)) (bSel (Ax (s,[(45:UInt8)])).2.2 (2,(GF (Ax (s,[(45:UInt8)])).2.1),(Jd (Ax (s,[(45:UInt8)])).1),0) (2,(GF s),0,0))):=by
 have e1:sEq s [(110:UInt8),111,110,101]=false:=B9 n1
 have e2:sEq s [(112:UInt8),97,115,115]=false:=B9 n2
 have e3:sEq s [(99:UInt8),97,112,115]=false:=B9 n3
 have e4:=aj s h (fun j hj=>aa (Rt j hj) h58)
 have e5:(Ep (s,[(111:UInt8),110,99,101,58])).2=false:=by rw[(TR s _ (aa (b:=58) (by decide) h58)).2]
 have e6:iLt 4 (lLen [(3:Int),4,5,9])=false:=by rw[Au,As];rfl
 rw[Lu,e1,e2,e3,e4,e5,e6]
 simp only[AN]
theorem Cn{s t:List UInt8}{b:UInt8}(h1:b∈s)(h2:b ∉ t):s≠t:=fun e=>h2 (e▸h1)
theorem Zi(x y:List UInt8)(h:(x++47::y).length≤1048576)(h58:(58:UInt8) ∉ x++47::y)(h47:(47:UInt8) ∉ x) :
 Dg (x++47::y)=bSel (BH x).2 (7,Cu y,0,(BH x).1) (6,Cu y,DK x,0):=by
 have hm:(47:UInt8)∈x++47::y:=by simp
 rw[T5 _ h h58 (Cn hm (by decide)) (Cn hm (by decide)) (Cn hm (by decide)),(JD x y 47 h47 h).2,AR]
 simp only[(YO x).2.2,(N2 y).2.2,(NM x).2.2]
theorem nq(x y:List UInt8)(h:(x++45::y).length≤1048576)(h58:(58:UInt8) ∉ x++45::y)(h47:(47:UInt8) ∉ x++45::y)(h45:(45:UInt8) ∉ x) :
 Dg (x++45::y)=(2,Cu y,DK x,0):=by
 have hm:(45:UInt8)∈x++45::y:=by simp
 rw[T5 _ h h58 (Cn hm (by decide)) (Cn hm (by decide)) (Cn hm (by decide)),(L6 _ 47 h47).2,AN,(JD x y 45 h45 h).2,AR]
 simp only[(N2 y).2.2,(NM x).2.2]
theorem mi(s:List UInt8)(h:s.length≤1048576)(h58:(58:UInt8) ∉ s)(h47:(47:UInt8) ∉ s)(h45:(45:UInt8) ∉ s)(n1:s≠JO)(n2:s≠HI)(n3:s≠Gi) :
 Dg s=(2,Cu s,0,0):=by
 rw[T5 s h h58 n1 n2 n3,(L6 _ 47 h47).2,AN,(L6 _ 45 h45).2,AN,(N2 s).2.2]
theorem m9(i:Nat)(hi:i<4)(t:List UInt8)(h:(wd i++t).length≤1048576):Dg (wd i++t)=(([3,4,5,9]:List Int).getD i 0,0,0,(BH t).1):=by
 have hm:(58:UInt8)∈wd i++t:=by rw[C3];exact .inl (Rt i hi)
 have e1:sEq (wd i++t) [(110:UInt8),111,110,101]=false:=B9 (Cn hm (by decide));have e2:sEq (wd i++t) [(112:UInt8),97,115,115]=false:=B9 (Cn hm (by decide));have e3:sEq (wd i++t) [(99:UInt8),97,112,115]=false:=B9 (Cn hm (by decide))
 have e4:=pJ (wd i++t) h i hi ⟨t,rfl⟩ (fun j hj hp=>by
  rcases (show i=0∨i=1∨i=2∨i=3 by omega) with rfl|rfl|rfl|rfl
  · omega
  · have:j=0:=by omega
    subst this;simp[wd] at hp
  · rcases (show j=0∨j=1 by omega) with rfl|rfl<;>simp[wd] at hp
  · rcases (show j=0∨j=1∨j=2 by omega) with rfl|rfl|rfl<;>simp[wd] at hp)
 have e6:iLt (i:Int) (lLen [(3:Int),4,5,9])=true:=by rw[Au,As];exact BI (by show (i:Int)<4;omega)
 rw[Lu,e1,e2,e3,e4,e6,AQ,Bp,(RR i hi).2,(QF (wd i) t h).2,AR];simp only[AN,CY,(YO t).2.2]
theorem n9(t:List UInt8)(h:([111,110,99,101,58]++t:List UInt8).length≤1048576):Dg ([111,110,99,101,58]++t)=(8,0,DK t,0):=by
 have hm:(58:UInt8)∈([111,110,99,101,58]++t:List UInt8):=by simp
 have e1:sEq ([111,110,99,101,58]++t) [(110:UInt8),111,110,101]=false:=B9 (Cn hm (by decide));have e2:sEq ([111,110,99,101,58]++t) [(112:UInt8),97,115,115]=false:=B9 (Cn hm (by decide));have e3:sEq ([111,110,99,101,58]++t) [(99:UInt8),97,112,115]=false:=B9 (Cn hm (by decide))
 have e4:=aj ([111,110,99,101,58]++t) h (fun j hj hp=>by
  rcases (show j=0∨j=1∨j=2∨j=3 by omega) with rfl|rfl|rfl|rfl<;>simp[wd] at hp)
 have e6:iLt 4 (lLen [(3:Int),4,5,9])=false:=by rw[Au,As];rfl
 rw[Lu,e1,e2,e3,e4,e6,(QF [111,110,99,101,58] t h).2,AR];simp only[AN,(NM t).2.2]
theorem aW(m:Int):BH (BP m)=(0,false):=by
 rcases (QC (BP m)).2 with⟨h,_⟩|⟨n,n1,n2,_⟩
 · exact h
 · obtain⟨l1,_⟩:=Mo 9 n.natAbs n1 (by decide);exfalso
   cases hl:Lib.decDigits n.natAbs with
   |nil=>rw[hl] at l1;simp at l1
   | cons b r=>
     have hb:=Oy 9 n.natAbs n1 b (by rw[hl];simp)
     have hm:b∈BP m:=by
      rw[← n2];unfold Lib.itoa;split
      · rw[hl];simp
      · rw[show n.toNat=n.natAbs by omega,hl];simp
     have:=bS m b hm;simp only[Cb,List.not_mem_nil,or_false] at this;rcases this with rfl|rfl|rfl|rfl<;>exact absurd hb.2 (by decide)
theorem QS(n:Int)(h:n.natAbs<10^9):BH (Lib.itoa n)=(n,true):=by
 rcases (QC (Lib.itoa n)).2 with⟨_,h2⟩|⟨k,k1,k2,k3⟩
 · exact absurd rfl (h2 n h)
 · rw[k3,bL k1 h k2]
theorem Uw(k c m n:Int)(h:Cl (k,c,m,n)=true) :
 (k=0∧BD (k,c,m,n)=JO)∨(k=1∧BD (k,c,m,n)=HI)∨(k=10∧BD (k,c,m,n)=Gi) ∨
 (k=2∧m=0∧BD (k,c,m,n)=Bv c)∨(k=2∧m≠0∧BD (k,c,m,n)=BP m++45::Bv c) ∨
 (∃ i,i<4∧k=([3,4,5,9]:List Int).getD i 0∧BD (k,c,m,n)=wd i++Lib.itoa n) ∨
 (k=6∧BD (k,c,m,n)=BP m++47::Bv c)∨(k=7∧BD (k,c,m,n)=Lib.itoa n++47::Bv c)∨(k=8∧BD (k,c,m,n)=[111,110,99,101,58]++BP m):=by
 obtain⟨hk,hn⟩:=Uo k c m n h
 rw[S9,h,AM]
 have hi:k=3∨k=4∨k=5∨k=7∨k=9→C7 n=Lib.itoa n:=fun hk=>(Yu n (by have:=hn hk;omega)).2
 simp only[Gd,AN,Co,Bi,Hu]
 rcases (show k=0∨k=1∨k=2∨k=3∨k=4∨k=5∨k=6∨k=7∨k=8∨k=9∨k=10 by omega) with rfl|rfl|rfl|rfl|rfl|rfl|rfl|rfl|rfl|rfl|rfl
 · exact .inl ⟨rfl,by simp[JO]⟩
 · exact .inr (.inl ⟨rfl,by simp[HI]⟩)
 · by_cases hm:m=0
   · exact .inr (.inr (.inr (.inl ⟨rfl,hm,by simp[hm]⟩)))
   · exact .inr (.inr (.inr (.inr (.inl ⟨rfl,hm,by simp[hm]⟩))))
 · exact .inr (.inr (.inr (.inr (.inr (.inl ⟨0,by decide,rfl,by rw[hi (by omega)];simp[wd]⟩)))))
 · exact .inr (.inr (.inr (.inr (.inr (.inl ⟨1,by decide,rfl,by rw[hi (by omega)];simp[wd]⟩)))))
 · exact .inr (.inr (.inr (.inr (.inr (.inl ⟨2,by decide,rfl,by rw[hi (by omega)];simp[wd]⟩)))))
 · exact .inr (.inr (.inr (.inr (.inr (.inr (.inl ⟨rfl,by simp⟩))))))
 · exact .inr (.inr (.inr (.inr (.inr (.inr (.inr (.inl ⟨rfl,by rw[hi (by omega)];simp⟩)))))))
 · exact .inr (.inr (.inr (.inr (.inr (.inr (.inr (.inr ⟨rfl,by simp⟩)))))))
 · exact .inr (.inr (.inr (.inr (.inr (.inl ⟨3,by decide,rfl,by rw[hi (by omega)];simp[wd]⟩)))))
 · exact .inr (.inr (.inl ⟨rfl,by simp[Gi]⟩))
end
section
set_option maxRecDepth 20000
theorem cf(a:HV):(BD a).length≤20:=(Ke a).2.2.2
theorem DN{b:UInt8}(hb:b∈([32,45,47,58,61,124]:List UInt8))(k:Int):b ∉ Bv k:=fun h=>pS k b h hb
theorem GL{b:UInt8}(hb:b ∉ ([67,83,65,71]:List UInt8))(m:Int):b ∉ BP m:=fun h=>hb (bS m b h)
theorem Oq{b:UInt8}(hb:b.toNat<48∨57<b.toNat)(n:Int)(h0:0≤n)(h1:n≤3):b ∉ Lib.itoa n:=fun h=>by
 unfold Lib.itoa at h
 rw[Ad (by omega)] at h
 have:=Oy 9 n.toNat (by omega) b h
 omega
theorem VH(c:Int)(h1:1≤c)(h2:c≤56):Bv c≠[]∧Bv c≠JO∧Bv c≠HI∧Bv c≠Gi:=by
 have key:∀ w∈Cm,w≠[]∧w≠JO∧w≠HI∧w≠Gi:=by decide
 have hb:=Hm c (by omega) h2;rcases Ub c with h|⟨_,_,h⟩
 · exfalso;have h0:=Hm 0 (by decide) (by decide)
   have e:Bv 0=[]:=by
    rcases Ub 0 with h|⟨h,_⟩
    · exact h
    · omega
   rw[e] at h0;rw[h,h0] at hb;omega
 · exact key _ h
theorem dT(a:HV)(h:Cl a=true):BD a≠[]:=by
 obtain⟨k,c,m,n⟩:=a;have hc:=Q4 k c m n h;rcases Uw k c m n h with⟨_,e⟩|⟨_,e⟩|⟨_,e⟩|⟨h1,h2,e⟩|⟨_,_,e⟩|⟨i,hi,_,e⟩|⟨_,e⟩|⟨_,e⟩|⟨_,e⟩<;>rw[e]
 · decide
 · decide
 · decide
 · exact(VH c (by omega) (by omega)).1
 · simp
 · have:=Rt i hi;intro h0;have:wd i=[]:=(List.append_eq_nil_iff.1 h0).1;rw[this] at *;simp_all
 · simp
 · simp
 · simp
theorem Mn(m:Int)(h0:0≤m)(h1:m≤15):DK (BP m)=m:=by
 obtain⟨k,rfl⟩:∃ k:Nat,m=k:=⟨m.toNat,by omega⟩;exact kF (by omega)
theorem JK{b:UInt8}{x y:List UInt8}(c:UInt8)(h1:b ∉ x)(h2:b≠c)(h3:b ∉ y):b ∉ x++c::y:=by
 simp[h1,h2,h3]
theorem mT(a:HV)(h:Cl a=true):Dg (BD a)=a:=by
 obtain⟨k,c,m,n⟩:=a;have hc:=Q4 k c m n h;have hl:(BD (k,c,m,n)).length≤1048576:=Dq (cf _) (by decide);rcases Uw k c m n h with⟨h1,e⟩|⟨h1,e⟩|⟨h1,e⟩|⟨h1,h2,e⟩|⟨h1,h2,e⟩|⟨i,hi,h1,e⟩|⟨h1,e⟩|⟨h1,e⟩|⟨h1,e⟩<;>rw[e] at hl ⊢
 · have e1:sEq JO [(110:UInt8),111,110,101]=true:=by rw[B5];rfl
   obtain⟨rfl,rfl,rfl⟩:c=0∧m=0∧n=0:=by omega
   rw[Lu,e1,AR,h1]
 · have e1:sEq HI [(110:UInt8),111,110,101]=false:=by rw[B5];rfl
   have e2:sEq HI [(112:UInt8),97,115,115]=true:=by rw[B5];rfl
   obtain⟨rfl,rfl,rfl⟩:c=0∧m=0∧n=0:=by omega
   rw[Lu,e1,e2,AN,AR,h1]
 · have e1:sEq Gi [(110:UInt8),111,110,101]=false:=by rw[B5];rfl
   have e2:sEq Gi [(112:UInt8),97,115,115]=false:=by rw[B5];rfl
   have e3:sEq Gi [(99:UInt8),97,112,115]=true:=by rw[B5];rfl
   obtain⟨rfl,rfl,rfl⟩:c=0∧m=0∧n=0:=by omega
   rw[Lu,e1,e2,e3,AN,AN,AR,h1]
 · obtain⟨q1,q2,q3,q4⟩:=VH c (by omega) (by omega);rw[mi _ hl (DN (by decide) c) (DN (by decide) c) (DN (by decide) c) q2 q3 q4,Hm c (by omega) (by omega)]
   obtain rfl:n=0:=by omega
   rw[h1,h2]
 · rw[nq _ _ hl (JK 45 (GL (by decide) m) (by decide) (DN (by decide) c)) (JK 45 (GL (by decide) m) (by decide) (DN (by decide) c)) (GL (by decide) m),Hm c (by omega) (by omega),Mn m (by omega) (by omega)]
   obtain rfl:n=0:=by omega
   rw[h1]
 · have hk:c=0∧m=0∧0≤n∧n≤3:=by
    rcases (show i=0∨i=1∨i=2∨i=3 by omega) with rfl|rfl|rfl|rfl<;>(have h1:k=_:=h1;simp at h1;omega)
   obtain⟨rfl,rfl,h3,h4⟩:=hk;rw[m9 i hi _ hl,QS n (by omega),← h1]
 · rw[Zi _ _ hl (JK 47 (GL (by decide) m) (by decide) (DN (by decide) c)) (GL (by decide) m),aW,AN,Hm c (by omega) (by omega),Mn m (by omega) (by omega)]
   obtain rfl:n=0:=by omega
   rw[h1]
 · rw[Zi _ _ hl (JK 47 (Oq (by decide) n (by omega) (by omega)) (by decide) (DN (by decide) c)) (Oq (by decide) n (by omega) (by omega)),QS n (by omega),AR,Hm c (by omega) (by omega)]
   obtain rfl:m=0:=by omega
   rw[h1]
 · rw[n9 _ hl,Mn m (by omega) (by omega)]
   obtain⟨rfl,rfl⟩:c=0∧n=0:=by omega
   rw[h1]
def gS(x:List UInt8):HV:=
 bSel (sEq x [(110:UInt8),111,110,101]) (0,0,0,0) (bSel (sEq x [(112:UInt8),97,115,115]) (1,0,0,0) (bSel (sEq x [(99:UInt8),97,112,115]) (10,0,0,0)
 (bSel (iEq (lLen (Al (x,58))) 2) (Ea (8,(lGet (Al (x,58)) (iNat 0) []),(lGet (Al (x,58)) (iNat 1) [])))
 (bSel (iEq (lLen (Al (x,47))) 2) (bSel (BH (lGet (Al (x,47)) (iNat 0) [])).2 (7,Cu (lGet (Al (x,47)) (iNat 1) []),0,(BH (lGet (Al (x,47)) (iNat 0) [])).1) (6,Cu (lGet (Al (x,47)) (iNat 1) []),DK (lGet (Al (x,47)) (iNat 0) []),0))
 (bSel (iEq (lLen (Al (x,45))) 2) (2,Cu (lGet (Al (x,45)) (iNat 1) []),DK (lGet (Al (x,45)) (iNat 0) []),0) (2,Cu x,0,0))))))
theorem sf(x:List UInt8):CH x=bSel (bOr (sEq x []) (sNe (BD (gS x)) x)) ((0,0,0,0),false) (gS x,true):=by
 rw[gv];unfold gS;generalize sEq x [(110:UInt8),111,110,101]=b1;generalize sEq x [(112:UInt8),97,115,115]=b2;generalize sEq x [(99:UInt8),97,112,115]=b3;generalize iEq (lLen (Al (x,58))) 2=b4;generalize iEq (lLen (Al (x,47))) 2=b5;generalize iEq (lLen (Al (x,45))) 2=b6;generalize BH (lGet (Al (x,47)) (iNat 0) [])=b7;obtain⟨n7,b7⟩:=b7;cases b1
 · cases b2
   · cases b3
     · cases b4
       · cases b5
         · cases b6<;>simp only[AN,AR]
         · cases b7<;>simp only[AN,AR]
       · simp only[AN,AR]
     · simp only[AN,AR]
   · simp only[AN,AR]
 · simp only[AR]
theorem ME{y c:UInt8}(h:y≠c):((y.toNat:Nat):Int)≠((c.toNat:Nat):Int):=fun e=>h (UInt8.toNat_inj.1 (by omega))
theorem Kq{x:List UInt8}(c:UInt8)(h:c ∉ x)(hl:x.length≤1048576):Al (x,(c.toNat:Int))=[x]:=by
 rw[(Of x _ hl).2]
 exact NZ x _ fun b hb=>ME (c:=c) fun e=>h (e▸hb)
theorem Oi{x y:List UInt8}(c:UInt8)(h1:c ∉ x)(h2:c ∉ y)(hl:(x++c::y).length≤1048576):Al (x++c::y,(c.toNat:Int))=[x,y]:=by
 rw[(Of _ _ hl).2,Q6 x c y _ (fun b hb=>ME (c:=c) fun e=>h1 (e▸hb)) rfl,NZ y _ fun b hb=>ME (c:=c) fun e=>h2 (e▸hb)]
theorem n1(a:List UInt8):iEq (lLen [a]) 2=false:=by rw[Co,As];rfl
theorem n2(a b:List UInt8):iEq (lLen [a,b]) 2=true:=by rw[Co,As];rfl
theorem g0(a b:List UInt8):lGet [a,b] (iNat 0) []=a:=by rw[CY,AQ];rfl
theorem g1(a b:List UInt8):lGet [a,b] (iNat 1) []=b:=by rw[CY,AQ];rfl
theorem tP(a:HV)(h:Cl a=true):gS (BD a)=a:=by
 obtain⟨k,c,m,n⟩:=a;have hc:=Q4 k c m n h;have hl:(BD (k,c,m,n)).length≤1048576:=Dq (cf _) (by decide);rcases Uw k c m n h with⟨h1,e⟩|⟨h1,e⟩|⟨h1,e⟩|⟨h1,h2,e⟩|⟨h1,h2,e⟩|⟨i,hi,h1,e⟩|⟨h1,e⟩|⟨h1,e⟩|⟨h1,e⟩<;>rw[e] at hl ⊢<;>unfold gS
 · have e1:sEq JO [(110:UInt8),111,110,101]=true:=by rw[B5];rfl
   obtain⟨rfl,rfl,rfl⟩:c=0∧m=0∧n=0:=by omega
   rw[e1,AR,h1]
 · have e1:sEq HI [(110:UInt8),111,110,101]=false:=by rw[B5];rfl
   have e2:sEq HI [(112:UInt8),97,115,115]=true:=by rw[B5];rfl
   obtain⟨rfl,rfl,rfl⟩:c=0∧m=0∧n=0:=by omega
   rw[e1,e2,AN,AR,h1]
 · have e1:sEq Gi [(110:UInt8),111,110,101]=false:=by rw[B5];rfl
   have e2:sEq Gi [(112:UInt8),97,115,115]=false:=by rw[B5];rfl
   have e3:sEq Gi [(99:UInt8),97,112,115]=true:=by rw[B5];rfl
   obtain⟨rfl,rfl,rfl⟩:c=0∧m=0∧n=0:=by omega
   rw[e1,e2,e3,AN,AN,AR,h1]
 · obtain⟨q1,q2,q3,q4⟩:=VH c (by omega) (by omega);have s1:=Kq 58 (DN (by decide) c) hl;have s2:=Kq 47 (DN (by decide) c) hl;have s3:=Kq 45 (DN (by decide) c) hl;have q2:sEq (Bv c) [(110:UInt8),111,110,101]=false:=B9 q2;have q3:sEq (Bv c) [(112:UInt8),97,115,115]=false:=B9 q3;have q4:sEq (Bv c) [(99:UInt8),97,112,115]=false:=B9 q4;rw[q2,q3,q4,show (58:Int)=((58:UInt8).toNat:Int) from rfl,s1,show (47:Int)=((47:UInt8).toNat:Int) from rfl,s2,show (45:Int)=((45:UInt8).toNat:Int) from rfl,s3];simp only[n1,AN]
   obtain rfl:n=0:=by omega
   rw[Hm c (by omega) (by omega),h1,h2]
 · have hm:(45:UInt8)∈BP m++45::Bv c:=by simp
   have s1:=Kq 58 (JK 45 (GL (by decide) m) (by decide) (DN (by decide) c)) hl;have s2:=Kq 47 (JK 45 (GL (by decide) m) (by decide) (DN (by decide) c)) hl;have s3:=Oi 45 (GL (by decide) m) (DN (by decide) c) hl;rw[B9 (Cn hm (by decide)),B9 (Cn hm (by decide)),B9 (Cn hm (by decide)),show (58:Int)=((58:UInt8).toNat:Int) from rfl,s1,show (47:Int)=((47:UInt8).toNat:Int) from rfl,s2,show (45:Int)=((45:UInt8).toNat:Int) from rfl,s3];simp only[n1,n2,g0,g1,AN,AR]
   obtain rfl:n=0:=by omega
   rw[Hm c (by omega) (by omega),Mn m (by omega) (by omega),h1]
 · have hk:c=0∧m=0∧0≤n∧n≤3:=by
    rcases (show i=0∨i=1∨i=2∨i=3 by omega) with rfl|rfl|rfl|rfl<;>(have h1:k=_:=h1;simp at h1;omega)
   obtain⟨rfl,rfl,h3,h4⟩:=hk
   have hm:(58:UInt8)∈wd i++Lib.itoa n:=by rw[C3];exact .inl (Rt i hi)
   obtain⟨w,hw,hw2,hw3⟩:∃ w,wd i=w++[58]∧(58:UInt8) ∉ w∧∀ t,Ea (8,w,t)=(([3,4,5,9]:List Int).getD i 0,0,0,(BH t).1):=by
    rcases (show i=0∨i=1∨i=2∨i=3 by omega) with rfl|rfl|rfl|rfl
    · exact⟨[109,111],rfl,by decide,fun t=>by rw[NK];simp only[B5,Bi];rfl⟩
    · exact⟨[116,103],rfl,by decide,fun t=>by rw[NK];simp only[B5,Bi];rfl⟩
    · exact⟨[116,111],rfl,by decide,fun t=>by rw[NK];simp only[B5,Bi];rfl⟩
    · exact⟨[109,97,99,114,111],rfl,by decide,fun t=>by rw[NK];simp only[B5,Bi];rfl⟩
   have e0:wd i++Lib.itoa n=w++58::Lib.itoa n:=by rw[hw];simp
   have s1:=Oi 58 hw2 (Oq (by decide) n h3 h4) (by rw[← e0];exact hl);rw[B9 (Cn hm (by decide)),B9 (Cn hm (by decide)),B9 (Cn hm (by decide)),e0,show (58:Int)=((58:UInt8).toNat:Int) from rfl,s1];simp only[n2,g0,g1,AN,AR,hw3,QS n (show n.natAbs<10^9 by omega)];rw[← h1]
 · have hm:(47:UInt8)∈BP m++47::Bv c:=by simp
   have s1:=Kq 58 (JK 47 (GL (by decide) m) (by decide) (DN (by decide) c)) hl;have s2:=Oi 47 (GL (by decide) m) (DN (by decide) c) hl;rw[B9 (Cn hm (by decide)),B9 (Cn hm (by decide)),B9 (Cn hm (by decide)),show (58:Int)=((58:UInt8).toNat:Int) from rfl,s1,show (47:Int)=((47:UInt8).toNat:Int) from rfl,s2];simp only[n1,n2,g0,g1,AN,AR,aW]
   obtain rfl:n=0:=by omega
   rw[Hm c (by omega) (by omega),Mn m (by omega) (by omega),h1]
 · have hm:(47:UInt8)∈Lib.itoa n++47::Bv c:=by simp
   have s1:=Kq 58 (JK 47 (Oq (by decide) n (by omega) (by omega)) (by decide) (DN (by decide) c)) hl;have s2:=Oi 47 (Oq (by decide) n (by omega) (by omega)) (DN (by decide) c) hl;rw[B9 (Cn hm (by decide)),B9 (Cn hm (by decide)),B9 (Cn hm (by decide)),show (58:Int)=((58:UInt8).toNat:Int) from rfl,s1,show (47:Int)=((47:UInt8).toNat:Int) from rfl,s2];simp only[n1,n2,g0,g1,AN,AR,QS n (show n.natAbs<10^9 by omega)]
   obtain rfl:m=0:=by omega
   rw[Hm c (by omega) (by omega),h1]
 · have hm:(58:UInt8)∈([111,110,99,101,58]++BP m:List UInt8):=by simp
   have e0:([111,110,99,101,58]++BP m:List UInt8)=[111,110,99,101]++58::BP m:=rfl;have s1:=Oi (x:=[111,110,99,101]) 58 (by decide) (GL (b:=58) (by decide) m) (by rw[← e0];exact hl);rw[B9 (Cn hm (by decide)),B9 (Cn hm (by decide)),B9 (Cn hm (by decide)),e0,show (58:Int)=((58:UInt8).toNat:Int) from rfl,s1];simp only[n2,g0,g1,AN,AR]
   obtain⟨rfl,rfl⟩:c=0∧n=0:=by omega
   rw[NK];simp only[B5,Bi,Mn m (by omega) (by omega)];rw[h1];rfl
theorem tJ(a:HV)(h:Cl a=false):BD a=[]:=by
 rw[S9,h,AM,Bool.not_false,AR]
theorem jh(s:List UInt8)(h:s.length≤1048576):Nc s:=by
 have pm:∀ x,J7 x:=fun x=>(NM x).1
 have co:∀ x,Jh x:=fun x=>(N2 x).1
 have pi:∀ x,Kf x:=fun x=>(QC x).1
 have fa:∀ x,Ls x:=fun x=>(Ke x).1
 have sp:∀ c:Int,Ig (s,c):=fun c=>(Of s c h).1
 have l5:∀ x,Qy x:=fun x=>by
  rw[km];exact⟨pi _,fun _=>trivial,fun _=>⟨fun _=>trivial,fun _=>⟨fun _=>trivial,fun _=>⟨fun _=>trivial,fun _=>pm _⟩⟩⟩⟩
 have two:∀ l:List (List UInt8),iEq (lLen l) 2=true→l.length=2:=fun l hl=>by
  rw[Co,As,AX] at hl;omega
 rw[fX];refine⟨co _,sp _,sp _,sp _,⟨fun _=>trivial,fun _=>⟨fun _=>trivial,fun _=>⟨fun _=>trivial,fun _=>⟨fun hl=>?_,fun _=>⟨fun hl=>?_,fun _=>⟨fun hl=>?_,fun _=>trivial⟩⟩⟩⟩⟩⟩,fun _=>trivial,fun _=>fa _⟩
 · have:=two _ hl;simp only[AQ];exact⟨⟨by omega,by omega⟩,by show 0<_;omega,⟨by omega,by omega⟩,by show 1<_;omega,l5 _⟩
 · have:=two _ hl;simp only[AQ];exact⟨⟨by omega,by omega⟩,by show 0<_;omega,pi _,⟨by omega,by omega⟩,by show 1<_;omega,⟨by omega,by omega⟩,by show 0<_;omega,co _,pm _,fun _=>⟨⟨by omega,by omega⟩,by show 1<_;omega,co _⟩,fun _=>trivial⟩
 · have:=two _ hl;simp only[AQ];exact⟨⟨by omega,by omega⟩,by show 1<_;omega,⟨by omega,by omega⟩,by show 0<_;omega,co _,pm _⟩
theorem Qd(s:List UInt8)(h:s.length≤1048576):Nc s∧Nb s∧Dw s=CH s ∧
 ((∃ a:HV,Cl a=true∧BD a=s∧CH s=(a,true))∨((∀ a:HV,Cl a=true→BD a≠s)∧CH s=((0,0,0,0),false))):=by
 refine⟨jh s h,kf s h,?_⟩
 rw[sf,gz,← NY,(Ke _).2.2.1]
 by_cases hx:∃ a:HV,Cl a=true∧BD a=s
 · obtain⟨a,a1,rfl⟩:=hx
   have e1:sEq (BD a) []=false:=B9 (dT a a1)
   have e2:sNe (BD a) (BD a)=false:=by rw[KW];simp
   rw[tP a a1,mT a a1,a1,e1,e2,AM,BL,BL,Gd,Bool.or_false,AN];exact⟨rfl,.inl ⟨a,a1,rfl,rfl⟩⟩
 · have no:∀ a:HV,Cl a=true→BD a≠s:=fun a h1 h2=>hx ⟨a,h1,h2⟩
   have e1:bOr (sEq s []) (sNe (BD (gS s)) s)=true:=by
    rw[BL,B5,KW];by_cases hs:s=[]
    · subst hs;rfl
    · have:BD (gS s)≠s:=by
       cases hv:Cl (gS s) with
       |true=>exact no _ hv
       |false=>rw[tJ _ hv];exact EH hs
      simp[this]
   have e2:bOr (bNot (Cl (Dg s))) (sNe (BD (Dg s)) s)=true:=by
    rw[BL,AM,KW]
    cases hv:Cl (Dg s) with
    |true=>simp[no _ hv]
    |false=>rfl
   rw[e1,e2,AR,AR];exact⟨rfl,.inr ⟨no,rfl⟩⟩
end
def VK(_:Int×Int×Int):Prop:=True
def Va(x:List (Int×Int×Int)):Prop:=x.length≤1048576∧∀ a∈x,VK a
theorem uc(a b:Int×Int×Int)(h:VK a):NH (a,b)∧(Iu (a,b)=true↔a=b):=by
 obtain⟨a0,a1,a2⟩:=a;obtain⟨b0,b1,b2⟩:=b;rw[jX,kc];refine⟨by simp,?_⟩;simp only[AM,Aw,Mi,Dp,Ah,Bool.not_not,AX,Ak,AW]
 try (constructor<;>intro h<;>simp_all)
theorem rG(a b:List (Int×Int×Int))(h:Va a):Nv (a,b)∧(Ip (a,b)=true↔a=b):=by
 rw[js,jQ];obtain⟨h1,h2⟩:=h
 have hY:∀ i:Nat,i<a.length→NH (((lGet a i (0,0,0)).1,(lGet a i (0,0,0)).2.1,(lGet a i (0,0,0)).2.2),((lGet b i (0,0,0)).1,(lGet b i (0,0,0)).2.1,(lGet b i (0,0,0)).2.2))∧(Iu (((lGet a i (0,0,0)).1,(lGet a i (0,0,0)).2.1,(lGet a i (0,0,0)).2.2),((lGet b i (0,0,0)).1,(lGet b i (0,0,0)).2.1,(lGet b i (0,0,0)).2.2))=true↔a.getD i (0,0,0)=b.getD i (0,0,0)):=fun i hi=>by
  have:=uc (a.getD i (0,0,0)) (b.getD i (0,0,0)) (h2 _ (Rs a i (0,0,0) hi));rw[CY,CY];exact this
 by_cases hl:a.length=b.length
 · refine⟨⟨fun _=>trivial,fun _=>u9 a b (0,0,0) (fun i=>bNot (Iu (((lGet a i (0,0,0)).1,(lGet a i (0,0,0)).2.1,(lGet a i (0,0,0)).2.2),((lGet b i (0,0,0)).1,(lGet b i (0,0,0)).2.1,(lGet b i (0,0,0)).2.2)))) hl (fun i hi=>by simp only[AM,JM,(hY i hi).2]) (by omega) (fun i hi=>by simp only[Aw,Au,As,AQ,AM,Bp,Int.ofNat_lt]) (fun i hi=>rfl) (fun i hi=>?_)⟩,?_⟩
   · simp only[Au,As,AQ,AX,Bp];exact⟨fun hh=>⟨by omega,by omega,by omega,by omega,(hY i (by omega)).1⟩,fun _=>trivial⟩
   · have hv:=wy (c:=fun i:Int=>bAnd (iLt i (lLen a)) (bNot ((fun i=>bNot (Iu (((lGet a i (0,0,0)).1,(lGet a i (0,0,0)).2.1,(lGet a i (0,0,0)).2.2),((lGet b i (0,0,0)).1,(lGet b i (0,0,0)).2.1,(lGet b i (0,0,0)).2.2)))) i.toNat))) (f:=fun i=>iAdd .i64 i 1) a b (0,0,0) (fun i=>bNot (Iu (((lGet a i (0,0,0)).1,(lGet a i (0,0,0)).2.1,(lGet a i (0,0,0)).2.2),((lGet b i (0,0,0)).1,(lGet b i (0,0,0)).2.1,(lGet b i (0,0,0)).2.2)))) hl (fun i hi=>by simp only[AM,JM,(hY i hi).2]) (by omega) (fun i hi=>by simp only[Aw,Au,As,AM,Bp,Int.ofNat_lt]) (fun i hi=>rfl)
     have e1:bNot (iNe (lLen a) (lLen b))=true:=by rw[AM,Dp,As,As,hl];simp
     rw[e1,Aw true,OW,AM (iLt _ (lLen a)),Au _ (lLen a)];simp only[← AQ,As] at hv ⊢;simp only[DA,Cc];rw[hv];simp
 · have e1:bNot (iNe (lLen a) (lLen b))=false:=by rw[AM,Dp,As,As];simp;omega
   refine⟨⟨fun _=>trivial,fun h=>?_⟩,?_⟩
   · rw[AM] at e1;rw[h] at e1;cases e1
   · rw[e1,Aw,HF];constructor
     · intro h;cases h
     · intro e;subst e;exact absurd rfl hl
def B7(h:Int×Int×Int×Int×Int):Int×Int:=(h.2.2.1,h.2.2.2.1)
theorem qn(dn:List (Int×Int×Int×Int×Int))(i:Nat):(dn.map B7).getD i (0,0)=B7 (dn.getD i (0,0,0,0,0)):=by
 rw[Cd,Cd,FH];cases dn[i]?<;>rfl
theorem uz{c:Int→Bool}{f:Int→Int}(n:Int)(h0:0≤n)(hn:n≤9223372036854775806)(hc:∀ st:Int,c st=true→st<n)(hf:∀ st,f st=iAdd .i64 st 1):0≤An c f 0:=
 (ZR (fun st=>0≤st∧st≤n) (fun st=>(n-st).toNat) (fun st hI h=>by
  have:=hc st h
  rw[hf,BS (by constructor<;>omega)]
  exact⟨by omega,by omega⟩) ⟨by omega,h0⟩).1.1
theorem cz(dn:List (Int×Int×Int×Int×Int))(k c m:Int):E3 (dn,k,c,m)=BQ (dn.map B7,c,m):=by
 rw[kL,YA];simp only[CY,qn,As,AF,B7]
theorem U0(dm:List (Int×Int))(q:Int×Int)(h:dm.length≤1048576):BQ (dm,q)=-1∨(0≤BQ (dm,q)∧BQ (dm,q)<dm.length):=by
 rw[YA,Bi,Au,As];split
 · rename_i hlt;rw[AX] at hlt;refine .inr ⟨uz dm.length (by omega) (by omega) (fun st hc=>?_) (fun _=>rfl),hlt⟩;rw[Aw,Au,Ah,AX] at hc;exact hc.1
 · exact .inl rfl
theorem tO(dn:List (Int×Int×Int×Int×Int))(q:Int×Int×Int)(h:dn.length≤1048576):Qr (dn,q):=by
 rw[ki];refine dg (fun st=>st) dn.length (by omega) (fun st _ _ h=>?_) (fun _=>rfl) (fun st h0 h1=>⟨fun hlt=>?_,fun _=>trivial⟩) (by simp) (by simp)
 · rw[Aw,Au,As,Ah,AX] at h;exact h.1
 · rw[Au,As,AX] at hlt;have a:(0:Int)≤st∧st<(dn.length:Int):=⟨h0,hlt⟩
   have b:iNat st<dn.length:=by rw[AQ];omega
   exact⟨a,b,fun _=>⟨a,b⟩,fun _=>trivial⟩
theorem tg(dm:List (Int×Int))(q:Int×Int)(h:dm.length≤1048576):Qw (dm,q):=by
 rw[jY];refine dg (fun st=>st) dm.length (by omega) (fun st _ _ h=>?_) (fun _=>rfl) (fun st h0 h1=>⟨fun hlt=>?_,fun _=>trivial⟩) (by simp) (by simp)
 · rw[Aw,Au,As,Ah,AX] at h;exact h.1
 · rw[Au,As,AX] at hlt;exact⟨⟨h0,hlt⟩,by rw[AQ];omega⟩
theorem me(dn:List (Int×Int×Int×Int×Int))(p:Int)(h0:0≤p)(h1:p<dn.length) :
 (Hg (dn,p)).map B7=lApp (lTake (dn.map B7) (lN (lSub (dn.map B7) 0 (iNat p)))) (lSub (dn.map B7) (iNat (iAdd .i64 p 1)) (lN (dn.map B7))):=by
 have hm:min p.toNat dn.length=p.toNat:=by omega
 rw[Xp]
 simp only[EE,aQ,FL,DP,AQ,HC,OX,EM,EO,Sw,List.map_drop,AF,Cp,hm]
theorem mc(dn:List (Int×Int×Int×Int×Int))(p:Int)(h0:0≤p)(h1:p<dn.length)(h:dn.length≤1048576):(Hg (dn,p)).length≤dn.length:=by
 rw[Xp];simp only[EE,FL,DP,AQ,HC,OX,EM,KL,CD,Cp];rw[BS (by constructor<;>omega)];omega
theorem U5(K p:Int)(A:Bool):bNot (bOr (bNot (B3 (K,0,2))) (bOr (bNot A) (bNot (bIff (iEq K 2) (iGe p 0)))))=
 bAnd (bNot (bNot A)) (bSel (bOr (iEq K 0) (iEq K 1)) (bNot (iGe p 0)) (bAnd (iEq K 2) (bNot (iLt p 0)))):=by
 have hp:decide (p<0)=!decide (0≤p):=by simp only[← decide_not,Int.not_le]
 rw[GJ]
 simp only[Aw,AM,BL,Mi,Bi,Co,Df,Ca,Au,hp]
 generalize decide (0≤p)=P
 have h:K=0∨K=1∨K=2∨(¬ (0≤K∧K≤2)):=by omega
 rcases h with h|h|h|h
 · subst h;cases A<;>cases P<;>decide
 · subst h;cases A<;>cases P<;>decide
 · subst h;cases A<;>cases P<;>decide
 · have e0:K≠0:=by omega
   have e1:K≠1:=by omega
   have e2:K≠2:=by omega
   have e3:(decide (0≤K)&&decide (K≤2))=false:=by rw[← Bool.decide_and];exact Cz h
   simp only[e3,e0,e1,e2,decide_false];cases A<;>rfl
theorem qQ {l:List (Int×Int×Int)} {cs:List (Int×Int×Int×Int×Int)×Int→Bool} {fs} {ci:List (Int×Int)×Int→Bool} {fi}
 (h:∀ (dn:List (Int×Int×Int×Int×Int)) (i:Int),0≤i→i≤l.length→dn.length≤i→cs (dn,i)=ci (dn.map B7,i)∧(cs (dn,i)=true→i<l.length∧∃ dn':List (Int×Int×Int×Int×Int),fs (dn,i)=(dn',i+1)∧fi (dn.map B7,i)=(dn'.map B7,i+1)∧dn'.length≤i+1)) :
 bAnd (bNot (iLt (An cs fs ([],0)).2 (lLen l))) (bAnd (iLe (lLen l) 8) (iEq (lLen (An cs fs ([],0)).1) 0))=
 bAnd (bNot (iGt (lLen l) 8)) (bAnd (bNot (iLt (An ci fi ([],0)).2 (lLen l))) (iEq (lLen (An ci fi ([],0)).1) 0)):=by
 have go:∀ (n:Nat) (dn:List (Int×Int×Int×Int×Int)) (i:Int),0≤i→i≤l.length→dn.length≤i→(l.length-i).toNat<n →
  ∃ (en:List (Int×Int×Int×Int×Int)) (j:Int),LoopTo cs fs (fun _=>True) (dn,i) (en,j)∧LoopTo ci fi (fun _=>True) (dn.map B7,i) (en.map B7,j):=by
  intro n
  induction n with
  |zero=>intro _ _ _ _ _ hm;exact absurd hm (R6 _)
  | succ n ih=>
    intro dn i h0 h1 h2 hm;obtain⟨a,b⟩:=h dn i h0 h1 h2
    cases hc:cs (dn,i) with
    |false=>exact⟨dn,i,.stop trivial hc,.stop trivial (by rw[← a,hc])⟩
    | true=>
      obtain⟨c1,dn',c2,c3,c4⟩:=b hc;obtain⟨en,j,d1,d2⟩:=ih dn' (i+1) (by omega) (by omega) c4 (by omega);exact⟨en,j,.go trivial hc (by rw[c2];exact d1),.go trivial (by rw[← a,hc]) (by rw[c3];exact d2)⟩
 obtain⟨en,j,d1,d2⟩:=go _ [] 0 (by omega) (by omega) (by simp) (Sa _)
 have d2:LoopTo ci fi (fun _=>True) ([],0) (en.map B7,j):=d2
 rw[d1.val,d2.val]
 simp only[Aw,AM,Ca,DB,As,AF,← decide_not,Int.not_lt]
 exact Bool.and_left_comm ..
theorem Uz (dn:List (Int×Int×Int×Int×Int)) (K c m p i:Int) (t:Bool) (n:Int) (hp:p=-1∨(0≤p∧p<dn.length)) (hd:dn.length≤i) (hi:i<n) (hn:n≤1048576)
 (hc:bSel (bOr (iEq K 0) (iEq K 1)) (bNot (iGe p 0)) (bAnd (iEq K 2) (bNot (iLt p 0)))=true) :
 bSel (bOr (iEq K 0) (iEq K 1)) (bSel (iEq K 1) (lApp (dn.map B7) [(c,m)]) (dn.map B7)) (lApp (lTake (dn.map B7) (lN (lSub (dn.map B7) 0 (iNat p)))) (lSub (dn.map B7) (iNat (iAdd .i64 p 1)) (lN (dn.map B7))))=
  (bSel (iEq K 1) (lApp dn [(0,2,c,m,0)]) (bSel (iEq K 2) (Hg (dn,p)) dn)).map B7 ∧
 ((bSel (iEq K 1) (lApp dn [(0,2,c,m,0)]) (bSel (iEq K 2) (Hg (dn,p)) dn)).length:Int)≤i+1:=by
 simp only[Bi,BL,Aw,AM,Co,Df,Au,Ce,AX] at hc ⊢
 by_cases k1:K=1
 · subst k1
   simp[EE,B7];omega
 · by_cases k0:K=0
   · subst k0;simp;omega
   · simp only[k0,k1,or_self,AL,Ah,AX,DA,Cc] at hc ⊢
     have h0:0≤p:=by omega
     have h1:p<dn.length:=by omega
     rw[Ab hc.1];refine⟨(me dn p h0 h1).symm,?_⟩;have:=mc dn p h0 h1 (by omega);omega
theorem ZC(x:List (Int×Int×Int))(h:x.length≤1048576):E2 x=Il x:=by
 rw[Yc,jK];refine qQ (fun dn i h0 h1 h2=>?_);have hr:=U0 (dn.map B7) ((lGet x (iNat i) (0,0,0)).2.1,(lGet x (iNat i) (0,0,0)).2.2) (by rw[AF];omega);rw[AF] at hr;simp only[cz,NY,Nq,U5];generalize BQ (dn.map B7,(lGet x (iNat i) (0,0,0)).2.1,(lGet x (iNat i) (0,0,0)).2.2)=p at hr ⊢;refine⟨trivial,fun hc=>?_⟩;rw[Aw,Aw,Au,As,Ah,Ah,AX] at hc;obtain⟨hc1,hc2,hc3⟩:=hc;obtain⟨s1,s2⟩:=Uz dn (lGet x (iNat i) (0,0,0)).1 (lGet x (iNat i) (0,0,0)).2.1 (lGet x (iNat i) (0,0,0)).2.2 p i true x.length hr h2 hc1 (by omega) hc3;rw[BS (a:=i) (b:=1) (by constructor<;>omega)];exact⟨hc1,_,rfl,by rw[s1],s2⟩
theorem Oa{k w:Nat}(h:k≤1048577)(hw:w≤1000):A5 (k*w):=by
 unfold A5;exact Dq (Nat.mul_le_mul h hw) (by decide)
theorem mZ(dn:List (Int×Int×Int×Int×Int))(p:Int)(h0:0≤p)(h1:p<dn.length)(h:dn.length≤1048576):P8 (dn,p):=by
 rw[iz,BS (a:=p) (b:=1) (by constructor<;>omega)];simp only[AQ,FL,EE,DP,HC,OX,EM,KL,CD,AO,Cp];refine⟨⟨h0,by omega,by omega,by omega⟩,⟨by omega,by omega,by omega,by omega⟩,Oa (by omega) (by omega),Oa (by omega) (by omega)⟩
theorem Yl(x:List (Int×Int×Int))(h:x.length≤1048576):NA x:=by
 rw[jx];refine(IE (fun st:List (Int×Int×Int×Int×Int)×Int=>0≤st.2∧st.2≤(x.length:Int)∧(st.1.length:Int)≤st.2) (fun st=>((x.length:Int)-st.2).toNat) (fun st hI=>?_) ⟨by simp,by simp,by simp⟩).1;obtain⟨dn,i⟩:=st;obtain⟨i0,i1,i2⟩:=hI;simp only at i0 i1 i2;have hr:=U0 (dn.map B7) ((lGet x (iNat i) (0,0,0)).2.1,(lGet x (iNat i) (0,0,0)).2.2) (by rw[AF];omega);rw[AF] at hr;have hf:=tO dn ((lGet x (iNat i) (0,0,0)).1,(lGet x (iNat i) (0,0,0)).2.1,(lGet x (iNat i) (0,0,0)).2.2) (by omega);simp only[cz,NY,Nq,U5,Xo,XP,NP];generalize BQ (dn.map B7,(lGet x (iNat i) (0,0,0)).2.1,(lGet x (iNat i) (0,0,0)).2.2)=p at hr ⊢;refine⟨⟨fun hlt=>?_,fun _=>trivial⟩,fun hc=>?_⟩
 · rw[Au,As,AX] at hlt;refine⟨⟨i0,hlt⟩,by rw[AQ];omega,hf,⟨trivial,fun _=>trivial,fun _=>⟨trivial,trivial⟩⟩,fun _=>trivial,fun hc=>⟨fun _=>⟨trivial,Oa (by simp only[AP,AO];omega) (by omega)⟩,fun k1=>⟨fun k2=>?_,fun _=>trivial⟩⟩⟩;have hc:=congrArg bNot hc;rw[U5] at hc;simp only[Bi,BL,Aw,AM,Co,Df,Au,AX] at hc k1 k2;simp[k2] at hc;exact mZ dn p (by omega) (by omega) (by omega)
 · rw[Aw,Aw,Au,As,Ah,Ah,AX] at hc;obtain⟨hc1,hc2,hc3⟩:=hc;obtain⟨s1,s2⟩:=Uz dn (lGet x (iNat i) (0,0,0)).1 (lGet x (iNat i) (0,0,0)).2.1 (lGet x (iNat i) (0,0,0)).2.2 p i true x.length hr i2 hc1 (by omega) hc3;rw[BS (a:=i) (b:=1) (by constructor<;>omega)];exact⟨⟨by show 0≤i+1;omega,by show i+1≤_;omega,s2⟩,by show (_-(i+1)).toNat<_;omega⟩
theorem TI(x:List (Int×Int×Int))(h:x.length≤1048576):Nu x:=by
 rw[ju];refine⟨fun _=>trivial,fun _=>?_⟩;refine(IE (fun st:List (Int×Int)×Int=>0≤st.2∧st.2≤(x.length:Int)∧∃ dn:List (Int×Int×Int×Int×Int),st.1=dn.map B7∧(dn.length:Int)≤st.2) (fun st=>((x.length:Int)-st.2).toNat) (fun st hI=>?_) ⟨by simp,by simp,[],rfl,by simp⟩).1;obtain⟨dm,i⟩:=st;obtain⟨i0,i1,dn,rfl,i2⟩:=hI;simp only at i0 i1 i2;have hr:=U0 (dn.map B7) ((lGet x (iNat i) (0,0,0)).2.1,(lGet x (iNat i) (0,0,0)).2.2) (by rw[AF];omega);have hf:=tg (dn.map B7) ((lGet x (iNat i) (0,0,0)).2.1,(lGet x (iNat i) (0,0,0)).2.2) (by rw[AF];omega);rw[AF] at hr;simp only[Te];generalize BQ (dn.map B7,(lGet x (iNat i) (0,0,0)).2.1,(lGet x (iNat i) (0,0,0)).2.2)=p at hr ⊢;refine⟨⟨fun hlt=>?_,fun _=>trivial⟩,fun hc=>?_⟩
 · rw[Au,As,AX] at hlt;refine⟨⟨i0,hlt⟩,by rw[AQ];omega,hf,trivial,fun _=>trivial,fun _=>⟨fun _=>⟨fun _=>trivial,fun _=>⟨fun _=>Oa (by simp only[AF,AP,AO];omega) (by omega),fun _=>trivial⟩⟩,fun _=>⟨fun _=>⟨fun _=>trivial,fun hp=>?_⟩,fun _=>trivial⟩⟩⟩;rw[Au,Cc] at hp
   have h0:0≤p:=by omega
   have h1:p<dn.length:=by omega
   rw[BS (a:=p) (b:=1) (by constructor<;>omega)];simp only[AQ,FL,DP,HC,OX,EM,KL,AF];exact⟨⟨h0,by omega,by omega,by omega⟩,⟨by omega,by omega,by omega,by omega⟩,by omega,by omega,Oa (by omega) (by omega)⟩
 · rw[Aw,Aw,Au,As,Ah,Ah,AX] at hc;obtain⟨hc1,hc2,hc3⟩:=hc;obtain⟨s1,s2⟩:=Uz dn (lGet x (iNat i) (0,0,0)).1 (lGet x (iNat i) (0,0,0)).2.1 (lGet x (iNat i) (0,0,0)).2.2 p i true x.length hr i2 hc1 (by omega) hc3;rw[BS (a:=i) (b:=1) (by constructor<;>omega)];exact⟨⟨by show 0≤i+1;omega,by show i+1≤_;omega,_,s1,s2⟩,by show (_-(i+1)).toNat<_;omega⟩
abbrev I5:=List (Int×Int×Int×Int×Int)
section
set_option maxRecDepth 20000
def mA(s:Int×Int×Int):Int×Int×Int×Int×Int:=(0,2,s.2.1,s.2.2,0)
def Wy(dn:I5)(s:Int×Int×Int):I5:=if s.1=1 then dn++[mA s] else if s.1=2 then Hg (dn,E3 (dn,s)) else dn
def SZ(dn:I5)(s:Int×Int×Int):Prop:=0≤s.1∧s.1≤2∧Ev (2,s.2.1,s.2.2,0)=true∧(s.1=2↔0≤E3 (dn,s))
def I7(x:List (Int×Int×Int))(i:Nat):I5:=(x.take i).foldl Wy []
theorem re(x:List (Int×Int×Int)){i:Nat}(h:i<x.length):I7 x (i+1)=Wy (I7 x i) (x.getD i (0,0,0)):=by
 unfold I7;rw[← Ra x (0,0,0) h,List.foldl_append];rfl
theorem ti {c:I5×Int→Bool} {f:I5×Int→I5×Int} (x:List (Int×Int×Int)) (h1:¬ (An c f ([],0)).2<lLen x) (hc:∀ (dn:I5) (i:Nat),c (dn,(i:Int))=true→i<x.length∧SZ dn (x.getD i (0,0,0)))
 (hf:∀ (dn:I5) (i:Nat),i<x.length→f (dn,(i:Int))=(Wy dn (x.getD i (0,0,0)),(i:Int)+1)):(An c f ([],0)).1=I7 x x.length∧∀ i,i<x.length→SZ (I7 x i) (x.getD i (0,0,0)):=by
 have key:=ZR (c:=c) (f:=f) (fun st=>∃ i:Nat,st=(I7 x i,(i:Int))∧i≤x.length∧∀ j,j<i→SZ (I7 x j) (x.getD j (0,0,0))) (fun st=>x.length-st.2.toNat) (fun st hI hcc=>by
  obtain⟨i,rfl,hi,hj⟩:=hI;obtain⟨g1,g2⟩:=hc _ i hcc;rw[hf _ i g1];refine⟨⟨i+1,by rw[re x g1];simp,by omega,fun j hj'=>?_⟩,by simp only;omega⟩;rcases AZ j i with h|h
  · exact hj j h
  · have:j=i:=by omega
    subst this;exact g2) (x0:=([],0)) ⟨0,rfl,FI _,fun j hj=>by omega⟩
 obtain⟨⟨i,e,hi,hj⟩,_⟩:=key
 rw[e,As] at h1
 rw[e]
 simp only at h1
 have:i=x.length:=by omega
 subst this
 exact⟨rfl,hj⟩
theorem Zj(x:List (Int×Int×Int))(h:x.length≤1048576)(hm:E2 x=true):x.length≤8∧I7 x x.length=[]∧∀ i,i<x.length→SZ (I7 x i) (x.getD i (0,0,0)):=by
 rw[Yc,Aw,Aw,Ah,Ah] at hm;obtain⟨h1,h2,h3⟩:=hm;rw[AM,DA,Au _ (lLen x),Cc] at h1;rw[Ca,As,AX] at h2;rw[Co,As,AX] at h3
 obtain⟨g1,g2⟩:=ti x h1 (fun dn i hc=>by
  simp only[As,CY,AQ,Bp,Nq,NY,sE,Aw,AM,BL,Mi,Au,Co,Df,Ah,DA,DU,JM,AX,AW] at hc;obtain⟨c1,⟨c2,c3⟩,c4,c5⟩:=hc;refine⟨by omega,c2,c3,c4,?_⟩;have:=congrArg (·=true) c5
  simpa using this) (fun dn i hi=>by
  simp only[CY,AQ,Bp,Nq,Bi,Co,AX,EE];rw[BS (by unfold AU;omega)]
  rfl)
 refine⟨by omega,?_,g2⟩;rw[← g1];exact EN (by omega)
end
section
set_option maxRecDepth 20000
def CL(s:Int×Int×Int):List UInt8:=([([116,100,117]:List UInt8).getD s.1.toNat 0]++[61])++BD (2,s.2.1,s.2.2,0)
theorem qi(s:Int×Int×Int):(CL s).length≤22:=by
 have:=(Ke (2,s.2.1,s.2.2,0)).2.2.2;unfold CL;simp only[CD,AP,AO];omega
theorem jI(x:List (Int×Int×Int))(h:x.length≤1048576):Tc x∧PU x∧P2 x=P0 x∧P0 x=(if E2 x=true then Bt (x.map CL) [32] else []):=by
 have s1:=Yl x h;have s2:=TI x h;rw[fV,gh,gf,ga,← ZC x h]
 cases hv:E2 x with
 | false=>
   have L1:=Dj (c:=I9 x) (f:=Lr x) (p:=Lp x) 0 (fun _=>([],0)) (x0:=([],0)) rfl (fun k h=>by omega) (by
    simp only[I9,Lp,hv,Aw,Bool.and_false]
    exact⟨⟨⟨fun _=>s1,fun _=>trivial⟩,fun h=>(by cases h),fun _=>trivial⟩,trivial⟩)
   obtain⟨j1,j2⟩:=bN [] [32] (by simp) (by simp);rw[L1.2,AM];simp only[Bool.not_false,AR,j2];exact⟨⟨L1.1,j1⟩,⟨s2,fun _=>trivial,fun h=>(by cases h)⟩,by first|rfl|trivial,by simp[Bt,List.intercalate]⟩
 | true=>
   obtain⟨hl,_,hok⟩:=Zj x h hv
   have sub:∀ K:Int,0≤K→K≤2→lSub ([116,100,117]:List UInt8) K.toNat (K+1).toNat=[([116,100,117]:List UInt8).getD K.toNat 0]:=fun K h0 h2=>by
    rcases (show K=0∨K=1∨K=2 by omega) with rfl|rfl|rfl<;>rw[DP]<;>rfl
   have stp:∀ k,k<x.length→(x.take (k+1)).map CL=(x.take k).map CL++[CL (x.getD k (0,0,0))]:=fun k hk=>by
    rw[← Ra x (0,0,0) hk,EO];rfl
   have L1:=Dj (c:=I9 x) (f:=Lr x) (p:=Lp x) x.length (fun k=>((x.take k).map CL,(k:Int))) (x0:=([],0)) (by simp) (fun k hk=>by
    have i1:iLt (k:Int) (lLen x)=true:=by rw[Au,As];exact BI (by omega)
    have ad:iAdd .i64 (k:Int) 1=((k+1:Nat):Int):=by rw[BS (by unfold AU;omega)];rfl
    obtain⟨o0,o2,_⟩:=hok k hk;have sp:=stp k hk;have gk:lGet x k (0,0,0)=x.getD k (0,0,0):=CY _ _ _;simp only[I9,Lr,Lp,i1,hv,ad,sp,AQ,Bp,gk,Nq,XP,EE,Hu,Aw,Cw];generalize x.getD k (0,0,0)=s at o0 o2;obtain⟨K,c,m⟩:=s;have o0:0≤K:=o0;have o2:K≤2:=o2;obtain⟨f1,_,_,f4⟩:=Ke (2,c,m,0);have ak:iAdd .i64 K 1=K+1:=BS (by unfold AU;omega);simp only[ak,sub K o0 o2,CD,AP,AO,AF,EM];refine⟨?_,trivial,rfl⟩
    repeat' (first|exact trivial|assumption|omega|exact Ho (by omega)|apply And.intro|(intro hh;first|cases hh;done|skip))) (by
    have i1:iLt (x.length:Int) (lLen x)=false:=by rw[Au,As];exact Cz (by omega)
    simp only[I9,Lp,i1,Aw,HF]
    exact⟨⟨⟨fun h=>(by cases h),fun _=>trivial⟩,fun h=>(by cases h),fun _=>trivial⟩,trivial⟩)
   have L2:=Dj (c:=Lq x) (f:=M5 x) (p:=PM x) x.length (fun k=>((x.take k).map CL,(k:Int))) (x0:=([],0)) (by simp) (fun k hk=>by
    have i1:iLt (k:Int) (lLen x)=true:=by rw[Au,As];exact BI (by omega)
    have ad:iAdd .i64 (k:Int) 1=((k+1:Nat):Int):=by rw[BS (by unfold AU;omega)];rfl
    obtain⟨o0,o2,_⟩:=hok k hk;have sp:=stp k hk;have gk:lGet x k (0,0,0)=x.getD k (0,0,0):=CY _ _ _;simp only[Lq,M5,PM,i1,ad,sp,AQ,Bp,gk,EE,Hu];generalize x.getD k (0,0,0)=s at o0 o2;obtain⟨K,c,m⟩:=s;have o0:0≤K:=o0;have o2:K≤2:=o2;obtain⟨_,f2,f3,f4⟩:=Ke (2,c,m,0);have ak:iAdd .i64 K 1=K+1:=BS (by unfold AU;omega);simp only[ak,sub K o0 o2,f3,CD,AP,AO,AF,EM];refine⟨?_,trivial,rfl⟩
    repeat' (first|exact trivial|assumption|omega|exact Ho (by omega)|apply And.intro|(intro hh;first|cases hh;done|skip))) (by
    have i1:iLt (x.length:Int) (lLen x)=false:=by rw[Au,As];exact Cz (by omega)
    simp only[Lq,PM,i1]
    exact⟨⟨fun h=>(by cases h),fun _=>trivial⟩,trivial⟩)
   rw[L1.2,L2.2,AM];simp only[Gd,AN,IP]
   have wl:∀ w∈x.map CL,w.length+([32]:List UInt8).length≤100:=fun w hw=>by
    obtain⟨k,hk,rfl⟩:=List.mem_map.1 hw;have:=qi k;simp only[AP,AO];omega
   have ln:(x.map CL).length≤1048576:=by rw[AF];exact h
   obtain⟨j1,j2⟩:=bN (x.map CL) [32] ln wl
   have jl:(Bt (x.map CL) [32]).length≤104857600:=
    Dq (U2 [32] 100 _ wl) (Nat.mul_le_mul ln (AB _))
   have j3:Qe (x.map CL,[32]):=by
    rw[iX,X7];exact⟨Dq ln (by decide),Dq jl (by decide)⟩
   have j4:Qn (x.map CL,[32])=Bt (x.map CL) [32]:=by rw[jo,XS]
   rw[j2,j4];exact⟨⟨L1.1,j1⟩,⟨s2,fun h=>(by cases h),fun _=>⟨L2.1,j3⟩⟩,rfl,by simp⟩
end
end
end Go.Ag
