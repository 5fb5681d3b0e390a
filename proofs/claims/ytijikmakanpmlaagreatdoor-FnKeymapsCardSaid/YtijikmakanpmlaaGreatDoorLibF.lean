/- Part 6 of what FnKeymaps needs. No conditions. -/
import Derived.Test.YtijikmakanpmlaaGreatDoorLibE
namespace Go.Ag
set_option linter.unusedSimpArgs false
set_option linter.unusedVariables false
noncomputable section
section
set_option maxRecDepth 8000
def jO:DCode:=(.seq [1,0] (.region [oa 0 4 (.mv (.c (.str []))),oa 1 5 (.mv (.c (.str []))),oa 2 6 (.mv (.c (.bool false)))]) (.seq [0] (.seq [7,1,0] (.region [om 0 8 0,om 1 9 1,oc 2 10 OK OJ Zu [(.t 8),(.t 9)],om 3 7 10]) (.seq [12,7,1,0] (.region [om 0 11 7,oa 1 12 (.bin .geq (.t 11) (.c (.int .i64 0)))]) (.cond (.t 12) (.seq [6,5,4] (.region [om 0 13 0,om 1 14 7,xA 2 15 (.substr (.t 13) none (some (.t 14))) (rg 2),om 3 16 0,om 4 17 7,om 5 18 1,xA 6 19 (.lenT (.t 18)) [5],xA 7 20 (.bin .add (.t 17) (.t 19)) [4,5,6],xA 8 21 (.substr (.t 16) (some (.t 20)) none) [3,4,5,6,7],xA 9 4 (.mv (.t 15)) [0,1,2],xA 10 5 (.mv (.t 21)) (rg 10),xA 11 6 (.mv (.c (.bool true))) (rg 11)]) .ret) .skip))) (.seq [6,5,4] (.region [om 0 22 0,om 1 4 22,oa 2 5 (.mv (.c (.str []))),oa 3 6 (.mv (.c (.bool false)))]) .ret)))
def IK:Fn:=⟨⟨2,23,0,true,[.tmp 4,.tmp 5,.tmp 6],jO⟩,[.one .frz (.str),.one .frz (.str)],.tup [.one .own (.str),.one .own (.str),.one .own (.bool)]⟩
theorem jN:IK.A:=BS ⟨jJ,trivial⟩
def Vc:List UInt8×List UInt8→List UInt8×List UInt8×Bool:=IK.V
def Vb:List UInt8×List UInt8→Prop:=IK.O
theorem jM:IK.B:=BV ⟨jK,trivial⟩ (by kernel_rfl) (fun x=>by kernel_rfl)
def nz:DCode:=(.seq [1,0] (.region [oa 0 4 (.mv (.c (.str []))),oa 1 5 (.mv (.c (.str []))),oa 2 6 (.mv (.c (.bool false)))]) (.seq [6,5,4] (.region [om 0 7 0,om 1 8 1,oF 2 9 IK [(.t 7),(.t 8)],oa 3 10 (.extract (.t 9) 0),oa 4 11 (.extract (.t 9) 1),oa 5 12 (.extract (.t 9) 2),om 6 4 10,om 7 5 11,om 8 6 12]) .ret))
def Ha:Fn:=⟨⟨2,13,0,true,[.tmp 4,.tmp 5,.tmp 6],nz⟩,[.one .frz (.str),.one .frz (.str)],.tup [.one .own (.str),.one .own (.str),.one .own (.bool)]⟩
theorem bc:Ha.A:=BS ⟨jN,trivial⟩
def B0:List UInt8×List UInt8→List UInt8×List UInt8×Bool:=Ha.V
def Lz:List UInt8×List UInt8→Prop:=Ha.O
theorem aC:Ha.B:=BV ⟨jM,trivial⟩ (by kernel_rfl) (fun x=>by kernel_rfl)
def lA:DCode:=(.seq [0] (.region [oi 0 2 0]) (.seq [] (.seq [3,0] (.region [oi 0 3 1]) (.block 0 (.loop [0,3] 1 (.seq [3,0] (.seq [5,3,0] (.region [om 0 4 3,oa 1 5 (.bin .leq (.t 4) (.c (.int .i64 15)))]) (.cond (.t 5) .skip (.exit 0))) (.seq [3,0] (.block 1 (.seq [11,3,0] (.region [om 0 8 3,oF 1 9 EK [(.t 8)],om 2 10 0,oa 3 11 (.bin .eql (.t 9) (.t 10))]) (.cond (.t 11) (.seq [2] (.region [om 0 12 3,om 1 2 12]) .ret) .skip))) (.region [om 0 6 3,oa 1 7 (.bin .add (.t 6) (.c (.int .i64 1))),om 2 3 7])))))) (.seq [2] (.region [oi 0 2 0]) .ret)))
def FN:Fn:=⟨⟨1,13,0,true,[.tmp 2],lA⟩,[.one .frz (.str)],.one (.one .own (.int .i64))⟩
theorem Vr:FN.A:=BS ⟨RM,trivial⟩
def J4:List UInt8→Int:=FN.V
def Lj:List UInt8→Prop:=FN.O
theorem Vq:FN.B:=BV ⟨RL,trivial⟩ (by kernel_rfl) (fun x=>by kernel_rfl)
def lP:DCode:=(.seq [1,0] (.region [oa 0 4 (.mv (.c .nils))]) (.seq [5,1,0] (.region [oa 0 5 (.mv (.c .nils))]) (.seq [6,5,1,0] (.region [oi 0 6 0]) (.seq [6,5,0] (.seq [7,6,5,1,0] (.region [oi 0 7 0]) (.block 0 (.loop [0,1,5,6,7] 1 (.seq [7,6,5,1,0] (.seq [11,7,6,5,1,0] (.region [om 0 8 7,om 1 9 0,oa 2 10 (.lenT (.t 9)),oa 3 11 (.bin .lss (.t 8) (.t 10))]) (.cond (.t 11) .skip (.exit 0))) (.seq [7,6,5,1,0] (.block 1 (.seq [18,7,6,5,1,0] (.region [om 0 14 0,om 1 15 7,oa 2 16 (.index (.t 14) (.t 15)),om 3 17 1,oa 4 18 (.bin .eql (.t 16) (.t 17))]) (.cond (.t 18) (.seq [7,5,1,0] (.region [om 0 19 5,om 1 20 0,om 2 21 6,om 3 22 7,oa 4 23 (.substr (.t 20) (some (.t 21)) (some (.t 22))),⟨5,some 24,.a false (.litSlice 1 1 [(.str [])] [(0,1,(.t 23))]) (some (.one (.str))),none,[]⟩,oa 6 25 (.app 1 (.t 19) (.t 24)),om 7 5 25]) (.region [om 0 26 7,oa 1 27 (.bin .add (.t 26) (.c (.int .i64 1))),om 2 6 27])) .skip))) (.region [om 0 12 7,oa 1 13 (.bin .add (.t 12) (.c (.int .i64 1))),om 2 7 13])))))) (.seq [4] (.region [om 0 28 5,om 1 29 0,om 2 30 6,oa 3 31 (.substr (.t 29) (some (.t 30)) none),⟨4,some 32,.a false (.litSlice 1 1 [(.str [])] [(0,1,(.t 31))]) (some (.one (.str))),none,[]⟩,oa 5 33 (.app 1 (.t 28) (.t 32)),om 6 4 33]) .ret)))))
def Ja:Fn:=⟨⟨2,34,0,false,[.tmp 4],lP⟩,[.one .frz (.str),.one .frz (.int .u8)],.one (.one .own (.sl (.one (.str))))⟩
theorem lj:Ja.A:=BS trivial
def DN:List UInt8×Int→List (List UInt8):=Ja.V
def O3:List UInt8×Int→Prop:=Ja.O
theorem lu:Ja.B:=BV trivial (by kernel_rfl) (fun x=>by kernel_rfl)
def mV:DCode:=(.seq [0] (.region [oi 0 2 0]) (.seq [] (.seq [7,6,5,0] (.region [oc 0 5 Jd Lv Sc [(.c (.str [97,32,98,32,99,32,100,32,101,32,102,32,103,32,104,32,105,32,106,32,107,32,108,32,109,32,110,32,111,32,112,32,113,32,114,32,115,32,116,32,117,32,118,32,119,32,120,32,121,32,122,32,49,32,50,32,51,32,52,32,53,32,54,32,55,32,56,32,57,32,48,32,101,110,116,101,114,32,101,115,99,32,98,97,99,107,32,116,97,98,32,115,112,97,99,101,32,109,105,110,117,115,32,101,113,117,97,108,32,108,101,102,116,32,114,105,103,104,116,32,117,112,32,100,111,119,110,32,102,49,32,102,50,32,102,51,32,102,52,32,102,53,32,102,54,32,102,55,32,102,56,32,102,57])),(.c (.str [32]))],oa 1 6 (.len (.t 5)),oi 2 7 0]) (.block 0 (.loop [0,5,6,7] 1 (.seq [8,7,6,5,0] (.region [oa 0 8 (.bin .lss (.t 7) (.t 6))]) (.seq [7,6,5,0] (.cond (.t 8) .skip (.exit 0)) (.seq [7,6,5,0] (.block 1 (.seq [7,6,5,4,3,0] (.region [om 0 9 7,oa 1 10 (.indexA 1 (.t 5) (.t 7)),oa 2 11 (.loadH none (.t 10)),om 3 3 9,om 4 4 11]) (.seq [14,7,6,5,3,0] (.region [om 0 12 4,om 1 13 0,oa 2 14 (.bin .eql (.t 12) (.t 13))]) (.cond (.t 14) (.seq [2] (.region [om 0 15 3,oa 1 16 (.bin .add (.t 15) (.c (.int .i64 1))),om 2 2 16]) .ret) .skip)))) (.region [oa 0 17 (.bin .add (.t 7) (.c (.int .i64 1))),om 1 7 17]))))))) (.seq [2] (.region [oi 0 2 0]) .ret)))
def EX:Fn:=⟨⟨1,18,0,true,[.tmp 2],mV⟩,[.one .frz (.str)],.one (.one .own (.int .i64))⟩
theorem Sp:EX.A:=BS ⟨Vy,trivial⟩
def Hg:List UInt8→Int:=EX.V
def Ke:List UInt8→Prop:=EX.O
theorem Sd:EX.B:=BV ⟨VB,trivial⟩ (by kernel_rfl) (fun x=>by kernel_rfl)
end
section
set_option maxRecDepth 100000
def G2(x:List UInt8)(x0:Int):Bool:=(bAnd (iLe x0 15) (bNot (sEq (B7 x0) x)))
def IM(x0:Int):Int:=(iAdd .i64 x0 1)
def ku(x0:Int):Prop:=(((iLe x0 15)=true→(Li x0))∧((iLe x0 15)=false→True))
@[irreducible] def D6(x:List UInt8):Int:=(bSel (iLe (Am (G2 x) IM 1) 15) (Am (G2 x) IM 1) 0)
@[irreducible] def MT(x:List UInt8):Prop:=(LoopOk (G2 x) IM ku 1)
def Jc(x:List UInt8)(x0:Int):Bool:=(bAnd (iLe x0 56) (bNot (sEq (BC x0) x)))
def Ls(x0:Int):Int:=(iAdd .i64 x0 1)
def Lp(x0:Int):Prop:=(((iLe x0 56)=true→(Lr x0))∧((iLe x0 56)=false→True))
@[irreducible] def Ct(x:List UInt8):Int:=(bSel (iLe (Am (Jc x) Ls 1) 56) (Am (Jc x) Ls 1) 0)
@[irreducible] def Lw(x:List UInt8):Prop:=(LoopOk (Jc x) Ls Lp 1)
theorem Zw (x):Vc x=(bSel (iGe (D3 x) 0) ((lSub x.1 0 (iNat (D3 x))),(lSub x.1 (iNat (iAdd .i64 (D3 x) (lLen x.2))) (lN x.1)),true) (x.1,[],false)):=(IK.v x).trans (by kernel_rfl)
theorem Zx (x):Vb x=((JW x)∧(((iGe (D3 x) 0)=true→((((0:Int)≤(D3 x))∧((0≤(iNat (D3 x)))∧((iNat (D3 x))≤(List.length x.1))))∧(((0:Int)≤(iAdd .i64 (D3 x) (lLen x.2)))∧(((iNat (iAdd .i64 (D3 x) (lLen x.2)))≤(lN x.1))∧((lN x.1)≤(List.length x.1))))))∧((iGe (D3 x) 0)=false→True))):=(IK.o x).trans (by kernel_rfl)
theorem aO (x):B0 x=(Vc x):=(Ha.v x).trans (by kernel_rfl)
theorem aL (x):Lz x=(Vb x):=(Ha.o x).trans (by kernel_rfl)
def OW(x:List UInt8)(x0:Int):Bool:=(bAnd (iLe x0 15) (bNot (sEq (FM x0) x)))
def RA(x0:Int):Int:=(iAdd .i64 x0 1)
def km(x0:Int):Prop:=(((iLe x0 15)=true→(J0 x0))∧((iLe x0 15)=false→True))
theorem lz (x):J4 x=(bSel (iLe (Am (OW x) RA 1) 15) (Am (OW x) RA 1) 0):=(FN.v x).trans (by kernel_rfl)
theorem lB (x):Lj x=(LoopOk (OW x) RA km 1):=(FN.o x).trans (by kernel_rfl)
def HP(x:List UInt8×Int)(x0:((List (List UInt8))×(Int×Int))):Bool:=(iLt x0.2.2 (lLen x.1))
def IQ(x:List UInt8×Int)(x0:((List (List UInt8))×(Int×Int))):((List (List UInt8))×(Int×Int)):=((bSel (iEq (sGet x.1 x0.2.2) x.2) (lApp x0.1 [(lSub x.1 (iNat x0.2.1) (iNat x0.2.2))]) x0.1),(bSel (iEq (sGet x.1 x0.2.2) x.2) (iAdd .i64 x0.2.2 1) x0.2.1),(iAdd .i64 x0.2.2 1))
def Vk(x:List UInt8×Int)(x0:((List (List UInt8))×(Int×Int))):Prop:=(((iLt x0.2.2 (lLen x.1))=true→((((0:Int)≤x0.2.2)∧(x0.2.2<(((List.length x.1):Int))))∧(((iEq (sGet x.1 x0.2.2) x.2)=true→(((((0:Int)≤x0.2.1)∧((0:Int)≤x0.2.2))∧(((iNat x0.2.1)≤(iNat x0.2.2))∧((iNat x0.2.2)≤(List.length x.1))))∧(AE (((List.length x0.1)+(List.length [(lSub x.1 (iNat x0.2.1) (iNat x0.2.2))]))*1))))∧((iEq (sGet x.1 x0.2.2) x.2)=false→True))))∧((iLt x0.2.2 (lLen x.1))=false→True))
theorem lS (x):DN x=(lApp (Am (HP x) (IQ x) ([],0,0)).1 [(lSub x.1 (iNat (Am (HP x) (IQ x) ([],0,0)).2.1) (lN x.1))]):=(Ja.v x).trans (by kernel_rfl)
theorem lQ (x):O3 x=((LoopOk (HP x) (IQ x) (Vk x) ([],0,0))∧((((0:Int)≤(Am (HP x) (IQ x) ([],0,0)).2.1)∧(((iNat (Am (HP x) (IQ x) ([],0,0)).2.1)≤(lN x.1))∧((lN x.1)≤(List.length x.1))))∧(AE (((List.length (Am (HP x) (IQ x) ([],0,0)).1)+(List.length [(lSub x.1 (iNat (Am (HP x) (IQ x) ([],0,0)).2.1) (lN x.1))]))*1)))):=(Ja.o x).trans (by kernel_rfl)
def MX(x:List UInt8)(x0:Int):Bool:=(bAnd (iLt x0 (lLen (BA ([(97:UInt8),32,98,32,99,32,100,32,101,32,102,32,103,32,104,32,105,32,106,32,107,32,108,32,109,32,110,32,111,32,112,32,113,32,114,32,115,32,116,32,117,32,118,32,119,32,120,32,121,32,122,32,49,32,50,32,51,32,52,32,53,32,54,32,55,32,56,32,57,32,48,32,101,110,116,101,114,32,101,115,99,32,98,97,99,107,32,116,97,98,32,115,112,97,99,101,32,109,105,110,117,115,32,101,113,117,97,108,32,108,101,102,116,32,114,105,103,104,116,32,117,112,32,100,111,119,110,32,102,49,32,102,50,32,102,51,32,102,52,32,102,53,32,102,54,32,102,55,32,102,56,32,102,57],[(32:UInt8)])))) (bNot (sEq (lGet (BA ([(97:UInt8),32,98,32,99,32,100,32,101,32,102,32,103,32,104,32,105,32,106,32,107,32,108,32,109,32,110,32,111,32,112,32,113,32,114,32,115,32,116,32,117,32,118,32,119,32,120,32,121,32,122,32,49,32,50,32,51,32,52,32,53,32,54,32,55,32,56,32,57,32,48,32,101,110,116,101,114,32,101,115,99,32,98,97,99,107,32,116,97,98,32,115,112,97,99,101,32,109,105,110,117,115,32,101,113,117,97,108,32,108,101,102,116,32,114,105,103,104,116,32,117,112,32,100,111,119,110,32,102,49,32,102,50,32,102,51,32,102,52,32,102,53,32,102,54,32,102,55,32,102,56,32,102,57],[(32:UInt8)])) (iNat x0) []) x)))
def O6(x0:Int):Int:=(iAdd .i64 x0 1)
def R6(x0:Int):Prop:=(((iLt x0 (lLen (BA ([(97:UInt8),32,98,32,99,32,100,32,101,32,102,32,103,32,104,32,105,32,106,32,107,32,108,32,109,32,110,32,111,32,112,32,113,32,114,32,115,32,116,32,117,32,118,32,119,32,120,32,121,32,122,32,49,32,50,32,51,32,52,32,53,32,54,32,55,32,56,32,57,32,48,32,101,110,116,101,114,32,101,115,99,32,98,97,99,107,32,116,97,98,32,115,112,97,99,101,32,109,105,110,117,115,32,101,113,117,97,108,32,108,101,102,116,32,114,105,103,104,116,32,117,112,32,100,111,119,110,32,102,49,32,102,50,32,102,51,32,102,52,32,102,53,32,102,54,32,102,55,32,102,56,32,102,57],[(32:UInt8)]))))=true→((((0:Int)≤x0)∧(x0<(((List.length (BA ([(97:UInt8),32,98,32,99,32,100,32,101,32,102,32,103,32,104,32,105,32,106,32,107,32,108,32,109,32,110,32,111,32,112,32,113,32,114,32,115,32,116,32,117,32,118,32,119,32,120,32,121,32,122,32,49,32,50,32,51,32,52,32,53,32,54,32,55,32,56,32,57,32,48,32,101,110,116,101,114,32,101,115,99,32,98,97,99,107,32,116,97,98,32,115,112,97,99,101,32,109,105,110,117,115,32,101,113,117,97,108,32,108,101,102,116,32,114,105,103,104,116,32,117,112,32,100,111,119,110,32,102,49,32,102,50,32,102,51,32,102,52,32,102,53,32,102,54,32,102,55,32,102,56,32,102,57],[(32:UInt8)]))):Int))))∧((iNat x0)<(List.length (BA ([(97:UInt8),32,98,32,99,32,100,32,101,32,102,32,103,32,104,32,105,32,106,32,107,32,108,32,109,32,110,32,111,32,112,32,113,32,114,32,115,32,116,32,117,32,118,32,119,32,120,32,121,32,122,32,49,32,50,32,51,32,52,32,53,32,54,32,55,32,56,32,57,32,48,32,101,110,116,101,114,32,101,115,99,32,98,97,99,107,32,116,97,98,32,115,112,97,99,101,32,109,105,110,117,115,32,101,113,117,97,108,32,108,101,102,116,32,114,105,103,104,116,32,117,112,32,100,111,119,110,32,102,49,32,102,50,32,102,51,32,102,52,32,102,53,32,102,54,32,102,55,32,102,56,32,102,57],[(32:UInt8)]))))))∧((iLt x0 (lLen (BA ([(97:UInt8),32,98,32,99,32,100,32,101,32,102,32,103,32,104,32,105,32,106,32,107,32,108,32,109,32,110,32,111,32,112,32,113,32,114,32,115,32,116,32,117,32,118,32,119,32,120,32,121,32,122,32,49,32,50,32,51,32,52,32,53,32,54,32,55,32,56,32,57,32,48,32,101,110,116,101,114,32,101,115,99,32,98,97,99,107,32,116,97,98,32,115,112,97,99,101,32,109,105,110,117,115,32,101,113,117,97,108,32,108,101,102,116,32,114,105,103,104,116,32,117,112,32,100,111,119,110,32,102,49,32,102,50,32,102,51,32,102,52,32,102,53,32,102,54,32,102,55,32,102,56,32,102,57],[(32:UInt8)]))))=false→True))
theorem mZ (x):Hg x=(bSel (iLt (Am (MX x) O6 0) (lLen (BA ([(97:UInt8),32,98,32,99,32,100,32,101,32,102,32,103,32,104,32,105,32,106,32,107,32,108,32,109,32,110,32,111,32,112,32,113,32,114,32,115,32,116,32,117,32,118,32,119,32,120,32,121,32,122,32,49,32,50,32,51,32,52,32,53,32,54,32,55,32,56,32,57,32,48,32,101,110,116,101,114,32,101,115,99,32,98,97,99,107,32,116,97,98,32,115,112,97,99,101,32,109,105,110,117,115,32,101,113,117,97,108,32,108,101,102,116,32,114,105,103,104,116,32,117,112,32,100,111,119,110,32,102,49,32,102,50,32,102,51,32,102,52,32,102,53,32,102,54,32,102,55,32,102,56,32,102,57],[(32:UInt8)])))) (iAdd .i64 (Am (MX x) O6 0) 1) 0):=(EX.v x).trans (by kernel_rfl)
theorem mU (x):Ke x=((I8 ([(97:UInt8),32,98,32,99,32,100,32,101,32,102,32,103,32,104,32,105,32,106,32,107,32,108,32,109,32,110,32,111,32,112,32,113,32,114,32,115,32,116,32,117,32,118,32,119,32,120,32,121,32,122,32,49,32,50,32,51,32,52,32,53,32,54,32,55,32,56,32,57,32,48,32,101,110,116,101,114,32,101,115,99,32,98,97,99,107,32,116,97,98,32,115,112,97,99,101,32,109,105,110,117,115,32,101,113,117,97,108,32,108,101,102,116,32,114,105,103,104,116,32,117,112,32,100,111,119,110,32,102,49,32,102,50,32,102,51,32,102,52,32,102,53,32,102,54,32,102,55,32,102,56,32,102,57],[(32:UInt8)]))∧(LoopOk (MX x) O6 R6 0)):=(EX.o x).trans (by kernel_rfl)
attribute [irreducible] Vc Vb B0 Lz J4 Lj DN O3 Hg Ke
end
section
set_option maxRecDepth 8000
def lv:DCode:=(.seq [0] (.region [oa 0 2 (.mv (.c (.str [])))]) (.seq [2] (.region [om 0 3 0,oc 1 4 Pk Pg aR [(.t 3)],om 2 2 4]) .ret))
def EM:Fn:=⟨⟨1,5,0,true,[.tmp 2],lv⟩,[.one .frz (.int .i64)],.one (.one .own (.str))⟩
theorem Vv:EM.A:=BS ⟨my,trivial⟩
def FO:Int→List UInt8:=EM.V
def I5:Int→Prop:=EM.O
theorem Vp:EM.B:=BV ⟨mz,trivial⟩ (by kernel_rfl) (fun x=>by kernel_rfl)
def nr:DCode:=(.seq [0] (.region [oa 0 2 (.mv (.c (.str [])))]) (.seq [] (.seq [3] (.region [om 0 3 0]) (.block 0 (.seq [4,3] (.region [oa 0 5 (.bin .eql (.t 3) (.c (.int .i64 3))),om 1 4 5]) (.cond (.t 4) (.seq [2] (.region [oa 0 2 (.mv (.c (.str [109,111,58])))]) .ret) (.seq [6,3] (.region [oa 0 7 (.bin .eql (.t 3) (.c (.int .i64 4))),om 1 6 7]) (.cond (.t 6) (.seq [2] (.region [oa 0 2 (.mv (.c (.str [116,103,58])))]) .ret) (.seq [8,3] (.region [oa 0 9 (.bin .eql (.t 3) (.c (.int .i64 5))),om 1 8 9]) (.cond (.t 8) (.seq [2] (.region [oa 0 2 (.mv (.c (.str [116,111,58])))]) .ret) (.seq [10] (.region [oa 0 11 (.bin .eql (.t 3) (.c (.int .i64 9))),om 1 10 11]) (.cond (.t 10) (.seq [2] (.region [oa 0 2 (.mv (.c (.str [109,97,99,114,111,58])))]) .ret) .skip)))))))))) (.seq [2] (.region [oa 0 2 (.mv (.c (.str [])))]) .ret)))
def Hb:Fn:=⟨⟨1,12,0,true,[.tmp 2],nr⟩,[.one .frz (.int .i64)],.one (.one .own (.str))⟩
theorem aK:Hb.A:=BS trivial
def Hf:Int→List UInt8:=Hb.V
def Pj:Int→Prop:=Hb.O
theorem aF:Hb.B:=BV trivial (by kernel_rfl) (fun x=>by kernel_rfl)
def j8:DCode:=(.seq [1] (.region [oa 0 1 (.boxB 0 4 (.t 0)),oa 1 2 (.mv (.c (.str [])))]) (.seq [1] (.seq [5,1] (.region [oa 0 3 (.loadB 0 (some 4) (.t 1)),oF 1 4 D7 [(.t 3)],oa 2 5 (.un .not (.t 4))]) (.cond (.t 5) (.seq [2] (.region [oa 0 2 (.mv (.c (.str [])))]) .ret) .skip)) (.seq [1] (.seq [7,1] (.region [oa 0 6 (.fieldA 0 (.t 1)),oa 1 7 (.loadB 0 none (.t 6))]) (.block 0 (.seq [8,7,1] (.region [oa 0 9 (.bin .eql (.t 7) (.c (.int .i64 0))),om 1 8 9]) (.cond (.t 8) (.seq [2] (.region [oa 0 2 (.mv (.c (.str [110,111,110,101])))]) .ret) (.seq [10,7,1] (.region [oa 0 11 (.bin .eql (.t 7) (.c (.int .i64 1))),om 1 10 11]) (.cond (.t 10) (.seq [2] (.region [oa 0 2 (.mv (.c (.str [112,97,115,115])))]) .ret) (.seq [12,7,1] (.region [oa 0 13 (.bin .eql (.t 7) (.c (.int .i64 10))),om 1 12 13]) (.cond (.t 12) (.seq [2] (.region [oa 0 2 (.mv (.c (.str [99,97,112,115])))]) .ret) (.seq [14,7,1] (.region [oa 0 15 (.bin .eql (.t 7) (.c (.int .i64 2))),om 1 14 15]) (.cond (.t 14) (.seq [1] (.seq [18,1] (.region [oa 0 16 (.fieldA 2 (.t 1)),oa 1 17 (.loadB 0 none (.t 16)),oa 2 18 (.bin .neq (.t 17) (.c (.int .i64 0)))]) (.cond (.t 18) (.seq [2] (.region [oa 0 19 (.fieldA 2 (.t 1)),xA 1 20 (.loadB 0 none (.t 19)) (rg 1),oa 4 23 (.fieldA 1 (.t 1)),xA 5 24 (.loadB 0 none (.t 23)) [4],xF 2 21 EK [(.t 20)] (rg 2),xA 3 22 (.bin .add (.t 21) (.c (.str [45]))) (rg 3),xF 6 25 EO [(.t 24)] [0,1,2,4,5],xA 7 26 (.bin .add (.t 22) (.t 25)) (rg 7),xA 8 2 (.mv (.t 26)) (rg 8)]) .ret) .skip)) (.seq [2] (.region [oa 0 27 (.fieldA 1 (.t 1)),oa 1 28 (.loadB 0 none (.t 27)),oF 2 29 EO [(.t 28)],om 3 2 29]) .ret)) (.seq [30,7,1] (.region [oa 0 31 (.bin .eql (.t 7) (.c (.int .i64 6))),om 1 30 31]) (.cond (.t 30) (.seq [2] (.region [oa 0 32 (.fieldA 2 (.t 1)),xA 1 33 (.loadB 0 none (.t 32)) (rg 1),oa 4 36 (.fieldA 1 (.t 1)),xA 5 37 (.loadB 0 none (.t 36)) [4],xF 2 34 EK [(.t 33)] (rg 2),xA 3 35 (.bin .add (.t 34) (.c (.str [47]))) (rg 3),xF 6 38 EO [(.t 37)] [0,1,2,4,5],xA 7 39 (.bin .add (.t 35) (.t 38)) (rg 7),xA 8 2 (.mv (.t 39)) (rg 8)]) .ret) (.seq [40,7,1] (.region [oa 0 41 (.bin .eql (.t 7) (.c (.int .i64 7))),om 1 40 41]) (.cond (.t 40) (.seq [2] (.region [oa 0 42 (.fieldA 3 (.t 1)),xA 1 43 (.loadB 0 none (.t 42)) (rg 1),oa 4 46 (.fieldA 1 (.t 1)),xA 5 47 (.loadB 0 none (.t 46)) [4],xF 2 44 EM [(.t 43)] (rg 2),xA 3 45 (.bin .add (.t 44) (.c (.str [47]))) (rg 3),xF 6 48 EO [(.t 47)] [0,1,2,4,5],xA 7 49 (.bin .add (.t 45) (.t 48)) (rg 7),xA 8 2 (.mv (.t 49)) (rg 8)]) .ret) (.seq [50,1] (.region [oa 0 51 (.bin .eql (.t 7) (.c (.int .i64 8))),om 1 50 51]) (.cond (.t 50) (.seq [2] (.region [oa 0 52 (.fieldA 2 (.t 1)),oa 1 53 (.loadB 0 none (.t 52)),oF 2 54 EK [(.t 53)],oa 3 55 (.bin .add (.c (.str [111,110,99,101,58])) (.t 54)),om 4 2 55]) .ret) .skip)))))))))))))))) (.seq [2] (.region [oa 0 56 (.fieldA 0 (.t 1)),xA 1 57 (.loadB 0 none (.t 56)) (rg 1),oa 3 59 (.fieldA 3 (.t 1)),xA 4 60 (.loadB 0 none (.t 59)) [3],xF 2 58 Hb [(.t 57)] (rg 2),xF 5 61 EM [(.t 60)] (rg 5),xA 6 62 (.bin .add (.t 58) (.t 61)) (rg 6),xA 7 2 (.mv (.t 62)) (rg 7)]) .ret))))
def FL:Fn:=⟨⟨1,63,1,true,[.tmp 2],j8⟩,[.agg [(.frz,.int .i64),(.frz,.int .i64),(.frz,.int .i64),(.frz,.int .i64)]],.one (.one .own (.str))⟩
theorem Zy:FL.A:=BS ⟨O5,RM,RV,RV,RM,RV,Vv,RV,RM,aK,Vv,trivial⟩
def JZ:Int×Int×Int×Int→List UInt8:=FL.V
def OQ:Int×Int×Int×Int→Prop:=FL.O
theorem ZG:FL.B:=BV ⟨O4,RL,R9,R9,RL,R9,Vp,R9,RL,aF,Vp,trivial⟩ (by kernel_rfl) (fun x=>by kernel_rfl)
end
section
set_option maxRecDepth 100000
def Gw(x0:((List UInt8)×Int)):Bool:=(iNe x0.2 0)
def IW(x0:((List UInt8)×Int)):((List UInt8)×Int):=((sAdd (rowS [(iConv .u8 (iAdd .i64 48 (bSel (iLt (iRem x0.2 10) 0) (iNeg .i64 (iRem x0.2 10)) (iRem x0.2 10))))]) x0.1),(iQuo .i64 x0.2 10))
def IP(x0:((List UInt8)×Int)):Prop:=(((iNe x0.2 0)=true→(((10:Int)≠0)∧((((List.length (rowS [(iConv .u8 (iAdd .i64 48 (bSel (iLt (iRem x0.2 10) 0) (iNeg .i64 (iRem x0.2 10)) (iRem x0.2 10))))]))+(List.length x0.1))≤9223372036854775807)∧((10:Int)≠0))))∧((iNe x0.2 0)=false→True))
@[irreducible] def Dh(x:Int):List UInt8:=(bSel (iEq x 0) [(48:UInt8)] (bSel (iLt x 0) (sAdd [(45:UInt8)] (Am Gw IW ([],x)).1) (Am Gw IW ([],x)).1))
@[irreducible] def G3(x:Int):Prop:=(((iEq x 0)=true→True)∧((iEq x 0)=false→((LoopOk Gw IW IP ([],x))∧(((iLt x 0)=true→(((List.length [(45:UInt8)])+(List.length (Am Gw IW ([],x)).1))≤9223372036854775807))∧((iLt x 0)=false→True)))))
@[irreducible] def A0(x:Int×Int×Int×Int):List UInt8:=(bSel (bNot (B1 x)) [] (bSel (iEq x.1 0) [(110:UInt8),111,110,101] (bSel (iEq x.1 1) [(112:UInt8),97,115,115] (bSel (iEq x.1 3) (sAdd [(109:UInt8),111,58] (Dh x.2.2.2)) (bSel (iEq x.1 4) (sAdd [(116:UInt8),103,58] (Dh x.2.2.2)) (bSel (iEq x.1 5) (sAdd [(116:UInt8),111,58] (Dh x.2.2.2)) (bSel (iEq x.1 6) (sAdd (sAdd (B7 x.2.2.1) [(47:UInt8)]) (BC x.2.1)) (bSel (iEq x.1 7) (sAdd (sAdd (Dh x.2.2.2) [(47:UInt8)]) (BC x.2.1)) (bSel (iEq x.1 8) (sAdd [(111:UInt8),110,99,101,58] (B7 x.2.2.1)) (bSel (iEq x.1 9) (sAdd [(109:UInt8),97,99,114,111,58] (Dh x.2.2.2)) (bSel (iEq x.1 10) [(99:UInt8),97,112,115] (bSel (iEq x.2.2.1 0) (BC x.2.1) (sAdd (sAdd (B7 x.2.2.1) [(45:UInt8)]) (BC x.2.1))))))))))))))
@[irreducible] def OT(x:Int×Int×Int×Int):Prop:=((Lq x)∧(((bNot (B1 x))=true→True)∧((bNot (B1 x))=false→(((iEq x.1 0)=true→True)∧((iEq x.1 0)=false→(((iEq x.1 1)=true→True)∧((iEq x.1 1)=false→(((iEq x.1 3)=true→((G3 x.2.2.2)∧(((List.length [(109:UInt8),111,58])+(List.length (Dh x.2.2.2)))≤9223372036854775807)))∧((iEq x.1 3)=false→(((iEq x.1 4)=true→((G3 x.2.2.2)∧(((List.length [(116:UInt8),103,58])+(List.length (Dh x.2.2.2)))≤9223372036854775807)))∧((iEq x.1 4)=false→(((iEq x.1 5)=true→((G3 x.2.2.2)∧(((List.length [(116:UInt8),111,58])+(List.length (Dh x.2.2.2)))≤9223372036854775807)))∧((iEq x.1 5)=false→(((iEq x.1 6)=true→((Li x.2.2.1)∧((((List.length (B7 x.2.2.1))+(List.length [(47:UInt8)]))≤9223372036854775807)∧((Lr x.2.1)∧(((List.length (sAdd (B7 x.2.2.1) [(47:UInt8)]))+(List.length (BC x.2.1)))≤9223372036854775807)))))∧((iEq x.1 6)=false→(((iEq x.1 7)=true→((G3 x.2.2.2)∧((((List.length (Dh x.2.2.2))+(List.length [(47:UInt8)]))≤9223372036854775807)∧((Lr x.2.1)∧(((List.length (sAdd (Dh x.2.2.2) [(47:UInt8)]))+(List.length (BC x.2.1)))≤9223372036854775807)))))∧((iEq x.1 7)=false→(((iEq x.1 8)=true→((Li x.2.2.1)∧(((List.length [(111:UInt8),110,99,101,58])+(List.length (B7 x.2.2.1)))≤9223372036854775807)))∧((iEq x.1 8)=false→(((iEq x.1 9)=true→((G3 x.2.2.2)∧(((List.length [(109:UInt8),97,99,114,111,58])+(List.length (Dh x.2.2.2)))≤9223372036854775807)))∧((iEq x.1 9)=false→(((iEq x.1 10)=true→True)∧((iEq x.1 10)=false→(((iEq x.2.2.1 0)=true→(Lr x.2.1))∧((iEq x.2.2.1 0)=false→((Li x.2.2.1)∧((((List.length (B7 x.2.2.1))+(List.length [(45:UInt8)]))≤9223372036854775807)∧((Lr x.2.1)∧(((List.length (sAdd (B7 x.2.2.1) [(45:UInt8)]))+(List.length (BC x.2.1)))≤9223372036854775807)))))))))))))))))))))))))))))
theorem ZU (x):FO x=(Nc x):=(EM.v x).trans (by kernel_rfl)
theorem ZW (x):I5 x=(M7 x):=(EM.o x).trans (by kernel_rfl)
theorem aS (x):Hf x=(bSel (iEq x 3) [(109:UInt8),111,58] (bSel (iEq x 4) [(116:UInt8),103,58] (bSel (iEq x 5) [(116:UInt8),111,58] (bSel (iEq x 9) [(109:UInt8),97,99,114,111,58] [])))):=(Hb.v x).trans (by kernel_rfl)
theorem bd (x):Pj x=True:=(Hb.o x).trans (by kernel_rfl)
theorem j6 (x):JZ x=(bSel (bNot (CV x)) [] (bSel (iEq x.1 0) [(110:UInt8),111,110,101] (bSel (iEq x.1 1) [(112:UInt8),97,115,115] (bSel (iEq x.1 10) [(99:UInt8),97,112,115] (bSel (iEq x.1 2) (bSel (iNe x.2.2.1 0) (sAdd (sAdd (FM x.2.2.1) [(45:UInt8)]) (HU x.2.1)) (HU x.2.1)) (bSel (iEq x.1 6) (sAdd (sAdd (FM x.2.2.1) [(47:UInt8)]) (HU x.2.1)) (bSel (iEq x.1 7) (sAdd (sAdd (FO x.2.2.2) [(47:UInt8)]) (HU x.2.1)) (bSel (iEq x.1 8) (sAdd [(111:UInt8),110,99,101,58] (FM x.2.2.1)) (sAdd (Hf x.1) (FO x.2.2.2)))))))))):=(FL.v x).trans (by kernel_rfl)
theorem jT (x):OQ x=((Jb x)∧(((bNot (CV x))=true→True)∧((bNot (CV x))=false→(((iEq x.1 0)=true→True)∧((iEq x.1 0)=false→(((iEq x.1 1)=true→True)∧((iEq x.1 1)=false→(((iEq x.1 10)=true→True)∧((iEq x.1 10)=false→(((iEq x.1 2)=true→(((iNe x.2.2.1 0)=true→((J0 x.2.2.1)∧((((List.length (FM x.2.2.1))+(List.length [(45:UInt8)]))≤9223372036854775807)∧((Lo x.2.1)∧(((List.length (sAdd (FM x.2.2.1) [(45:UInt8)]))+(List.length (HU x.2.1)))≤9223372036854775807)))))∧((iNe x.2.2.1 0)=false→(Lo x.2.1))))∧((iEq x.1 2)=false→(((iEq x.1 6)=true→((J0 x.2.2.1)∧((((List.length (FM x.2.2.1))+(List.length [(47:UInt8)]))≤9223372036854775807)∧((Lo x.2.1)∧(((List.length (sAdd (FM x.2.2.1) [(47:UInt8)]))+(List.length (HU x.2.1)))≤9223372036854775807)))))∧((iEq x.1 6)=false→(((iEq x.1 7)=true→((I5 x.2.2.2)∧((((List.length (FO x.2.2.2))+(List.length [(47:UInt8)]))≤9223372036854775807)∧((Lo x.2.1)∧(((List.length (sAdd (FO x.2.2.2) [(47:UInt8)]))+(List.length (HU x.2.1)))≤9223372036854775807)))))∧((iEq x.1 7)=false→(((iEq x.1 8)=true→((J0 x.2.2.1)∧(((List.length [(111:UInt8),110,99,101,58])+(List.length (FM x.2.2.1)))≤9223372036854775807)))∧((iEq x.1 8)=false→((Pj x.1)∧((I5 x.2.2.2)∧(((List.length (Hf x.1))+(List.length (FO x.2.2.2)))≤9223372036854775807)))))))))))))))))))):=(FL.o x).trans (by kernel_rfl)
attribute [irreducible] FO I5 Hf Pj JZ OQ
end
section
set_option maxRecDepth 8000
def nD:DCode:=(.seq [1,0] (.region [oa 0 4 (.mv (.c .undef))]) (.seq [5,1] (.region [on 0 6 0,op 1 7 Np Pt bB [(.t 6)],om 2 5 7]) (.seq [5] (.region [om 0 8 5,om 1 9 5,oa 2 10 (.nilck (.t 9)),oa 3 11 (.fieldA 2 (.t 10)),oa 4 12 (.loadH none (.t 11)),om 5 13 1,oa 6 14 (.bin .mul (.c (.int .i64 7919)) (.t 13)),oa 7 15 (.bin .add (.t 12) (.t 14)),oa 8 16 (.nilck (.t 8)),oa 9 17 (.fieldA 2 (.t 16)),os 10 (.storeH 1 (.t 17) (.t 15))]) (.seq [4] (.region [om 0 18 5,om 1 4 18]) .ret))))
def J9:DFun:=⟨2,19,0,false,[.tmp 4],nD⟩
@[irreducible] def HW:A3:=F5 J9.er.er
@[irreducible] def LD:BI:=DA J9.er
theorem VP:Dd HW LD:=by unfold HW LD;exact H6 (f:=J9.er) ⟨nX,trivial⟩
def Sz:List HT:=[.one .frz (.sl (.one (.int .u8))),.one .frz (.int .i64)]
def SJ:List (Ql×CT):=[(.frz,.sl (.one (.int .u8))),(.own,.int .i64),(.own,.int .i64)]
@[irreducible] def Hc(x:List (Int)×Int):List (Int)×Int×Int:=(shut fun x=>Rh J9 Sz SJ x).1 x
@[irreducible] def Ka(x:List (Int)×Int):Prop:=(shut fun x=>QZ J9 Sz SJ x).1 x
def SA:De:=T1 Sz SJ Ka Hc
theorem VQ:FZ LD SA:=by unfold LD;exact dg (f:=J9) (hs:=Sz) (cs:=SJ) ⟨od,trivial⟩ (by kernel_rfl) (fun x=>by kernel_rfl) (fun x h=>by unfold Ka at h;exact Eq.mp (congrFun (shut _).2 x) h) (fun x=>by unfold Hc;exact(congrFun (shut _).2 x).symm)
def ng:DCode:=(.seq [4,1,0] (.region [oa 0 4 (.allocB 0 [(.int .i64 0),(.int .i64 0),(.int .i64 0),(.int .i64 0)])]) (.seq [5,4,1,0] (.region [om 0 8 0,op 1 9 BZ Dv En [(.t 8),(.c (.int .i64 56))],oa 2 10 (.bin .add (.c (.int .i64 1)) (.t 9)),om 3 5 10]) (.seq [6,5,4,1,0] (.region [om 0 11 0,op 1 12 BZ Dv En [(.t 11),(.c (.int .i64 15))],oa 2 13 (.bin .add (.c (.int .i64 1)) (.t 12)),om 3 6 13]) (.seq [6,5,4,1,0] (.seq [15,6,5,4,1,0] (.region [om 0 14 0,op 1 15 Kf Ng VX [(.t 14),(.c (.int .i64 2))]]) (.cond (.t 15) (.region [oi 0 6 2]) .skip)) (.seq [7,6,5,4,1,0] (.region [om 0 16 0,om 1 17 1,oa 2 18 (.bin .sub (.t 17) (.c (.int .i64 1))),oa 3 19 (.maxI (.c (.int .i64 1)) (.t 18)),op 4 20 BZ Dv En [(.t 16),(.t 19)],oa 5 21 (.bin .add (.c (.int .i64 1)) (.t 20)),om 6 7 21]) (.seq [5,4] (.seq [23,7,6,5,4,1,0] (.region [om 0 22 0,op 1 23 BZ Dv En [(.t 22),(.c (.int .i64 16))]]) (.block 0 (.seq [24,23,7,6,5,4,1,0] (.region [oa 0 25 (.bin .eql (.t 23) (.c (.int .i64 0))),om 1 24 25]) (.cond (.t 24) (.seq [4] (.region [om 0 26 5,om 1 27 6,oa 2 28 (.build [(.int .i64 0),(.int .i64 0),(.int .i64 0),(.int .i64 0)] [(0,1,(.c (.int .i64 2))),(1,1,(.t 26)),(2,1,(.t 27))]),os 3 (.storeB 0 4 (.t 4) (.t 28))]) .ret) (.seq [29,23,7,6,5,4,1,0] (.region [oa 0 30 (.bin .eql (.t 23) (.c (.int .i64 1))),om 1 29 30]) (.cond (.t 29) (.seq [4] (.region [om 0 31 6,oa 1 32 (.build [(.int .i64 0),(.int .i64 0),(.int .i64 0),(.int .i64 0)] [(0,1,(.c (.int .i64 2))),(2,1,(.t 31))]),os 2 (.storeB 0 4 (.t 4) (.t 32))]) .ret) (.seq [33,23,7,6,5,4,1,0] (.seq [33,23,7,6,5,4,1,0] (.region [oa 0 34 (.bin .eql (.t 23) (.c (.int .i64 2))),om 1 33 34]) (.cond (.t 33) .skip (.region [oa 0 35 (.bin .eql (.t 23) (.c (.int .i64 3))),om 1 33 35]))) (.cond (.t 33) (.seq [4] (.region [om 0 36 5,om 1 37 6,oa 2 38 (.build [(.int .i64 0),(.int .i64 0),(.int .i64 0),(.int .i64 0)] [(0,1,(.c (.int .i64 6))),(1,1,(.t 36)),(2,1,(.t 37))]),os 3 (.storeB 0 4 (.t 4) (.t 38))]) .ret) (.seq [39,23,7,6,5,4,1,0] (.region [oa 0 40 (.bin .eql (.t 23) (.c (.int .i64 4))),om 1 39 40]) (.cond (.t 39) (.seq [4] (.region [om 0 41 6,oa 1 42 (.build [(.int .i64 0),(.int .i64 0),(.int .i64 0),(.int .i64 0)] [(0,1,(.c (.int .i64 8))),(2,1,(.t 41))]),os 2 (.storeB 0 4 (.t 4) (.t 42))]) .ret) (.seq [43,23,7,5,4,1,0] (.region [oa 0 44 (.bin .eql (.t 23) (.c (.int .i64 5))),om 1 43 44]) (.cond (.t 43) (.seq [4] (.region [om 0 45 0,op 1 46 BZ Dv En [(.t 45),(.c (.int .i64 4))],oa 2 47 (.build [(.int .i64 0),(.int .i64 0),(.int .i64 0),(.int .i64 0)] [(0,1,(.c (.int .i64 9))),(3,1,(.t 46))]),os 3 (.storeB 0 4 (.t 4) (.t 47))]) .ret) (.seq [48,23,7,5,4,1,0] (.region [oa 0 49 (.bin .eql (.t 23) (.c (.int .i64 6))),om 1 48 49]) (.cond (.t 48) (.seq [4] (.region [oa 0 50 (.build [(.int .i64 0),(.int .i64 0),(.int .i64 0),(.int .i64 0)] [(0,1,(.c (.int .i64 10)))]),os 1 (.storeB 0 4 (.t 4) (.t 50))]) .ret) (.seq [51,23,7,5,4,1,0] (.region [oa 0 52 (.bin .eql (.t 23) (.c (.int .i64 7))),om 1 51 52]) (.cond (.t 51) (.seq [4] (.region [om 0 53 0,om 1 54 1,oa 2 55 (.maxI (.c (.int .i64 1)) (.t 54)),op 3 56 BZ Dv En [(.t 53),(.t 55)],oa 4 57 (.build [(.int .i64 0),(.int .i64 0),(.int .i64 0),(.int .i64 0)] [(0,1,(.c (.int .i64 5))),(3,1,(.t 56))]),os 5 (.storeB 0 4 (.t 4) (.t 57))]) .ret) (.seq [58,7,5,4,1,0] (.seq [58,23,7,5,4,1,0] (.region [oa 0 59 (.bin .eql (.t 23) (.c (.int .i64 8))),om 1 58 59]) (.cond (.t 58) .skip (.seq [58,23,7,5,4,1,0] (.region [oa 0 60 (.bin .eql (.t 23) (.c (.int .i64 9))),om 1 58 60]) (.cond (.t 58) .skip (.region [oa 0 61 (.bin .eql (.t 23) (.c (.int .i64 10))),om 1 58 61]))))) (.cond (.t 58) (.seq [63,7,5,4,0] (.region [om 0 62 1,oa 1 63 (.bin .gtr (.t 62) (.c (.int .i64 1)))]) (.cond (.t 63) (.seq [4] (.region [om 0 64 7,oa 1 65 (.build [(.int .i64 0),(.int .i64 0),(.int .i64 0),(.int .i64 0)] [(0,1,(.c (.int .i64 3))),(3,1,(.t 64))]),om 2 66 7,oa 3 67 (.build [(.int .i64 0),(.int .i64 0),(.int .i64 0),(.int .i64 0)] [(0,1,(.c (.int .i64 4))),(3,1,(.t 66))]),om 4 68 5,om 5 69 7,oa 6 70 (.build [(.int .i64 0),(.int .i64 0),(.int .i64 0),(.int .i64 0)] [(0,1,(.c (.int .i64 7))),(1,1,(.t 68)),(3,1,(.t 69))]),⟨7,some 71,.a false (.litSlice 4 3 [(.int .i64 0),(.int .i64 0),(.int .i64 0),(.int .i64 0),(.int .i64 0),(.int .i64 0),(.int .i64 0),(.int .i64 0),(.int .i64 0),(.int .i64 0),(.int .i64 0),(.int .i64 0)] [(0,4,(.t 65)),(4,4,(.t 67)),(8,4,(.t 70))]) (some CU),none,[]⟩,om 8 72 0,op 9 73 BZ Dv En [(.t 72),(.c (.int .i64 3))],oa 10 74 (.indexA 4 (.t 71) (.t 73)),ob 11 75 (.loadH (some 4) (.t 74)),os 12 (.storeB 0 4 (.t 4) (.t 75))]) .ret) .skip)) .skip)))))))))))))))))) (.seq [4] (.region [om 0 76 5,oa 1 77 (.build [(.int .i64 0),(.int .i64 0),(.int .i64 0),(.int .i64 0)] [(0,1,(.c (.int .i64 2))),(1,1,(.t 76))]),os 2 (.storeB 0 4 (.t 4) (.t 77))]) .ret)))))))
def Kd:DFun:=⟨2,78,1,false,[.cell 4 (some 4)],ng⟩
@[irreducible] def Ki:A3:=F5 Kd.er.er
@[irreducible] def Nj:BI:=DA Kd.er
theorem aN:Dd Ki Nj:=by unfold Ki Nj;exact H6 (f:=Kd.er) ⟨EP,EP,aB,EP,EP,EP,EP,EP,trivial⟩
def SI:List HT:=[.one .frz (.int .i64)]
def Sy:List (Ql×CT):=[(.frz,.sl (.one (.int .u8))),(.own,.int .i64),(.own,.int .i64)]
def Sw:QT:=.one (.agg [(.own,.int .i64),(.own,.int .i64),(.own,.int .i64),(.own,.int .i64)])
@[irreducible] def BM(x:(List (Int)×Int×Int)×Int):(Int×Int×Int×Int)×(Int×Int):=(shut fun x=>IE Kd SI Sy Sw x).1 x
@[irreducible] def Ly(x:(List (Int)×Int×Int)×Int):Prop:=(shut fun x=>Iv Kd SI Sy Sw x).1 x
def VY:De:=JA SI Sy Sw Ly BM
theorem ay:FZ Nj VY:=by unfold Nj;exact LH (f:=Kd) (hs:=SI) (cs:=Sy) (q:=Sw) ⟨EN,EN,bf,EN,EN,EN,EN,EN,trivial⟩ (by kernel_rfl) (fun x=>by kernel_rfl) (fun x h=>by unfold Ly at h;exact Eq.mp (congrFun (shut _).2 x) h) (fun x=>by unfold BM;exact(congrFun (shut _).2 x).symm)
def mY:DCode:=(.seq [4,1,0] (.region [oa 0 4 (.allocB 0 [(.int .i64 0),.nils])]) (.seq [5,4,1,0] (.region [om 0 11 0,op 1 12 BZ Dv En [(.t 11),(.c (.int .i64 4))],oa 2 13 (.bin .add (.c (.int .i64 1)) (.t 12)),om 3 5 13]) (.seq [6,5,4,1,0] (.region [om 0 14 1,oa 1 15 (.build [(.int .i64 0),.nils] [(0,1,(.t 14))]),oa 2 6 (.allocB 1 [(.int .i64 0),.nils]),os 3 (.storeB 1 2 (.t 6) (.t 15))]) (.seq [6,4] (.seq [7,6,5,4,1,0] (.region [oi 0 7 0]) (.block 0 (.loop [0,1,4,5,6,7] 1 (.seq [7,6,5,4,1,0] (.seq [18,7,6,5,4,1,0] (.region [om 0 16 7,om 1 17 5,oa 2 18 (.bin .lss (.t 16) (.t 17))]) (.cond (.t 18) .skip (.exit 0))) (.seq [7,6,5,4,1,0] (.block 1 (.seq [8,7,6,5,4,1,0] (.region [⟨0,some 21,.a false (.litSlice 4 0 [] []) (some CU),none,[]⟩,om 1 8 21]) (.seq [8,7,6,5,4,1,0] (.seq [9,8,7,6,5,4,1,0] (.region [oi 0 9 0]) (.block 2 (.loop [0,1,4,5,6,7,8,9] 1 (.seq [9,8,7,6,5,4,1,0] (.seq [24,9,8,7,6,5,4,1,0] (.region [om 0 22 9,om 1 23 1,oa 2 24 (.bin .lss (.t 22) (.t 23))]) (.cond (.t 24) .skip (.exit 2))) (.seq [9,8,7,6,5,4,1,0] (.block 3 (.seq [10,9,8,7,6,5,4,1,0] (.region [om 0 27 0,om 1 28 5,op 2 29 Ki Nj VY [(.t 27),(.t 28)],oa 3 10 (.allocB 2 [(.int .i64 0),(.int .i64 0),(.int .i64 0),(.int .i64 0)]),os 4 (.storeB 2 4 (.t 10) (.t 29))]) (.seq [10,9,8,7,6,5,4,1,0] (.seq [35,10,9,8,7,6,5,4,1,0] (.region [om 0 30 7,oa 1 31 (.bin .gtr (.t 30) (.c (.int .i64 0))),om 2 32 31,og 3 33 (.mv (.t 0)) 32 true,⟨4,some 34,.callp false Kf Ng VX [(.t 33),(.c (.int .i64 3))],(some (32,true)),[]⟩,oa 5 35 (.pick (.t 32) (.t 34) (.c (.bool false)))]) (.cond (.t 35) (.region [oa 0 36 (.build [(.int .i64 0),(.int .i64 0),(.int .i64 0),(.int .i64 0)] [(0,1,(.c (.int .i64 1)))]),os 1 (.storeB 2 4 (.t 10) (.t 36))]) .skip)) (.region [om 0 37 8,ob 1 38 (.loadB 2 (some 4) (.t 10)),⟨2,some 39,.a false (.litSlice 4 1 [(.int .i64 0),(.int .i64 0),(.int .i64 0),(.int .i64 0)] [(0,4,(.t 38))]) (some CU),none,[]⟩,oa 3 40 (.app 4 (.t 37) (.t 39)),om 4 8 40])))) (.region [om 0 25 9,oa 1 26 (.bin .add (.t 25) (.c (.int .i64 1))),om 2 9 26])))))) (.region [oa 0 41 (.fieldA 1 (.t 6)),ob 1 42 (.loadB 1 none (.t 41)),om 2 43 8,⟨3,some 44,.a false (.litSlice 1 1 [.nils] [(0,1,(.t 43))]) (some (.one (.sl CU))),none,[]⟩,oa 4 45 (.app 1 (.t 42) (.t 44)),oa 5 46 (.fieldA 1 (.t 6)),os 6 (.storeB 1 1 (.t 46) (.t 45))])))) (.region [om 0 19 7,oa 1 20 (.bin .add (.t 19) (.c (.int .i64 1))),om 2 7 20])))))) (.seq [4] (.region [ob 0 47 (.loadB 1 (some 2) (.t 6)),os 1 (.storeB 0 2 (.t 4) (.t 47))]) .ret)))))
def J8:DFun:=⟨2,48,3,false,[.cell 4 (some 2)],mY⟩
@[irreducible] def Nk:A3:=F5 J8.er.er
@[irreducible] def Po:BI:=DA J8.er
theorem mR:Dd Nk Po:=by unfold Nk Po;exact H6 (f:=J8.er) ⟨EP,aN,aB,trivial⟩
def SG:List HT:=[.one .frz (.int .i64)]
def SF:List (Ql×CT):=[(.frz,.sl (.one (.int .u8))),(.own,.int .i64),(.own,.int .i64)]
def SD:QT:=.one (.agg [(.own,.int .i64),(.own,.sl (.one (.sl CU)))])
@[irreducible] def C8(x:(List (Int)×Int×Int)×Int):(Int×(List (List (Int×Int×Int×Int))))×(Int×Int):=(shut fun x=>IE J8 SG SF SD x).1 x
@[irreducible] def Nb(x:(List (Int)×Int×Int)×Int):Prop:=(shut fun x=>Iv J8 SG SF SD x).1 x
def bn:De:=JA SG SF SD Nb C8
theorem nB:FZ Po bn:=by unfold Po;exact LH (f:=J8) (hs:=SG) (cs:=SF) (q:=SD) ⟨EN,ay,bf,trivial⟩ (by kernel_rfl) (fun x=>by kernel_rfl) (fun x h=>by unfold Nb at h;exact Eq.mp (congrFun (shut _).2 x) h) (fun x=>by unfold C8;exact(congrFun (shut _).2 x).symm)
def mF:DCode:=(.seq [4,1,0] (.region [oa 0 4 (.allocB 0 [(.int .i64 0),.nils])]) (.seq [5,4,1,0] (.region [om 0 9 0,om 1 10 1,op 2 11 Nk Po bn [(.t 9),(.t 10)],oa 3 5 (.allocB 1 [(.int .i64 0),.nils]),os 4 (.storeB 1 2 (.t 5) (.t 11))]) (.seq [5,4] (.seq [6,5,4,1,0] (.region [om 0 12 0,op 1 13 BZ Dv En [(.t 12),(.c (.int .i64 6))],om 2 6 13]) (.block 0 (.loop [0,1,4,5,6] 1 (.seq [6,5,4,1,0] (.seq [15,6,5,4,1,0] (.region [om 0 14 6,oa 1 15 (.bin .gtr (.t 14) (.c (.int .i64 0)))]) (.cond (.t 15) .skip (.exit 0))) (.seq [6,5,4,1,0] (.block 1 (.seq [7,6,5,4,1,0] (.region [om 0 18 0,oa 1 19 (.fieldA 1 (.t 5)),oa 2 20 (.loadB 1 none (.t 19)),oa 3 21 (.len (.t 20)),op 4 22 BZ Dv En [(.t 18),(.t 21)],om 5 7 22]) (.seq [8,7,6,5,4,1,0] (.region [om 0 23 0,om 1 24 1,op 2 25 BZ Dv En [(.t 23),(.t 24)],om 3 8 25]) (.seq [29,8,7,6,5,4,1,0] (.region [oa 0 26 (.fieldA 1 (.t 5)),oa 1 27 (.loadB 1 none (.t 26)),oa 2 28 (.len (.t 27)),oa 3 29 (.bin .gtr (.t 28) (.c (.int .i64 1)))]) (.cond (.t 29) (.region [⟨7,some 37,.a false (.litSlice 1 3 [(.int .i64 0),(.int .i64 0),(.int .i64 0)] [(0,1,(.c (.int .i64 4))),(1,1,(.c (.int .i64 5))),(2,1,(.c (.int .i64 3)))]) (some (.one (.int .i64))),none,[]⟩,oa 0 30 (.fieldA 1 (.t 5)),xA 1 31 (.loadB 1 none (.t 30)) (rg 1),om 2 32 7,xA 3 33 (.indexA 1 (.t 31) (.t 32)) (rg 3),xB 4 34 (.loadX 1 1 none (.t 33)) (rg 4),om 5 35 8,om 6 36 0,om 9 39 0,oa 10 40 (.fieldA 1 (.t 5)),xA 11 41 (.loadB 1 none (.t 40)) [10],xA 12 42 (.len (.t 41)) [10,11],xA 13 43 (.bin .sub (.t 42) (.c (.int .i64 1))) [10,11,12],⟨8,some 38,.callv true MZ O7 Z1 [(.t 36),(.t 37)] 1 1,none,[6,7]⟩,⟨14,some 44,.callv false BZ Dv En [(.t 39),(.t 43)] 1 1,none,[6,7,8,9,10,11,12,13]⟩,xA 15 45 (.bin .add (.c (.int .i64 1)) (.t 44)) [6,7,8,9,10,11,12,13,14],xA 16 46 (.build [(.int .i64 0),(.int .i64 0),(.int .i64 0),(.int .i64 0)] [(0,1,(.t 38)),(3,1,(.t 45))]) [6,7,8,9,10,11,12,13,14,15],xA 17 47 (.indexA 4 (.t 34) (.t 35)) (rg 17),xS 18 (.storeH 4 (.t 47) (.t 46)) (rg 18)]) .skip))))) (.region [om 0 16 6,oa 1 17 (.bin .sub (.t 16) (.c (.int .i64 1))),om 2 6 17])))))) (.seq [4] (.region [ob 0 48 (.loadB 1 (some 2) (.t 5)),os 1 (.storeB 0 2 (.t 4) (.t 48))]) .ret))))
def J7:DFun:=⟨2,49,2,false,[.cell 4 (some 2)],mF⟩
@[irreducible] def Na:A3:=F5 J7.er.er
@[irreducible] def Pn:BI:=DA J7.er
theorem mA:Dd Na Pn:=by unfold Na Pn;exact H6 (f:=J7.er) ⟨mR,EP,EP,EP,ll,EP,trivial⟩
def Se:List HT:=[.one .frz (.int .i64)]
def Sq:List (Ql×CT):=[(.frz,.sl (.one (.int .u8))),(.own,.int .i64),(.own,.int .i64)]
def Sj:QT:=.one (.agg [(.own,.int .i64),(.own,.sl (.one (.sl CU)))])
@[irreducible] def Lx(x:(List (Int)×Int×Int)×Int):(Int×(List (List (Int×Int×Int×Int))))×(Int×Int):=(shut fun x=>IE J7 Se Sq Sj x).1 x
@[irreducible] def M6(x:(List (Int)×Int×Int)×Int):Prop:=(shut fun x=>Iv J7 Se Sq Sj x).1 x
def aM:De:=JA Se Sq Sj M6 Lx
theorem mM:FZ Pn aM:=by unfold Pn;exact LH (f:=J7) (hs:=Se) (cs:=Sq) (q:=Sj) ⟨nB,EN,EN,EN,lE,EN,trivial⟩ (by kernel_rfl) (fun x=>by kernel_rfl) (fun x h=>by unfold M6 at h;exact Eq.mp (congrFun (shut _).2 x) h) (fun x=>by unfold Lx;exact(congrFun (shut _).2 x).symm)
def kE:DCode:=(.seq [6,2,1,0] (.region [oa 0 6 (.allocB 0 [(.int .i64 0),.nils])]) (.seq [6] (.region [on 0 7 0,om 1 8 1,op 2 9 HW LD SA [(.t 7),(.t 8)],om 3 10 2,op 4 11 Na Pn aM [(.t 9),(.t 10)],os 5 (.storeB 0 2 (.t 6) (.t 11))]) .ret))
def I4:Fn:=⟨⟨3,12,1,false,[.cell 6 (some 2)],kE⟩,[.one .frz (.sl (.one (.int .u8))),.one .frz (.int .i64),.one .frz (.int .i64)],.one (.agg [(.own,.int .i64),(.own,.sl (.one (.sl CU)))])⟩
theorem kO:I4.A:=BS ⟨VP,mA,trivial⟩
def Af:List (Int)×Int×Int→Int×(List (List (Int×Int×Int×Int))):=I4.V
def RF:List (Int)×Int×Int→Prop:=I4.O
theorem k7:I4.B:=BV ⟨VQ,mM,trivial⟩ (by kernel_rfl) (fun x=>by kernel_rfl)
def ky:DCode:=(.seq [2,1,0] (.region [oi 0 6 0]) (.seq [6] (.region [on 0 7 0,om 1 8 1,op 2 9 HW LD SA [(.t 7),(.t 8)],om 3 10 2,op 4 11 BZ Dv En [(.t 9),(.t 10)],om 5 6 11]) .ret))
def G4:Fn:=⟨⟨3,12,0,true,[.tmp 6],ky⟩,[.one .frz (.sl (.one (.int .u8))),.one .frz (.int .i64),.one .frz (.int .i64)],.one (.one .own (.int .i64))⟩
theorem ZQ:G4.A:=BS ⟨VP,EP,trivial⟩
def Av:List (Int)×Int×Int→Int:=G4.V
def O0:List (Int)×Int×Int→Prop:=G4.O
theorem ZR:G4.B:=BV ⟨VQ,EN,trivial⟩ (by kernel_rfl) (fun x=>by kernel_rfl)
def kP:DCode:=(.seq [2,0] (.region [oa 0 2 (.allocB 0 [(.int .i64 0),(.int .i64 0),(.int .i64 0),(.int .i64 0)])]) (.seq [2] (.region [on 0 3 0,op 1 4 HW LD SA [(.t 3),(.c (.int .i64 3))],op 2 5 Ki Nj VY [(.t 4),(.c (.int .i64 4))],os 3 (.storeB 0 4 (.t 2) (.t 5))]) .ret))
def I3:Fn:=⟨⟨1,6,1,true,[.cell 2 (some 4)],kP⟩,[.one .frz (.sl (.one (.int .u8)))],.one (.agg [(.own,.int .i64),(.own,.int .i64),(.own,.int .i64),(.own,.int .i64)])⟩
theorem kM:I3.A:=BS ⟨VP,aN,trivial⟩
def AP:List (Int)→Int×Int×Int×Int:=I3.V
def RI:List (Int)→Prop:=I3.O
theorem kY:I3.B:=BV ⟨VQ,ay,trivial⟩ (by kernel_rfl) (fun x=>by kernel_rfl)
end
section
set_option maxRecDepth 100000
theorem nu (x):Hc x=((Jg x.1).1,(Jg x.1).2.1,(iAdd .i64 (Jg x.1).2.2 (iMul .i64 7919 x.2))):=by unfold Hc;exact(congrFun (shut _).2 x).trans (by kernel_rfl)
theorem nF (x):Ka x=(Nl x.1):=by unfold Ka;exact(congrFun (shut _).2 x).trans (by kernel_rfl)
def GA(x:(List (Int)×Int×Int)×Int):=Ao ((x.1.1,(Ao (x.1,56)).2),15)
def B8(x:(List (Int)×Int×Int)×Int):=C7 ((x.1.1,(GA x).2),2)
def Du(x:(List (Int)×Int×Int)×Int):=Ao ((x.1.1,(bSel (B8 x).1 (B8 x).2.1 (B8 x).2.1),(bSel (B8 x).1 (B8 x).2.2 (B8 x).2.2)),(iMax 1 (iSub .i64 x.2 1)))
def AJ(x:(List (Int)×Int×Int)×Int):=Ao ((x.1.1,(Du x).2),16)
def M1(x:(List (Int)×Int×Int)×Int):=Ao ((x.1.1,(AJ x).2),4)
def I7(x:(List (Int)×Int×Int)×Int):=Ao ((x.1.1,(AJ x).2),3)
def M5(x:(List (Int)×Int×Int)×Int):=Ao ((x.1.1,(AJ x).2),(iMax 1 x.2))
theorem nc (x):BM x=(bSel (bAnd (bNot (iEq (AJ x).1 0)) (bAnd (bNot (iEq (AJ x).1 1)) (bAnd (bNot (bOr (iEq (AJ x).1 2) (iEq (AJ x).1 3))) (bAnd (bNot (iEq (AJ x).1 4)) (bAnd (bNot (iEq (AJ x).1 5)) (bAnd (bNot (iEq (AJ x).1 6)) (bAnd (bNot (iEq (AJ x).1 7)) (bOr (bNot (bOr (iEq (AJ x).1 8) (bOr (iEq (AJ x).1 9) (iEq (AJ x).1 10)))) (bNot (iGt x.2 1)))))))))) ((2,(iAdd .i64 1 (Ao (x.1,56)).1),0,0),(bSel (bOr (iEq (AJ x).1 8) (bOr (iEq (AJ x).1 9) (iEq (AJ x).1 10))) (AJ x).2.1 (AJ x).2.1),(bSel (bOr (iEq (AJ x).1 8) (bOr (iEq (AJ x).1 9) (iEq (AJ x).1 10))) (AJ x).2.2 (AJ x).2.2)) (bSel (iEq (AJ x).1 0) ((2,(iAdd .i64 1 (Ao (x.1,56)).1),(bSel (B8 x).1 2 (iAdd .i64 1 (GA x).1)),0),(AJ x).2) (bSel (iEq (AJ x).1 1) ((2,0,(bSel (B8 x).1 2 (iAdd .i64 1 (GA x).1)),0),(AJ x).2) (bSel (bOr (iEq (AJ x).1 2) (iEq (AJ x).1 3)) ((6,(iAdd .i64 1 (Ao (x.1,56)).1),(bSel (B8 x).1 2 (iAdd .i64 1 (GA x).1)),0),(AJ x).2) (bSel (iEq (AJ x).1 4) ((8,0,(bSel (B8 x).1 2 (iAdd .i64 1 (GA x).1)),0),(AJ x).2) (bSel (iEq (AJ x).1 5) ((9,0,0,(M1 x).1),(M1 x).2) (bSel (iEq (AJ x).1 6) ((10,0,0,0),(AJ x).2) (bSel (iEq (AJ x).1 7) ((5,0,0,(M5 x).1),(M5 x).2) ((lGet [(3,0,0,(iAdd .i64 1 (Du x).1)),(4,0,0,(iAdd .i64 1 (Du x).1)),(7,(iAdd .i64 1 (Ao (x.1,56)).1),0,(iAdd .i64 1 (Du x).1))] (iNat (I7 x).1) (0,0,0,0)),(I7 x).2))))))))):=by unfold BM;exact(congrFun (shut _).2 x).trans (by kernel_rfl)
theorem mS (x):Ly x=((Di (x.1,56))∧((Di ((x.1.1,(Ao (x.1,56)).2),15))∧((LA ((x.1.1,(GA x).2),2))∧((Di ((x.1.1,(bSel (B8 x).1 (B8 x).2.1 (B8 x).2.1),(bSel (B8 x).1 (B8 x).2.2 (B8 x).2.2)),(iMax 1 (iSub .i64 x.2 1))))∧((Di ((x.1.1,(Du x).2),16))∧(((iEq (AJ x).1 0)=true→True)∧((iEq (AJ x).1 0)=false→(((iEq (AJ x).1 1)=true→True)∧((iEq (AJ x).1 1)=false→(((bOr (iEq (AJ x).1 2) (iEq (AJ x).1 3))=true→True)∧((bOr (iEq (AJ x).1 2) (iEq (AJ x).1 3))=false→(((iEq (AJ x).1 4)=true→True)∧((iEq (AJ x).1 4)=false→(((iEq (AJ x).1 5)=true→(Di ((x.1.1,(AJ x).2),4)))∧((iEq (AJ x).1 5)=false→(((iEq (AJ x).1 6)=true→True)∧((iEq (AJ x).1 6)=false→(((iEq (AJ x).1 7)=true→(Di ((x.1.1,(AJ x).2),(iMax 1 x.2))))∧((iEq (AJ x).1 7)=false→(((bOr (iEq (AJ x).1 8) (bOr (iEq (AJ x).1 9) (iEq (AJ x).1 10)))=true→(((iGt x.2 1)=true→((Di ((x.1.1,(AJ x).2),3))∧((((0:Int)≤(I7 x).1)∧((I7 x).1<(((List.length [(3,0,0,(iAdd .i64 1 (Du x).1)),(4,0,0,(iAdd .i64 1 (Du x).1)),(7,(iAdd .i64 1 (Ao (x.1,56)).1),0,(iAdd .i64 1 (Du x).1))]):Int))))∧((iNat (I7 x).1)<(List.length [(3,0,0,(iAdd .i64 1 (Du x).1)),(4,0,0,(iAdd .i64 1 (Du x).1)),(7,(iAdd .i64 1 (Ao (x.1,56)).1),0,(iAdd .i64 1 (Du x).1))])))))∧((iGt x.2 1)=false→True)))∧((bOr (iEq (AJ x).1 8) (bOr (iEq (AJ x).1 9) (iEq (AJ x).1 10)))=false→True))))))))))))))))))))):=by unfold Ly;exact(congrFun (shut _).2 x).trans (by kernel_rfl)
def Lm(x:(List (Int)×Int×Int)×Int)(x0:(Int×((List (List (Int×(Int×(Int×Int)))))×(Int×Int)))):Bool:=(iLt x0.1 (iAdd .i64 1 (Ao (x.1,4)).1))
def G6(x:(List (Int)×Int×Int)×Int)(x1:((List (Int×(Int×(Int×Int))))×(Int×(Int×Int)))):Bool:=(iLt x1.2.1 x.2)
def HR(x:(List (Int)×Int×Int)×Int)(x0:(Int×((List (List (Int×(Int×(Int×Int)))))×(Int×Int))))(x1:((List (Int×(Int×(Int×Int))))×(Int×(Int×Int)))):((List (Int×(Int×(Int×Int))))×(Int×(Int×Int))):=((lApp x1.1 [((bSel (bAnd (iGt x0.1 0) (C7 ((x.1.1,(BM ((x.1.1,x1.2.2),(iAdd .i64 1 (Ao (x.1,4)).1))).2),3)).1) 1 (BM ((x.1.1,x1.2.2),(iAdd .i64 1 (Ao (x.1,4)).1))).1.1),(bSel (bAnd (iGt x0.1 0) (C7 ((x.1.1,(BM ((x.1.1,x1.2.2),(iAdd .i64 1 (Ao (x.1,4)).1))).2),3)).1) 0 (BM ((x.1.1,x1.2.2),(iAdd .i64 1 (Ao (x.1,4)).1))).1.2.1),(bSel (bAnd (iGt x0.1 0) (C7 ((x.1.1,(BM ((x.1.1,x1.2.2),(iAdd .i64 1 (Ao (x.1,4)).1))).2),3)).1) 0 (BM ((x.1.1,x1.2.2),(iAdd .i64 1 (Ao (x.1,4)).1))).1.2.2.1),(bSel (bAnd (iGt x0.1 0) (C7 ((x.1.1,(BM ((x.1.1,x1.2.2),(iAdd .i64 1 (Ao (x.1,4)).1))).2),3)).1) 0 (BM ((x.1.1,x1.2.2),(iAdd .i64 1 (Ao (x.1,4)).1))).1.2.2.2))]),(iAdd .i64 x1.2.1 1),(bSel (bAnd (iGt x0.1 0) (C7 ((x.1.1,(BM ((x.1.1,x1.2.2),(iAdd .i64 1 (Ao (x.1,4)).1))).2),3)).1) (bSel (iGt x0.1 0) (C7 ((x.1.1,(BM ((x.1.1,x1.2.2),(iAdd .i64 1 (Ao (x.1,4)).1))).2),3)).2.1 (BM ((x.1.1,x1.2.2),(iAdd .i64 1 (Ao (x.1,4)).1))).2.1) (bSel (iGt x0.1 0) (C7 ((x.1.1,(BM ((x.1.1,x1.2.2),(iAdd .i64 1 (Ao (x.1,4)).1))).2),3)).2.1 (BM ((x.1.1,x1.2.2),(iAdd .i64 1 (Ao (x.1,4)).1))).2.1)),(bSel (bAnd (iGt x0.1 0) (C7 ((x.1.1,(BM ((x.1.1,x1.2.2),(iAdd .i64 1 (Ao (x.1,4)).1))).2),3)).1) (bSel (iGt x0.1 0) (C7 ((x.1.1,(BM ((x.1.1,x1.2.2),(iAdd .i64 1 (Ao (x.1,4)).1))).2),3)).2.2 (BM ((x.1.1,x1.2.2),(iAdd .i64 1 (Ao (x.1,4)).1))).2.2) (bSel (iGt x0.1 0) (C7 ((x.1.1,(BM ((x.1.1,x1.2.2),(iAdd .i64 1 (Ao (x.1,4)).1))).2),3)).2.2 (BM ((x.1.1,x1.2.2),(iAdd .i64 1 (Ao (x.1,4)).1))).2.2)))
def MW(x:(List (Int)×Int×Int)×Int)(x0:(Int×((List (List (Int×(Int×(Int×Int)))))×(Int×Int)))):(Int×((List (List (Int×(Int×(Int×Int)))))×(Int×Int))):=((iAdd .i64 x0.1 1),(lApp x0.2.1 [(Am (G6 x) (HR x x0) ([],0,x0.2.2)).1]),(Am (G6 x) (HR x x0) ([],0,x0.2.2)).2.2)
def RW(x:(List (Int)×Int×Int)×Int)(x0:(Int×((List (List (Int×(Int×(Int×Int)))))×(Int×Int))))(x1:((List (Int×(Int×(Int×Int))))×(Int×(Int×Int)))):Prop:=(((iLt x1.2.1 x.2)=true→((Ly ((x.1.1,x1.2.2),(iAdd .i64 1 (Ao (x.1,4)).1)))∧((((iGt x0.1 0)=true→(LA ((x.1.1,(BM ((x.1.1,x1.2.2),(iAdd .i64 1 (Ao (x.1,4)).1))).2),3)))∧((iGt x0.1 0)=false→True))∧(AE (((List.length x1.1)+(List.length [((bSel (bAnd (iGt x0.1 0) (C7 ((x.1.1,(BM ((x.1.1,x1.2.2),(iAdd .i64 1 (Ao (x.1,4)).1))).2),3)).1) 1 (BM ((x.1.1,x1.2.2),(iAdd .i64 1 (Ao (x.1,4)).1))).1.1),(bSel (bAnd (iGt x0.1 0) (C7 ((x.1.1,(BM ((x.1.1,x1.2.2),(iAdd .i64 1 (Ao (x.1,4)).1))).2),3)).1) 0 (BM ((x.1.1,x1.2.2),(iAdd .i64 1 (Ao (x.1,4)).1))).1.2.1),(bSel (bAnd (iGt x0.1 0) (C7 ((x.1.1,(BM ((x.1.1,x1.2.2),(iAdd .i64 1 (Ao (x.1,4)).1))).2),3)).1) 0 (BM ((x.1.1,x1.2.2),(iAdd .i64 1 (Ao (x.1,4)).1))).1.2.2.1),(bSel (bAnd (iGt x0.1 0) (C7 ((x.1.1,(BM ((x.1.1,x1.2.2),(iAdd .i64 1 (Ao (x.1,4)).1))).2),3)).1) 0 (BM ((x.1.1,x1.2.2),(iAdd .i64 1 (Ao (x.1,4)).1))).1.2.2.2))]))*4)))))∧((iLt x1.2.1 x.2)=false→True))
def VA(x:(List (Int)×Int×Int)×Int)(x0:(Int×((List (List (Int×(Int×(Int×Int)))))×(Int×Int)))):Prop:=(((iLt x0.1 (iAdd .i64 1 (Ao (x.1,4)).1))=true→((LoopOk (G6 x) (HR x x0) (RW x x0) ([],0,x0.2.2))∧(AE (((List.length x0.2.1)+(List.length [(Am (G6 x) (HR x x0) ([],0,x0.2.2)).1]))*1))))∧((iLt x0.1 (iAdd .i64 1 (Ao (x.1,4)).1))=false→True))
theorem m9 (x):C8 x=((x.2,(Am (Lm x) (MW x) (0,[],(Ao (x.1,4)).2)).2.1),(Am (Lm x) (MW x) (0,[],(Ao (x.1,4)).2)).2.2):=by unfold C8;exact(congrFun (shut _).2 x).trans (by kernel_rfl)
theorem nC (x):Nb x=((Di (x.1,4))∧(LoopOk (Lm x) (MW x) (VA x) (0,[],(Ao (x.1,4)).2))):=by unfold Nb;exact(congrFun (shut _).2 x).trans (by kernel_rfl)
def MU(x0:(Int×((List (List (Int×(Int×(Int×Int)))))×(Int×Int)))):Bool:=(iGt x0.1 0)
def MV(x:(List (Int)×Int×Int)×Int)(x0:(Int×((List (List (Int×(Int×(Int×Int)))))×(Int×Int)))):(Int×((List (List (Int×(Int×(Int×Int)))))×(Int×Int))):=((iSub .i64 x0.1 1),(bSel (iGt (lLen x0.2.1) 1) (lSet x0.2.1 (iNat (Ao ((x.1.1,x0.2.2),(lLen x0.2.1))).1) (lSet (lGet x0.2.1 (iNat (Ao ((x.1.1,x0.2.2),(lLen x0.2.1))).1) []) (iNat (Ao ((x.1.1,(Ao ((x.1.1,x0.2.2),(lLen x0.2.1))).2),x.2)).1) ((Gz ((x.1.1,(Ao ((x.1.1,(Ao ((x.1.1,x0.2.2),(lLen x0.2.1))).2),x.2)).2),[4,5,3])).1,0,0,(iAdd .i64 1 (Ao ((x.1.1,(Gz ((x.1.1,(Ao ((x.1.1,(Ao ((x.1.1,x0.2.2),(lLen x0.2.1))).2),x.2)).2),[4,5,3])).2),(iSub .i64 (lLen x0.2.1) 1))).1)))) x0.2.1),(bSel (iGt (lLen x0.2.1) 1) (Ao ((x.1.1,(Gz ((x.1.1,(Ao ((x.1.1,(Ao ((x.1.1,x0.2.2),(lLen x0.2.1))).2),x.2)).2),[4,5,3])).2),(iSub .i64 (lLen x0.2.1) 1))).2.1 (Ao ((x.1.1,(Ao ((x.1.1,x0.2.2),(lLen x0.2.1))).2),x.2)).2.1),(bSel (iGt (lLen x0.2.1) 1) (Ao ((x.1.1,(Gz ((x.1.1,(Ao ((x.1.1,(Ao ((x.1.1,x0.2.2),(lLen x0.2.1))).2),x.2)).2),[4,5,3])).2),(iSub .i64 (lLen x0.2.1) 1))).2.2 (Ao ((x.1.1,(Ao ((x.1.1,x0.2.2),(lLen x0.2.1))).2),x.2)).2.2))
def Vs(x:(List (Int)×Int×Int)×Int)(x0:(Int×((List (List (Int×(Int×(Int×Int)))))×(Int×Int)))):Prop:=(((iGt x0.1 0)=true→((Di ((x.1.1,x0.2.2),(lLen x0.2.1)))∧((Di ((x.1.1,(Ao ((x.1.1,x0.2.2),(lLen x0.2.1))).2),x.2))∧(((iGt (lLen x0.2.1) 1)=true→((((0:Int)≤(Ao ((x.1.1,x0.2.2),(lLen x0.2.1))).1)∧((Ao ((x.1.1,x0.2.2),(lLen x0.2.1))).1<(((List.length x0.2.1):Int))))∧((((iNat (Ao ((x.1.1,x0.2.2),(lLen x0.2.1))).1)<(List.length x0.2.1))∧((iNat (Ao ((x.1.1,x0.2.2),(lLen x0.2.1))).1)<(List.length x0.2.1)))∧((MR ((x.1.1,(Ao ((x.1.1,(Ao ((x.1.1,x0.2.2),(lLen x0.2.1))).2),x.2)).2),[4,5,3]))∧((Di ((x.1.1,(Gz ((x.1.1,(Ao ((x.1.1,(Ao ((x.1.1,x0.2.2),(lLen x0.2.1))).2),x.2)).2),[4,5,3])).2),(iSub .i64 (lLen x0.2.1) 1)))∧((((0:Int)≤(Ao ((x.1.1,(Ao ((x.1.1,x0.2.2),(lLen x0.2.1))).2),x.2)).1)∧((Ao ((x.1.1,(Ao ((x.1.1,x0.2.2),(lLen x0.2.1))).2),x.2)).1<(((List.length (lGet x0.2.1 (iNat (Ao ((x.1.1,x0.2.2),(lLen x0.2.1))).1) [])):Int))))∧(((iNat (Ao ((x.1.1,x0.2.2),(lLen x0.2.1))).1)<(List.length x0.2.1))∧((iNat (Ao ((x.1.1,(Ao ((x.1.1,x0.2.2),(lLen x0.2.1))).2),x.2)).1)<(List.length (lGet x0.2.1 (iNat (Ao ((x.1.1,x0.2.2),(lLen x0.2.1))).1) []))))))))))∧((iGt (lLen x0.2.1) 1)=false→True)))))∧((iGt x0.1 0)=false→True))
theorem mD (x):Lx x=(((C8 x).1.1,(Am MU (MV x) ((Ao ((x.1.1,(C8 x).2),6)).1,(C8 x).1.2,(Ao ((x.1.1,(C8 x).2),6)).2)).2.1),(Am MU (MV x) ((Ao ((x.1.1,(C8 x).2),6)).1,(C8 x).1.2,(Ao ((x.1.1,(C8 x).2),6)).2)).2.2):=by unfold Lx;exact(congrFun (shut _).2 x).trans (by kernel_rfl)
theorem mI (x):M6 x=((Nb x)∧((Di ((x.1.1,(C8 x).2),6))∧(LoopOk MU (MV x) (Vs x) ((Ao ((x.1.1,(C8 x).2),6)).1,(C8 x).1.2,(Ao ((x.1.1,(C8 x).2),6)).2)))):=by unfold M6;exact(congrFun (shut _).2 x).trans (by kernel_rfl)
theorem kA (x):Af x=(Lx ((Hc (x.1,x.2.1)),x.2.2)).1:=(I4.v x).trans (by kernel_rfl)
theorem kx (x):RF x=((Ka (x.1,x.2.1))∧(M6 ((Hc (x.1,x.2.1)),x.2.2))):=(I4.o x).trans (by kernel_rfl)
theorem kL (x):Av x=(Ao ((Hc (x.1,x.2.1)),x.2.2)).1:=(G4.v x).trans (by kernel_rfl)
theorem k9 (x):O0 x=((Ka (x.1,x.2.1))∧(Di ((Hc (x.1,x.2.1)),x.2.2))):=(G4.o x).trans (by kernel_rfl)
theorem kW (x):AP x=(BM ((Hc (x,3)),4)).1:=(I3.v x).trans (by kernel_rfl)
theorem kG (x):RI x=((Ka (x,3))∧(Ly ((Hc (x,3)),4))):=(I3.o x).trans (by kernel_rfl)
attribute [irreducible] Af RF Av O0 AP RI
end
section
set_option maxRecDepth 8000
def jC:DCode:=(.seq [1,0] (.region [oa 0 4 (.mv (.c (.bool false)))]) (.seq [4] (.region [om 0 5 0,oa 1 6 (.lenT (.t 5)),om 2 7 1,oa 3 8 (.lenT (.t 7)),oa 4 9 (.bin .geq (.t 6) (.t 8)),om 5 10 9,og 6 11 (.mv (.t 0)) 10 true,og 7 12 (.mv (.t 1)) 10 true,og 8 13 (.lenT (.t 12)) 10 true,og 9 14 (.substr (.t 11) none (some (.t 13))) 10 true,og 10 15 (.mv (.t 1)) 10 true,og 11 16 (.bin .eql (.t 14) (.t 15)) 10 true,oa 12 17 (.pick (.t 10) (.t 16) (.c (.bool false))),om 13 4 17]) .ret))
def II:Fn:=⟨⟨2,18,0,true,[.tmp 4],jC⟩,[.one .frz (.str),.one .frz (.str)],.one (.one .own (.bool))⟩
theorem jD:II.A:=BS trivial
def K8:List UInt8×List UInt8→Bool:=II.V
def OI:List UInt8×List UInt8→Prop:=II.O
theorem jG:II.B:=BV trivial (by kernel_rfl) (fun x=>by kernel_rfl)
def jB:DCode:=(.seq [1,0] (.region [oa 0 4 (.mv (.c (.str []))),oa 1 5 (.mv (.c (.bool false)))]) (.seq [1,0] (.seq [9,1,0] (.region [om 0 6 0,om 1 7 1,oF 2 8 II [(.t 6),(.t 7)],oa 3 9 (.un .not (.t 8))]) (.cond (.t 9) (.seq [5,4] (.region [om 0 10 0,om 1 4 10,oa 2 5 (.mv (.c (.bool false)))]) .ret) .skip)) (.seq [5,4] (.region [om 0 11 0,om 1 12 1,oa 2 13 (.lenT (.t 12)),oa 3 14 (.substr (.t 11) (some (.t 13)) none),om 4 4 14,oa 5 5 (.mv (.c (.bool true)))]) .ret)))
def IJ:Fn:=⟨⟨2,15,0,true,[.tmp 4,.tmp 5],jB⟩,[.one .frz (.str),.one .frz (.str)],.tup [.one .own (.str),.one .own (.bool)]⟩
theorem jE:IJ.A:=BS ⟨jD,trivial⟩
def U8:List UInt8×List UInt8→List UInt8×Bool:=IJ.V
def U7:List UInt8×List UInt8→Prop:=IJ.O
theorem jF:IJ.B:=BV ⟨jG,trivial⟩ (by kernel_rfl) (fun x=>by kernel_rfl)
def jX:DCode:=(.seq [1,0] (.region [oa 0 4 (.mv (.c (.str []))),oa 1 5 (.mv (.c (.bool false)))]) (.seq [5,4] (.region [om 0 6 0,om 1 7 1,oF 2 8 IJ [(.t 6),(.t 7)],oa 3 9 (.extract (.t 8) 0),oa 4 10 (.extract (.t 8) 1),om 5 4 9,om 6 5 10]) .ret))
def G1:Fn:=⟨⟨2,11,0,true,[.tmp 4,.tmp 5],jX⟩,[.one .frz (.str),.one .frz (.str)],.tup [.one .own (.str),.one .own (.bool)]⟩
theorem ZC:G1.A:=BS ⟨jE,trivial⟩
def EI:List UInt8×List UInt8→List UInt8×Bool:=G1.V
def Lg:List UInt8×List UInt8→Prop:=G1.O
theorem ZB:G1.B:=BV ⟨jF,trivial⟩ (by kernel_rfl) (fun x=>by kernel_rfl)
def l8:DCode:=(.seq [0] (.region [oi 0 2 0,oa 1 3 (.mv (.c (.bool false)))]) (.seq [0] (.seq [13,0] (.region [om 0 6 0,oa 1 7 (.lenT (.t 6)),oa 2 8 (.bin .lss (.t 7) (.c (.int .i64 1))),om 3 9 8,og 4 10 (.mv (.t 0)) 9 false,og 5 11 (.lenT (.t 10)) 9 false,og 6 12 (.bin .gtr (.t 11) (.c (.int .i64 10))) 9 false,oa 7 13 (.pick (.t 9) (.c (.bool true)) (.t 12))]) (.cond (.t 13) (.seq [3,2] (.region [oi 0 2 0,oa 1 3 (.mv (.c (.bool false)))]) .ret) .skip)) (.seq [5,4,0] (.region [om 0 15 0,oc 1 16 Pc Pm aH [(.t 15)],om 2 14 16,oa 3 17 (.extract (.t 14) 0),oa 4 18 (.extract (.t 14) 1),om 5 4 17,om 6 5 18]) (.seq [4] (.seq [34,4] (.region [om 0 19 5,oa 1 20 (.eqN true (.t 19) (.c (.ifc true))),om 2 21 20,og 3 22 (.mv (.t 4)) 21 false,og 4 23 (.bin .lss (.t 22) (.c (.int .i64 (-999999999)))) 21 false,oa 5 24 (.pick (.t 21) (.c (.bool true)) (.t 23)),om 6 25 24,og 7 26 (.mv (.t 4)) 25 false,og 8 27 (.bin .gtr (.t 26) (.c (.int .i64 999999999))) 25 false,oa 9 28 (.pick (.t 25) (.c (.bool true)) (.t 27)),om 10 29 28,og 11 30 (.mv (.t 4)) 29 false,⟨12,some 31,.call false EM.S EM.P EM.D [(.t 30)],(some (29,false)),[]⟩,og 13 32 (.mv (.t 0)) 29 false,og 14 33 (.bin .neq (.t 31) (.t 32)) 29 false,oa 15 34 (.pick (.t 29) (.c (.bool true)) (.t 33))]) (.cond (.t 34) (.seq [3,2] (.region [oi 0 2 0,oa 1 3 (.mv (.c (.bool false)))]) .ret) .skip)) (.seq [3,2] (.region [om 0 35 4,om 1 2 35,oa 2 3 (.mv (.c (.bool true)))]) .ret)))))
def G7:Fn:=⟨⟨1,36,0,true,[.tmp 2,.tmp 3],l8⟩,[.one .frz (.str)],.tup [.one .own (.int .i64),.one .own (.bool)]⟩
theorem Z0:G7.A:=BS ⟨mC,Vv,trivial⟩
def GB:List UInt8→Int×Bool:=G7.V
def Ln:List UInt8→Prop:=G7.O
theorem ZY:G7.B:=BV ⟨mr,Vp,trivial⟩ (by kernel_rfl) (fun x=>by kernel_rfl)
def j9:DCode:=(.seq [2,0] (.region [oa 0 2 (.allocB 0 [(.int .i64 0),(.int .i64 0),(.int .i64 0),(.int .i64 0)])]) (.seq [2,0] (.seq [19,2,0] (.region [om 0 19 0]) (.block 0 (.seq [20,19,2,0] (.region [oa 0 21 (.bin .eql (.t 19) (.c (.str [110,111,110,101]))),om 1 20 21]) (.cond (.t 20) (.seq [2] (.region [oa 0 22 (.build [(.int .i64 0),(.int .i64 0),(.int .i64 0),(.int .i64 0)] []),os 1 (.storeB 0 4 (.t 2) (.t 22))]) .ret) (.seq [23,19,2,0] (.region [oa 0 24 (.bin .eql (.t 19) (.c (.str [112,97,115,115]))),om 1 23 24]) (.cond (.t 23) (.seq [2] (.region [oa 0 25 (.build [(.int .i64 0),(.int .i64 0),(.int .i64 0),(.int .i64 0)] [(0,1,(.c (.int .i64 1)))]),os 1 (.storeB 0 4 (.t 2) (.t 25))]) .ret) (.seq [26,2,0] (.region [oa 0 27 (.bin .eql (.t 19) (.c (.str [99,97,112,115]))),om 1 26 27]) (.cond (.t 26) (.seq [2] (.region [oa 0 28 (.build [(.int .i64 0),(.int .i64 0),(.int .i64 0),(.int .i64 0)] [(0,1,(.c (.int .i64 10)))]),os 1 (.storeB 0 4 (.t 2) (.t 28))]) .ret) .skip)))))))) (.seq [2,0] (.seq [31,30,29,2,0] (.region [⟨0,some 29,.a false (.litSlice 1 4 [(.int .i64 0),(.int .i64 0),(.int .i64 0),(.int .i64 0)] [(0,1,(.c (.int .i64 3))),(1,1,(.c (.int .i64 4))),(2,1,(.c (.int .i64 5))),(3,1,(.c (.int .i64 9)))]) (some (.one (.int .i64))),none,[]⟩,oa 1 30 (.len (.t 29)),oi 2 31 0]) (.block 1 (.loop [0,2,29,30,31] 1 (.seq [32,31,30,29,2,0] (.region [oa 0 32 (.bin .lss (.t 31) (.t 30))]) (.seq [31,30,29,2,0] (.cond (.t 32) .skip (.exit 1)) (.seq [31,30,29,2,0] (.block 2 (.seq [31,30,29,4,2,0] (.region [oa 0 33 (.indexA 1 (.t 29) (.t 31)),ob 1 34 (.loadH none (.t 33)),om 2 4 34]) (.seq [31,30,29,6,5,4,2,0] (.region [om 0 36 0,om 1 37 4,oF 2 38 Hb [(.t 37)],oF 3 39 G1 [(.t 36),(.t 38)],om 4 35 39,oa 5 40 (.extract (.t 35) 0),oa 6 41 (.extract (.t 35) 1),om 7 5 40,om 8 6 41]) (.seq [42,31,30,29,5,4,2,0] (.region [om 0 42 6]) (.cond (.t 42) (.seq [7,4,2] (.region [om 0 44 5,oF 1 45 G7 [(.t 44)],om 2 43 45,oa 3 46 (.extract (.t 43) 0),oa 4 47 (.extract (.t 43) 1),om 5 7 46,om 6 8 47]) (.seq [2] (.region [om 0 48 4,om 1 49 7,oa 2 50 (.build [(.int .i64 0),(.int .i64 0),(.int .i64 0),(.int .i64 0)] [(0,1,(.t 48)),(3,1,(.t 49))]),os 3 (.storeB 0 4 (.t 2) (.t 50))]) .ret)) .skip))))) (.region [oa 0 51 (.bin .add (.t 31) (.c (.int .i64 1))),om 1 31 51]))))))) (.seq [2,0] (.seq [10,9,2,0] (.region [om 0 53 0,oF 1 54 G1 [(.t 53),(.c (.str [111,110,99,101,58]))],om 2 52 54,oa 3 55 (.extract (.t 52) 0),oa 4 56 (.extract (.t 52) 1),om 5 9 55,om 6 10 56]) (.seq [57,9,2,0] (.region [om 0 57 10]) (.cond (.t 57) (.seq [2] (.region [om 0 58 9,oF 1 59 FN [(.t 58)],oa 2 60 (.build [(.int .i64 0),(.int .i64 0),(.int .i64 0),(.int .i64 0)] [(0,1,(.c (.int .i64 8))),(2,1,(.t 59))]),os 3 (.storeB 0 4 (.t 2) (.t 60))]) .ret) .skip))) (.seq [2,0] (.seq [13,12,11,2,0] (.region [om 0 62 0,oF 1 63 Ha [(.t 62),(.c (.str [47]))],om 2 61 63,oa 3 64 (.extract (.t 61) 0),oa 4 65 (.extract (.t 61) 1),oa 5 66 (.extract (.t 61) 2),om 6 11 64,om 7 12 65,om 8 13 66]) (.seq [67,12,11,2,0] (.region [om 0 67 13]) (.cond (.t 67) (.seq [12,11,2] (.seq [15,14,12,11,2] (.region [om 0 69 11,oF 1 70 G7 [(.t 69)],om 2 68 70,oa 3 71 (.extract (.t 68) 0),oa 4 72 (.extract (.t 68) 1),om 5 14 71,om 6 15 72]) (.seq [73,14,12,11,2] (.region [om 0 73 15]) (.cond (.t 73) (.seq [2] (.region [om 0 74 14,om 1 75 12,oF 2 76 EX [(.t 75)],oa 3 77 (.build [(.int .i64 0),(.int .i64 0),(.int .i64 0),(.int .i64 0)] [(0,1,(.c (.int .i64 7))),(3,1,(.t 74)),(1,1,(.t 76))]),os 4 (.storeB 0 4 (.t 2) (.t 77))]) .ret) .skip))) (.seq [2] (.region [om 0 78 11,oF 1 79 FN [(.t 78)],om 2 80 12,oF 3 81 EX [(.t 80)],oa 4 82 (.build [(.int .i64 0),(.int .i64 0),(.int .i64 0),(.int .i64 0)] [(0,1,(.c (.int .i64 6))),(2,1,(.t 79)),(1,1,(.t 81))]),os 5 (.storeB 0 4 (.t 2) (.t 82))]) .ret)) .skip))) (.seq [2,0] (.seq [18,17,16,2,0] (.region [om 0 84 0,oF 1 85 Ha [(.t 84),(.c (.str [45]))],om 2 83 85,oa 3 86 (.extract (.t 83) 0),oa 4 87 (.extract (.t 83) 1),oa 5 88 (.extract (.t 83) 2),om 6 16 86,om 7 17 87,om 8 18 88]) (.seq [89,17,16,2,0] (.region [om 0 89 18]) (.cond (.t 89) (.seq [2] (.region [om 0 90 16,oF 1 91 FN [(.t 90)],om 2 92 17,oF 3 93 EX [(.t 92)],oa 4 94 (.build [(.int .i64 0),(.int .i64 0),(.int .i64 0),(.int .i64 0)] [(0,1,(.c (.int .i64 2))),(2,1,(.t 91)),(1,1,(.t 93))]),os 5 (.storeB 0 4 (.t 2) (.t 94))]) .ret) .skip))) (.seq [2] (.region [om 0 95 0,oF 1 96 EX [(.t 95)],oa 2 97 (.build [(.int .i64 0),(.int .i64 0),(.int .i64 0),(.int .i64 0)] [(0,1,(.c (.int .i64 2))),(1,1,(.t 96))]),os 3 (.storeB 0 4 (.t 2) (.t 97))]) .ret)))))))
def IY:Fn:=⟨⟨1,98,1,true,[.cell 2 (some 4)],j9⟩,[.one .frz (.str)],.one (.agg [(.own,.int .i64),(.own,.int .i64),(.own,.int .i64),(.own,.int .i64)])⟩
theorem kd:IY.A:=BS ⟨aK,ZC,Z0,ZC,Vr,bc,Z0,Sp,Vr,Sp,bc,Vr,Sp,Sp,trivial⟩
def Dt:List UInt8→Int×Int×Int×Int:=IY.V
def RB:List UInt8→Prop:=IY.O
theorem kt:IY.B:=BV ⟨aF,ZB,ZY,ZB,Vq,aC,ZY,Sd,Vq,Sd,aC,Vq,Sd,Sd,trivial⟩ (by kernel_rfl) (fun x=>by kernel_rfl)
def kg:DCode:=(.seq [2,0] (.region [oa 0 2 (.allocB 0 [(.int .i64 0),(.int .i64 0),(.int .i64 0),(.int .i64 0)]),oa 1 3 (.mv (.c (.bool false)))]) (.seq [4,2,0] (.region [om 0 5 0,oF 1 6 IY [(.t 5)],oa 2 4 (.allocB 1 [(.int .i64 0),(.int .i64 0),(.int .i64 0),(.int .i64 0)]),os 3 (.storeB 1 4 (.t 4) (.t 6))]) (.seq [4,2] (.seq [15,4,2] (.region [oa 0 7 (.loadB 1 (some 4) (.t 4)),oF 1 8 D7 [(.t 7)],oa 2 9 (.un .not (.t 8)),om 3 10 9,og 4 11 (.loadB 1 (some 4) (.t 4)) 10 false,⟨5,some 12,.call false FL.S FL.P FL.D [(.t 11)],(some (10,false)),[]⟩,og 6 13 (.mv (.t 0)) 10 false,og 7 14 (.bin .neq (.t 12) (.t 13)) 10 false,oa 8 15 (.pick (.t 10) (.c (.bool true)) (.t 14))]) (.cond (.t 15) (.seq [3,2] (.region [oa 0 16 (.build [(.int .i64 0),(.int .i64 0),(.int .i64 0),(.int .i64 0)] []),os 1 (.storeB 0 4 (.t 2) (.t 16)),oa 2 3 (.mv (.c (.bool false)))]) .ret) .skip)) (.seq [3,2] (.region [ob 0 17 (.loadB 1 (some 4) (.t 4)),os 1 (.storeB 0 4 (.t 2) (.t 17)),oa 2 3 (.mv (.c (.bool true)))]) .ret))))
def IZ:Fn:=⟨⟨1,18,2,true,[.cell 2 (some 4),.tmp 3],kg⟩,[.one .frz (.str)],.tup [.agg [(.own,.int .i64),(.own,.int .i64),(.own,.int .i64),(.own,.int .i64)],.one .own (.bool)]⟩
theorem ko:IZ.A:=BS ⟨kd,O5,Zy,trivial⟩
def I0:List UInt8→(Int×Int×Int×Int)×Bool:=IZ.V
def MO:List UInt8→Prop:=IZ.O
theorem kj:IZ.B:=BV ⟨kt,O4,ZG,trivial⟩ (by kernel_rfl) (fun x=>by kernel_rfl)
end
section
set_option maxRecDepth 100000
theorem Zs (x):K8 x=(bAnd (iGe (lLen x.1) (lLen x.2)) (sEq (lSub x.1 0 (iNat (lLen x.2))) x.2)):=(II.v x).trans (by kernel_rfl)
theorem Zp (x):OI x=(((iGe (lLen x.1) (lLen x.2))=true→(((0:Int)≤(lLen x.2))∧((0≤(iNat (lLen x.2)))∧((iNat (lLen x.2))≤(List.length x.1)))))∧((iGe (lLen x.1) (lLen x.2))=false→True)):=(II.o x).trans (by kernel_rfl)
theorem Zr (x):U8 x=(bSel (bNot (K8 x)) (x.1,false) ((lSub x.1 (iNat (lLen x.2)) (lN x.1)),true)):=(IJ.v x).trans (by kernel_rfl)
theorem Zq (x):U7 x=((OI x)∧(((bNot (K8 x))=true→True)∧((bNot (K8 x))=false→(((0:Int)≤(lLen x.2))∧(((iNat (lLen x.2))≤(lN x.1))∧((lN x.1)≤(List.length x.1))))))):=(IJ.o x).trans (by kernel_rfl)
theorem ZH (x):EI x=(U8 x):=(G1.v x).trans (by kernel_rfl)
theorem Zz (x):Lg x=(U7 x):=(G1.o x).trans (by kernel_rfl)
theorem l9 (x):GB x=(bSel (bOr (iLt (lLen x) 1) (iGt (lLen x) 10)) (0,false) (bSel (bOr (bNot (DP x).2) (bOr (iLt (DP x).1 (-999999999)) (bOr (iGt (DP x).1 999999999) (sNe (FO (DP x).1) x)))) (0,false) ((DP x).1,true))):=(G7.v x).trans (by kernel_rfl)
theorem ma (x):Ln x=(((bOr (iLt (lLen x) 1) (iGt (lLen x) 10))=true→True)∧((bOr (iLt (lLen x) 1) (iGt (lLen x) 10))=false→((M8 x)∧(((bNot (DP x).2)=true→True)∧((bNot (DP x).2)=false→(((iLt (DP x).1 (-999999999))=true→True)∧((iLt (DP x).1 (-999999999))=false→(((iGt (DP x).1 999999999)=true→True)∧((iGt (DP x).1 999999999)=false→(I5 (DP x).1)))))))))):=(G7.o x).trans (by kernel_rfl)
def FI(x:List UInt8)(x0:Int):Bool:=(bAnd (iLt x0 (lLen [(3:Int),4,5,9])) (bNot (EI (x,(Hf (lGet [3,4,5,9] (iNat x0) 0)))).2))
def Gu(x0:Int):Int:=(iAdd .i64 x0 1)
def Rr(x:List UInt8)(x0:Int):Prop:=(((iLt x0 (lLen [(3:Int),4,5,9]))=true→((((0:Int)≤x0)∧(x0<(((List.length [(3:Int),4,5,9]):Int))))∧(((iNat x0)<(List.length [(3:Int),4,5,9]))∧((Pj (lGet [3,4,5,9] (iNat x0) 0))∧((Lg (x,(Hf (lGet [3,4,5,9] (iNat x0) 0))))∧(((EI (x,(Hf (lGet [3,4,5,9] (iNat x0) 0)))).2=true→(Ln (EI (x,(Hf (lGet [3,4,5,9] (iNat x0) 0)))).1))∧((EI (x,(Hf (lGet [3,4,5,9] (iNat x0) 0)))).2=false→True)))))))∧((iLt x0 (lLen [(3:Int),4,5,9]))=false→True))
theorem MP (x):Dt x=(bSel (sEq x [(110:UInt8),111,110,101]) (0,0,0,0) (bSel (sEq x [(112:UInt8),97,115,115]) (1,0,0,0) (bSel (sEq x [(99:UInt8),97,112,115]) (10,0,0,0) (bSel (iLt (Am (FI x) Gu 0) (lLen [(3:Int),4,5,9])) ((lGet [3,4,5,9] (iNat (Am (FI x) Gu 0)) 0),0,0,(GB (EI (x,(Hf (lGet [3,4,5,9] (iNat (Am (FI x) Gu 0)) 0)))).1).1) (bSel (EI (x,[(111:UInt8),110,99,101,58])).2 (8,0,(J4 (EI (x,[(111:UInt8),110,99,101,58])).1),0) (bSel (B0 (x,[(47:UInt8)])).2.2 (bSel (GB (B0 (x,[(47:UInt8)])).1).2 (7,(Hg (B0 (x,[(47:UInt8)])).2.1),0,(GB (B0 (x,[(47:UInt8)])).1).1) (6,(Hg (B0 (x,[(47:UInt8)])).2.1),(J4 (B0 (x,[(47:UInt8)])).1),0)) (bSel (B0 (x,[(45:UInt8)])).2.2 (2,(Hg (B0 (x,[(45:UInt8)])).2.1),(J4 (B0 (x,[(45:UInt8)])).1),0) (2,(Hg x),0,0)))))))):=(IY.v x).trans (by kernel_rfl)
theorem kf (x):RB x=(((sEq x [(110:UInt8),111,110,101])=true→True)∧((sEq x [(110:UInt8),111,110,101])=false→(((sEq x [(112:UInt8),97,115,115])=true→True)∧((sEq x [(112:UInt8),97,115,115])=false→(((sEq x [(99:UInt8),97,112,115])=true→True)∧((sEq x [(99:UInt8),97,112,115])=false→((LoopOk (FI x) Gu (Rr x) 0)∧(((iLt (Am (FI x) Gu 0) (lLen [(3:Int),4,5,9]))=true→True)∧((iLt (Am (FI x) Gu 0) (lLen [(3:Int),4,5,9]))=false→((Lg (x,[(111:UInt8),110,99,101,58]))∧(((EI (x,[(111:UInt8),110,99,101,58])).2=true→(Lj (EI (x,[(111:UInt8),110,99,101,58])).1))∧((EI (x,[(111:UInt8),110,99,101,58])).2=false→((Lz (x,[(47:UInt8)]))∧(((B0 (x,[(47:UInt8)])).2.2=true→((Ln (B0 (x,[(47:UInt8)])).1)∧(((GB (B0 (x,[(47:UInt8)])).1).2=true→(Ke (B0 (x,[(47:UInt8)])).2.1))∧((GB (B0 (x,[(47:UInt8)])).1).2=false→((Lj (B0 (x,[(47:UInt8)])).1)∧(Ke (B0 (x,[(47:UInt8)])).2.1))))))∧((B0 (x,[(47:UInt8)])).2.2=false→((Lz (x,[(45:UInt8)]))∧(((B0 (x,[(45:UInt8)])).2.2=true→((Lj (B0 (x,[(45:UInt8)])).1)∧(Ke (B0 (x,[(45:UInt8)])).2.1)))∧((B0 (x,[(45:UInt8)])).2.2=false→(Ke x))))))))))))))))))):=(IY.o x).trans (by kernel_rfl)
theorem ki (x):I0 x=(bSel (bOr (bNot (CV (Dt x))) (sNe (JZ (Dt x)) x)) ((0,0,0,0),false) ((Dt x),true)):=(IZ.v x).trans (by kernel_rfl)
theorem kr (x):MO x=((RB x)∧((Jb (Dt x))∧(((bNot (CV (Dt x)))=true→True)∧((bNot (CV (Dt x)))=false→(OQ (Dt x)))))):=(IZ.o x).trans (by kernel_rfl)
attribute [irreducible] K8 OI U8 U7 EI Lg GB Ln Dt RB I0 MO
end
theorem AD(a:Bool):bNot a=!a:=by simp only[N6]
theorem Ay(a b:Bool):bAnd a b=(a&&b):=by simp only[Yp]
theorem Bp(a b:Bool):bOr a b=(a||b):=by simp only[jm]
theorem gg(a b:Bool):bIff a b=(a == b):=by simp only[iw]
theorem AQ{α:Type}(c:Bool)(x y:α):bSel c x y=if c=true then x else y:=by cases c<;>simp[Bg,AY]
theorem Cy(a b:Int):iEq a b=decide (a=b):=by
 rw[UM];by_cases h:a=b<;>simp[h]
theorem CX(a b:Int):iNe a b=!decide (a=b):=by
 rw[jd];by_cases h:a=b<;>simp[h]
theorem Ap(a b:Int):iLt a b=decide (a<b):=by simp only[jg]
theorem CB(a b:Int):iLe a b=decide (a≤b):=by simp only[jn]
theorem Dc(a b:Int):iGt a b=decide (b<a):=by simp only[iY]
theorem Cq(a b:Int):iGe a b=decide (b≤a):=by simp only[jk]
theorem Ce(a b:List UInt8):sEq a b=(a == b):=by simp only[jh]
theorem KM(a b:List UInt8):sNe a b=!(a == b):=by simp only[jb]
section
variable {α:Type}
theorem Aq(l:List α):lLen l=(l.length:Int):=by simp only[Yu]
theorem Ms(l:List α):lN l=l.length:=by simp only[Re]
theorem A5(l:List α)(j:Nat)(d:α):lGet l j d=l.getD j d:=by simp only[N5]
theorem Jy(l:List α)(j:Nat)(x:α):lSet l j x=l.set j x:=by simp only[QA]
theorem GD(l:List α)(a b:Nat):lSub l a b=(l.drop a).take (b-a):=by simp only[Yv]
theorem fC(l:List α)(n:Nat):lTake l n=l.take n:=by simp only[XM]
theorem Dq(l m:List α):lApp l m=l++m:=by simp only[L4]
theorem gW(n:Int)(x:α):lRep n x=List.replicate n.toNat x:=by simp only[iD]
theorem Ar(a:Int):iNat a=a.toNat:=by simp only[X5]
theorem Jz(a b:List UInt8):sAdd a b=a++b:=by simp only[iS]
end
def Ax(n:Int):Prop:=-9223372036854775808≤n∧n≤9223372036854775807
theorem Ia{n:Int}(h:Ax n):IntKind.i64.wrap n=n:=by
 obtain⟨h1,h2⟩:=h;show (if decide (n % 18446744073709551616≥9223372036854775808)=true then n % 18446744073709551616-18446744073709551616 else n % 18446744073709551616)=n;simp only[AA];split<;>omega
theorem Be{a b:Int}(h:Ax (a+b)):iAdd .i64 a b=a+b:=by rw[iN];exact Ia h
theorem H8{a b:Int}(h:Ax (a-b)):iSub .i64 a b=a-b:=by rw[ig];exact Ia h
theorem Js{a b:Int}(h:Ax (a*b)):iMul .i64 a b=a*b:=by rw[iW];exact Ia h
theorem eT{a:Int}(h:Ax (0-a)):iNeg .i64 a=-a:=by rw[ie];rw[Ia h];omega
theorem rQ{a:Int}(h:Ax a):iConv .i64 a=a:=by rw[Ud];exact Ia h
theorem fo{a b:Int}(ha:0≤a)(h:Ax (a / b)):iQuo .i64 a b=a / b:=by
 rw[X7];rw[Int.tdiv_eq_ediv_of_nonneg ha];exact Ia h
theorem Ub{a b:Int}(ha:0≤a):iRem a b=a % b:=by rw[X4];exact Int.tmod_eq_emod_of_nonneg ha
section
variable {X:Type} {c:X→Bool} {f:X→X} {p:X→Prop}
theorem Jr(I:X→Prop)(m:X→Nat)(h:∀ x,I x→p x∧(c x=true→I (f x)∧m (f x)<m x)){x0:X}(h0:I x0) :
 LoopOk c f p x0∧I (Am c f x0)∧c (Am c f x0)=false:=by
 have go:∀ (n:Nat) (x:X),m x<n→I x→∃ y,LoopTo c f p x y∧I y∧c y=false:=by
  intro n
  induction n with
  |zero=>intro x hm;exact absurd hm (Yn _)
  | succ n ih=>
    intro x hm hI;obtain⟨h1,h2⟩:=h x hI
    cases hc:c x with
    |false=>exact⟨x,.stop h1 hc,hI,hc⟩
    | true=>
      obtain⟨h3,h4⟩:=h2 hc;obtain⟨y,h5,h6,h7⟩:=ih (f x) (by omega) h3;exact⟨y,.go h1 hc h5,h6,h7⟩
 obtain⟨y,h1,h2,h3⟩:=go _ x0 (YI _) h0
 rw[h1.val]
 exact⟨⟨y,h1⟩,h2,h3⟩
theorem Dn(n:Nat)(st:Nat→X){x0:X}(h0:st 0=x0)(hs:∀ k,k<n→p (st k)∧c (st k)=true∧f (st k)=st (k+1))(he:p (st n)∧c (st n)=false):LoopOk c f p x0∧Am c f x0=st n:=by
 have go:∀ k,k≤n→LoopTo c f p (st (n-k)) (st n):=by
  intro k
  induction k with
  |zero=>intro _;exact .stop he.1 he.2
  | succ k ih=>
    intro hk;obtain⟨h1,h2,h3⟩:=hs (n-(k+1)) (by omega);refine .go h1 h2 ?_;rw[h3,show n-(k+1)+1=n-k by omega];exact ih (by omega)
 have:=go n (AO _);rw[Ug,h0] at this;exact⟨⟨_,this⟩,this.val⟩
end
def DR(t:Nat→Bool):Nat→Nat→Nat
 |0,i=>i
 |k+1,i=>if t i then i else DR t k (i+1)
theorem Tc(t:Nat→Bool):∀ k i,i≤DR t k i∧DR t k i≤i+k
 |0,i=>⟨AO _,AO _⟩
 | k+1,i=>by
   unfold DR
   split
   · omega
   · have:=Tc t k (i+1);omega
theorem Wt(t:Nat→Bool):∀ k i,DR t k i<i+k→t (DR t k i)=true
 |0,i,h=>by unfold DR at h;omega
 | k + 1,i,h=>by
   unfold DR at h ⊢
   split
   · rename_i ht;exact ht
   · rename_i ht
     rw[Ad ht] at h
     exact Wt t k (i+1) (by omega)
theorem Wq(t:Nat→Bool):∀ k i j,i≤j→j<DR t k i→t j=false
 |0,i,j,h,h'=>by unfold DR at h';omega
 | k + 1,i,j,h,h'=>by
   unfold DR at h'
   split at h'
   · omega
   · rename_i ht
     by_cases hj:j=i
     · subst hj;simpa using ht
     · exact Wq t k (i+1) j (by omega) h'
theorem qT{c:Int→Bool}{f:Int→Int}{p:Int→Prop}(n:Nat)(t:Nat→Bool)(hn:(n:Int)≤9223372036854775806)(hc:∀ i:Nat,i≤n→c i=(decide (i<n)&&!t i))(hf:∀ i:Nat,i<n→f i=iAdd .i64 i 1)(hp:∀ i:Nat,i≤n→p i) :
 LoopOk c f p 0∧Am c f 0=(DR t n 0:Nat):=by
 have hle:=Tc t n 0
 refine Dn (DR t n 0) (fun k=>(k:Int)) rfl (fun k hk=>?_) ⟨hp _ (by omega),?_⟩
 · have hk':k<n:=by omega
   refine⟨hp k (by omega),?_,?_⟩
   · rw[hc k (by omega),Wq t n 0 k (by omega) hk];simp[hk']
   · rw[hf k hk',Be (by unfold Ax;omega)];omega
 · rw[hc _ (by omega)]
   by_cases h:DR t n 0<n
   · rw[Wt t n 0 (by omega)];simp
   · simp[h]
theorem o4{t:Nat→Bool}{n:Nat}:DR t n 0=n↔∀ i,i<n→t i=false:=by
 constructor
 · intro h i hi;exact Wq t n 0 i (by omega) (by omega)
 · intro h;have hle:=Tc t n 0;rcases Bq (DR t n 0) n with h1|h1
   · have:=Wt t n 0 (by omega);rw[h _ h1] at this;cases this
   · omega
theorem vB{c:Int→Bool}{f:Int→Int}(n:Nat)(t:Nat→Bool)(hn:(n:Int)≤9223372036854775806)(hc:∀ i:Nat,i≤n→c i=(decide (i<n)&&!t i))(hf:∀ i:Nat,i<n→f i=iAdd .i64 i 1):Am c f 0=(DR t n 0:Nat):=(qT (p:=fun _=>True) n t hn hc hf (fun _ _=>trivial)).2
theorem Fq{α:Type}(x:List α)(i:Nat)(d:α)(h:i<x.length):x.getD i d∈x:=by
 rw[BN,AF h];exact Eg h
theorem L8{X:Type}{c:X→Bool}{f:X→X}{p:X→Prop}(ix:X→Int)(n:Int)(hn:n≤9223372036854775806)(hc:∀ x,0≤ix x→ix x≤n→c x=true→ix x<n)(hf:∀ x,ix (f x)=iAdd .i64 (ix x) 1)(hp:∀ x,0≤ix x→ix x≤n→p x){x0:X}(h0:0≤ix x0)(h1:ix x0≤n):LoopOk c f p x0:=by
 refine(Jr (fun x=>0≤ix x∧ix x≤n) (fun x=>(n-ix x).toNat) (fun x hI=>⟨hp x hI.1 hI.2,fun hcc=>?_⟩) ⟨h0,h1⟩).1;have:=hc x hI.1 hI.2 hcc;obtain⟨k1,k2⟩:=hI;have e:=hf x;rw[Be (by unfold Ax;omega)] at e;refine⟨by omega,by omega⟩
theorem fE{c:Int→Bool}{f:Int→Int}{n:Nat}(h:¬ Am c f 0<(n:Int))(hn:(n:Int)≤9223372036854775806)(hc:∀ i:Nat,i≤n→c i=true→i<n)(hf:∀ i:Nat,i<n→f i=iAdd .i64 i 1):∀ i:Nat,i<n→c i=true:=by
 have hv:=vB (c:=c) (f:=f) n (fun i=>!c i) hn (fun i hi=>by
  by_cases h1:i<n
  · simp[h1]
  · cases h2:c i with
    |false=>simp[h1]
    |true=>exact absurd (hc i hi h2) h1) hf
 rw[hv] at h;have hle:=Tc (fun i=>!c i) n 0
 have e:DR (fun i=>!c i) n 0=n:=by omega
 intro i hi;have:=o4.1 e i hi;simpa using this
theorem Jh(x:Int×Int×Int×Int):B1 x=CV x:=by
 simp only[B1,Z2,Bt,az,aX,Z7,AD,Ay,Bp,gg,AQ,Cy,CX,Ap,CB,Dc,Cq,Ce,KM,Aq,Ms,A5,Jy,GD,fC,Dq,gW,Ar,Jz];rw[UR]
 repeat' split
 all_goals simp only[Ah,Cg,Cz,Fw,HD,CD,AA,Br,KF,QY,AW,Ib] at *
 all_goals omega
theorem RN(x:Int×Int×Int×Int):Lq x:=by
 have h:∀ y,D9 y:=fun y=>by rw[D9];trivial
 rw[Lq];simp[h]
theorem MQ(x:Int×Int×Int×Int):Jb x:=by
 have h1:∀ y,Nf y:=fun y=>by rw[mQ];trivial
 have h2:∀ y,LB y:=fun y=>by rw[mX];trivial
 have h3:∀ y,Pa y:=fun y=>by rw[mL];trivial
 rw[mi];simp[h1,h2,h3]
theorem XW(a b c:Int):Bt (a,b,c)=(decide (b≤a)&&decide (a≤c)):=by rw[Bt];simp only[Ay,Cq,CB]
theorem XN (x):D9 x:=by rw[D9];trivial
theorem dy(x:List Int):Lh x=HQ x:=by
 rw[Lh,ZI,Jh]
theorem dP(x:List Int):Vh x∧OP x:=by
 rw[Vh,ZF];simp only[AD,Ay,Bp,gg,AQ,Cy,CX,Ap,CB,Dc,Cq,Ce,KM,Aq,Ms,A5,Jy,GD,fC,Dq,gW,Ar,Jz]
 refine⟨⟨fun _=>trivial,fun h=>?_⟩,⟨fun _=>trivial,fun h=>?_⟩⟩ <;>
 · simp only[Ah,Cg,Cz,Fw,HD,CD,AA,Br,KF,QY,AW,Ib,Fw] at h
   have h:x.length=3:=by omega
   simp[h,RN,MQ]
def Tn(_:Int×Int×Int×Int):Prop:=True
theorem TB {X Y:Type} {c:X→Bool} {f:X→X} {p:X→Prop} {d:Y→Bool} {g:Y→Y} {q:Y→Prop} (R:X→Y→Prop) (m:X→Nat)
 (h:∀ x y,R x y→p x∧q y∧c x=d y∧(c x=true→R (f x) (g y)∧m (f x)<m x)) {x0:X} {y0:Y} (h0:R x0 y0) :
 LoopOk c f p x0∧LoopOk d g q y0∧R (Am c f x0) (Am d g y0)∧c (Am c f x0)=false:=by
 have go:∀ (n:Nat) (x:X) (y:Y),m x<n→R x y→∃ u v,LoopTo c f p x u∧LoopTo d g q y v∧R u v∧c u=false:=by
  intro n
  induction n with
  |zero=>intro x y hm;exact absurd hm (Yn _)
  | succ n ih=>
    intro x y hm hR;obtain⟨h1,h2,h3,h4⟩:=h x y hR
    cases hc:c x with
    |false=>exact⟨x,y,.stop h1 hc,.stop h2 (by rw[← h3];exact hc),hR,hc⟩
    | true=>
      obtain⟨h5,h6⟩:=h4 hc;obtain⟨u,v,a1,a2,a3,a4⟩:=ih _ _ (by omega) h5;exact⟨u,v,.go h1 hc a1,.go h2 (by rw[← h3];exact hc) a2,a3,a4⟩
 obtain⟨u,v,a1,a2,a3,a4⟩:=go _ x0 y0 (YI _) h0
 exact⟨⟨_,a1⟩,⟨_,a2⟩,by rw[a1.val,a2.val];exact a3,by rw[a1.val];exact a4⟩
theorem Jo{α:Type}(x:List α)(d:α){i:Nat}(h:i<x.length):x.take i++[x.getD i d]=x.take (i+1):=by
 rw[YH,BN,AF h];rfl
theorem eF {α:Type} {c:Int×List α→Bool} {f:Int×List α→Int×List α} {p:Int×List α→Prop} (x:List α) (d:α) (hl:x.length≤1048576)
 (hc:∀ (i:Nat) (l:List α),c ((i:Int),l)=decide (i<x.length)) (hf:∀ (i:Nat) (l:List α),i<x.length→f ((i:Int),l)=(iAdd .i64 (i:Int) 1,l++[x.getD i d])) (hp:∀ (i:Nat) (l:List α),i≤x.length→l.length=i→p ((i:Int),l)) :
 LoopOk c f p (0,[])∧Am c f (0,[])=((x.length:Int),x):=by
 have:=Dn (c:=c) (f:=f) (p:=p) x.length (fun i=>((i:Int),x.take i)) (x0:=(0,[])) rfl (fun k hk=>by
  refine⟨hp k _ (by omega) (by rw[L5];omega),by rw[hc];simpa using hk,?_⟩;rw[hf k _ hk,Be (by unfold Ax;omega),Jo x d hk]
  simp) ⟨hp _ _ (by omega) (by rw[L5];omega),by rw[hc];simp⟩
 rw[Hu] at this
 exact this
theorem ue{n:Int}(h0:0≤n)(h1:n<256):IntKind.u8.wrap n=n:=by
 simp only[IntKind.wrap,IntKind.bits,IntKind.signed,Ot,AL,AX];omega
theorem L0{n:Int}(h0:0≤n)(h1:n<256):iConv .u8 n=n:=by rw[Ud];exact ue h0 h1
theorem Ju{n:Int}(h0:0≤n)(h1:n<9223372036854775808):iConv .i64 n=n:=rQ (by unfold Ax;omega)
theorem uK{a b:Nat}(ha:a<9223372036854775808)(hb:b<9223372036854775808):iAnd .i64 (a:Int) (b:Int)=((a &&& b:Nat):Int):=by
 have e:(BitVec.ofInt 64 (a:Int) &&& BitVec.ofInt 64 (b:Int)).toNat=a &&& b:=by
  rw[BitVec.ofInt_natCast,BitVec.ofInt_natCast,BitVec.toNat_and,BitVec.toNat_ofNat,BitVec.toNat_ofNat,Nat.mod_eq_of_lt (by omega),Nat.mod_eq_of_lt (by omega)]
 have h:a &&& b≤a:=Nat.and_le_left;rw[Yi];show IntKind.i64.wrap ((BitVec.ofInt 64 (a:Int) &&& BitVec.ofInt 64 (b:Int)).toNat:Int)=_;rw[e];exact Ia (by unfold Ax;omega)
theorem vf(a k:Nat)(h:k≤64):iShr .i64 (a:Int) (k:Int)=((a / 2^k:Nat):Int):=by
 rw[iE];show Int.fdiv (a:Int) (2^min (k:Int).toNat 64)=_;rw[Ba,Nat.min_eq_left h,Int.fdiv_eq_ediv_of_nonneg _ (by exact_mod_cast HB _)];norm_cast
def Bytes(x:List Int):Prop:=∀ a∈x,0≤a∧a<256
theorem Bytes.get{x:List Int}(h:Bytes x)(i:Nat):∃ n:Nat,n<256∧x.getD i 0=(n:Int):=by
 by_cases hi:i<x.length
 · obtain⟨h0,h1⟩:=h _ (Fq x i 0 hi);exact⟨(x.getD i 0).toNat,by omega,by omega⟩
 · exact⟨0,by omega,by rw[BN,Bu (by omega)];rfl⟩
theorem Bytes.of{x:List Int}(h:CT.wf (.sl (.one (.int .u8))) x):Bytes x:=by
 intro a ha;have:=h.2 a ha;simp only[RT.wf,CT.wf] at this
 have h:IntKind.u8.min≤a∧a≤IntKind.u8.max:=by simpa [Lit.wf] using this
 have e1:IntKind.u8.min=0:=by decide
 have e2:IntKind.u8.max=255:=by decide
 rw[e1,e2] at h;omega
def RepOk(x:Int×List Int):Prop:=(0≤x.1∧x.1≤15)∧∀ i,i<x.2.length→(1≤x.2.getD i 0∧x.2.getD i 0≤56)∧(0<i→x.2.getD (i-1) 0<x.2.getD i 0)
theorem RepOk.code{x:Int×List Int}(h:RepOk x)(i:Nat)(hi:i<x.2.length):(i:Int)+1≤x.2.getD i 0:=by
 induction i with
 |zero=>have:=(h.2 0 hi).1;omega
 | succ i ih=>
   have h1:=ih (by omega);have h2:=(h.2 (i+1) hi).2 (by omega);rw[Nat.add_sub_cancel] at h2;omega
theorem RepOk.len{x:Int×List Int}(h:RepOk x):x.2.length≤56:=by
 rcases Bq 56 x.2.length with h1|h1
 · have h2:=h.code 56 h1;have h3:=(h.2 56 h1).1;omega
 · exact h1
section
set_option maxRecDepth 20000
theorem Jt{n:Nat}(h:n≤1048577000):AE n:=by unfold AE;exact Cv h (by decide)
theorem Qa(s:List UInt8)(j:Int):sGet s j=((s.getD j.toNat 0).toNat:Int):=by simp only[iJ]
theorem LW(s:List UInt8):sRow s=s.map fun b=>((b.toNat:Nat):Int):=by simp only[iH]
theorem XT(l:List Int):rowS l=l.map fun n=>UInt8.ofNat n.toNat:=by simp only[iI]
theorem rf(s:List UInt8):rowS (sRow s)=s:=by
 rw[LW,XT,List.map_map]
 conv=>rhs;rw[← List.map_id s]
 apply List.map_congr_left;intro b _;simp
theorem fD(a b:List UInt8):sRow (a++b)=sRow a++sRow b:=by rw[LW,LW,LW,F4]
theorem fA(a:List UInt8):(sRow a).length=a.length:=by rw[LW,Bb]
def DW:List UInt8→Int→List (List UInt8)
 |[],_=>[[]]
 |b::r,c=>if (b.toNat:Int)=c then []::DW r c else match DW r c with|[]=>[[b]]|w::ws=>(b::w)::ws
theorem Ns:∀ (s:List UInt8) (c:Int),(∀ b∈s,(b.toNat:Int)≠c)→DW s c=[s]
 |[],_,_=>rfl
 | b::r,c,h=>by
   have e:=Ns r c (fun x hx=>h x (by simp[hx]))
   simp[DW,h b (by simp),e]
theorem PL:∀ (a:List UInt8) (b:UInt8) (r:List UInt8) (c:Int),(∀ x∈a,(x.toNat:Int)≠c)→(b.toNat:Int)=c→DW (a++b::r) c=a::DW r c
 |[],b,r,c,_,h=>by simp[DW,h]
 | x::a,b,r,c,ha,h=>by
   have e:=PL a b r c (fun y hy=>ha y (by simp[hy])) h
   simp[DW,ha x (by simp),e]
theorem cr{s:List UInt8}{F I:Nat}(h:F≤I)(hI:I<s.length):s.drop F=(s.drop F).take (I-F)++s.getD I 0::s.drop (I+1):=by
 rw[BN,AF hI,Dy]
 conv=>lhs;rw[← List.take_append_drop (I-F) (s.drop F)]
 rw[List.drop_drop,show F+(I-F)=I by omega,Mc hI]
theorem Th(s:List UInt8)(c:Int)(h:s.length≤1048576):Lk (s,c)∧An (s,c)=DW s c:=by
 rw[Lk,An]
 have key:=Jr (c:=OV (s,c)) (f:=RD (s,c)) (p:=Vn (s,c))
  (fun st=>∃ (out:List (List UInt8)) (F I:Nat),st=(out,(F:Int),(I:Int))∧out.length≤I∧((F≤I∧I≤s.length∧(∀ b∈(s.drop F).take (I-F),(b.toNat:Int)≠c)∧DW s c=out++DW (s.drop F) c)∨(I=s.length+1∧DW s c=out)))
  (fun st=>s.length+1-st.2.2.toNat) (fun st hI=>?_) (x0:=([],0,0)) ⟨[],0,0,rfl,by simp,.inl ⟨AO _,HB _,by simp,rfl⟩⟩
 · obtain⟨k1,⟨out,F,I,e,_,hh⟩,k2⟩:=key;refine⟨k1,?_⟩;rw[e] at k2 ⊢;simp only[OV,CB,Aq,Br] at k2;rcases hh with⟨_,h1,_⟩|⟨_,h1⟩
   · omega
   · exact h1.symm
 · obtain⟨out,F,I,rfl,hl,hh⟩:=hI;simp only[OV,RD,Vn,CB,Cy,Aq,Ar,Ba,GD,Dq,Qa,Bp,AQ,AA,Br,AG,AK]
   have ha:iAdd .i64 (I:Int) 1=((I+1:Nat):Int):=by
    rw[Be (by unfold Ax;rcases hh with⟨_,h1,_⟩|⟨h1,_⟩<;>omega)];rfl
   rw[ha];rcases hh with⟨hFI,hIl,hfree,hs⟩|⟨hI1,hs⟩
   · refine⟨⟨fun _=>⟨⟨fun _=>trivial,fun hne=>⟨by omega,by omega⟩⟩,fun _=>⟨⟨⟨by omega,by omega⟩,by omega,by omega⟩,Jt (by omega)⟩,fun _=>trivial⟩,fun _=>trivial⟩,fun _=>?_⟩;by_cases hlt:I<s.length
     · have hne:decide ((I:Int)=(s.length:Int))=false:=B9 (by omega);rw[hne,Bool.false_or];by_cases hc:((s.getD I 0).toNat:Int)=c
       · simp only[hc,decide_true,AN];refine⟨⟨_,I+1,I+1,rfl,by simp;omega,.inl ⟨AO _,by omega,by simp,?_⟩⟩,by simp only[Ba];omega⟩;rw[hs]
         conv=>lhs;rw[cr hFI hlt,PL _ _ _ _ hfree hc]
         simp
       · simp only[hc,decide_false,AL,AX];refine⟨⟨_,F,I+1,rfl,by omega,.inl ⟨by omega,by omega,fun b hb=>?_,hs⟩⟩,by simp only[Ba];omega⟩
         have e:(s.drop F).take (I+1-F)=(s.drop F).take (I-F)++[s.getD I 0]:=by
          rw[show I+1-F=(I-F)+1 by omega,YH,KN,show F+(I-F)=I by omega,AF hlt,BN,AF hlt];rfl
         rw[e,Ci,List.mem_singleton] at hb;rcases hb with hb|rfl
         · exact hfree b hb
         · exact hc
     · have e:I=s.length:=by omega
       subst e;simp only[decide_true,Bool.true_or,AN];refine⟨⟨_,s.length+1,s.length+1,rfl,by simp;omega,.inr ⟨rfl,?_⟩⟩,by simp only[Ba];omega⟩;have e2:(s.drop F).take (s.length-F)=s.drop F:=KE (by rw[Yj];exact AO _);rw[e2] at hfree ⊢;rw[hs,Ns _ _ hfree]
   · subst hI1;refine⟨⟨fun hh=>by omega,fun _=>trivial⟩,fun hh=>by omega⟩
theorem pq:DW Tp 32=Co:=by decide
theorem cn:VI PUnit.unit∧Pe PUnit.unit=Co:=by
 rw[VI,Pe];have:=Th Tp 32 (by decide);rw[pq] at this;exact this
theorem Sg:BA ([97,32,98,32,99,32,100,32,101,32,102,32,103,32,104,32,105,32,106,32,107,32,108,32,109,32,110,32,111,32,112,32,113,32,114,32,115,32,116,32,117,32,118,32,119,32,120,32,121,32,122,32,49,32,50,32,51,32,52,32,53,32,54,32,55,32,56,32,57,32,48,32,101,110,116,101,114,32,101,115,99,32,98,97,99,107,32,116,97,98,32,115,112,97,99,101,32,109,105,110,117,115,32,101,113,117,97,108,32,108,101,102,116,32,114,105,103,104,116,32,117,112,32,100,111,119,110,32,102,49,32,102,50,32,102,51,32,102,52,32,102,53,32,102,54,32,102,55,32,102,56,32,102,57],[32])=Co:=by
 rw[Vx]
 have e:Lib.split Tp [32]=Co:=by kernel_rfl
 exact e
theorem aW:I8 ([97,32,98,32,99,32,100,32,101,32,102,32,103,32,104,32,105,32,106,32,107,32,108,32,109,32,110,32,111,32,112,32,113,32,114,32,115,32,116,32,117,32,118,32,119,32,120,32,121,32,122,32,49,32,50,32,51,32,52,32,53,32,54,32,55,32,56,32,57,32,48,32,101,110,116,101,114,32,101,115,99,32,98,97,99,107,32,116,97,98,32,115,112,97,99,101,32,109,105,110,117,115,32,101,113,117,97,108,32,108,101,102,116,32,114,105,103,104,116,32,117,112,32,100,111,119,110,32,102,49,32,102,50,32,102,51,32,102,52,32,102,53,32,102,54,32,102,55,32,102,56,32,102,57],[32])=True:=by
 rw[VF]
 have e:Tp.length<4294967281∧1≤([32]:List UInt8).length:=by decide
 exact eq_true e
theorem Pu(k:Int):Lr k∧Lo k∧HU k=BC k∧(BC k).length≤5:=by
 obtain⟨n1,n2⟩:=cn;have hl:Co.length=56:=rfl
 have hw:∀ w∈Co,w.length≤5:=by decide
 rw[Lr,mf,BC,mj,n2,Sg,aW];simp only[D9,Bt,AD,Ay,Bp,AQ,Cq,CB,Ap,Dc,A5,Ar,hl];by_cases h:1≤k∧k≤56
 · have e:iSub .i64 k 1=k-1:=H8 (by unfold Ax;omega);rw[e];have d1:decide (1≤k)=true:=B5 h.1;have d2:decide (k≤56)=true:=B5 h.2;have d3:decide (k<1)=false:=B9 (by omega);have d4:decide (56<k)=false:=B9 (by omega);simp only[d1,d2,d3,d4];refine⟨⟨trivial,fun h=>(by cases h),fun _=>⟨n1,⟨by omega,by omega⟩,by omega⟩⟩,⟨fun h=>(by cases h),fun _=>⟨trivial,⟨by omega,by omega⟩,by omega⟩⟩,rfl,?_⟩;show (Co.getD (k-1).toNat []).length≤5;rw[BN,AF (show (k-1).toNat<Co.length by omega)];exact hw _ (Eg _)
 · have d:(decide (1≤k)&&decide (k≤56))=false:=by
    rw[HD,Br,Br];omega
   have d':(decide (k<1)||decide (56<k))=true:=by
    rw[Cg,AA,AA];omega
   simp only[d,d'];exact⟨⟨trivial,fun _=>trivial,fun h=>(by cases h)⟩,⟨fun _=>trivial,fun h=>(by cases h)⟩,rfl,by simp⟩
def Zm(m:Int)(k:Nat):Bool:=iEq (iAnd .i64 (iShr .i64 m (k:Int)) 1) 1
def fm(m:Int):Nat→List UInt8
 |0=>[]
 |k+1=>if Zm m k then fm m k++[([67,83,65,71]:List UInt8).getD k 0] else fm m k
theorem Qy(m:Int):∀ k,(fm m k).length≤k
 |0=>AO _
 | k+1=>by
   unfold fm
   split
   · simp;exact Qy m k
   · exact Nat.le_succ_of_le (Qy m k)
theorem W0(m:Int):Li m∧J0 m∧FM m=B7 m∧B7 m=(if 1≤m∧m≤15 then fm m 4 else []):=by
 rw[Li,k8,B7,kC];by_cases h:1≤m∧m≤15
 · have d1:Bt (m,1,15)=true:=by simp only[Bt,Ay,Cq,CB];simp[h.1,h.2]
   have d2:bOr (iLt m 1) (iGt m 15)=false:=by simp only[Bp,Ap,Dc,CD,Br];omega
   have hk:∀ k:Nat,k<4→k=0∨k=1∨k=2∨k=3:=fun k hk=>by omega
   have ad:∀ k:Nat,k<4→iAdd .i64 (k:Int) 1=((k+1:Nat):Int):=fun k hk=>by rw[Be (by unfold Ax;omega)];rfl
   have sub:∀ k:Nat,k<4→lSub ([67,83,65,71]:List UInt8) k (k+1)=[([67,83,65,71]:List UInt8).getD k 0]:=fun k h4=>by
    rw[GD];rcases hk k h4 with rfl|rfl|rfl|rfl<;>rfl
   have gt:∀ k:Nat,k<4→lGet ([[67],[83],[65],[71]]:List (List UInt8)) k []=[([67,83,65,71]:List UInt8).getD k 0]:=fun k h4=>by
    rw[A5];rcases hk k h4 with rfl|rfl|rfl|rfl<;>rfl
   have L1:=Dn (c:=Le m) (f:=OR m) (p:=ML m) 4 (fun k=>(fm m k,(k:Int))) (x0:=([],0)) rfl (fun k h4=>by
    have i4:iLt (k:Int) 4=true:=by rw[Ap];exact B5 (by omega)
    have len:=Qy m k;simp only[Le,OR,ML,d1,i4,ad k h4,sub k h4,Ay,CL,D9,Ar,Ba,AG,AK];refine⟨⟨⟨fun _=>trivial,fun h=>(by cases h)⟩,fun _=>⟨by omega,fun _=>⟨⟨⟨by omega,by omega⟩,by omega,by omega⟩,by omega⟩,fun _=>trivial⟩,fun h=>(by cases h)⟩,trivial,?_⟩;rw[fm,AQ,Jz]
    rfl) (by
    have i4:iLt ((4:Nat):Int) 4=false:=by rw[Ap];rfl
    simp only[Le,ML,i4,Ay,Ot]
    exact⟨⟨⟨fun h=>(by cases h),fun _=>trivial⟩,fun h=>(by cases h),fun _=>trivial⟩,trivial⟩)
   have L2:=Dn (c:=OU) (f:=Ry m) (p:=Rz m) 4 (fun k=>(fm m k,(k:Int))) (x0:=([],0)) rfl (fun k h4=>by
    have i4:iLt (k:Int) (lLen ([[67],[83],[65],[71]]:List (List UInt8)))=true:=by rw[Ap,Aq];exact B5 (by simp;omega)
    have len:=Qy m k;simp only[OU,Ry,Rz,i4,ad k h4,gt k h4,oO,pE,Ar,Ba,AG,AK];refine⟨⟨fun _=>⟨⟨by omega,by omega⟩,by omega,by omega,fun _=>by omega,fun _=>trivial⟩,fun h=>(by cases h)⟩,trivial,?_⟩;rw[fm,AQ,Jz]
    rfl) (by
    have i4:iLt ((4:Nat):Int) (lLen ([[67],[83],[65],[71]]:List (List UInt8)))=false:=by rw[Ap,Aq];rfl
    simp only[OU,Rz,i4]
    exact⟨⟨fun h=>(by cases h),fun _=>trivial⟩,trivial⟩)
   rw[L1.2,L2.2,d2];exact⟨L1.1,⟨fun h=>(by cases h),fun _=>L2.1⟩,by rw[AQ];rfl,by rw[Ab h]⟩
 · have d1:Bt (m,1,15)=false:=by
    simp only[Bt,Ay,Cq,CB,HD,Br];omega
   have d2:bOr (iLt m 1) (iGt m 15)=true:=by simp only[Bp,Ap,Dc,Cg,AA];omega
   have L1:=Dn (c:=Le m) (f:=OR m) (p:=ML m) 0 (fun _=>([],0)) (x0:=([],0)) rfl (fun k h=>by omega) (by
    simp only[Le,ML,d1,Ay,Bool.and_false,D9]
    exact⟨⟨⟨fun _=>trivial,fun _=>trivial⟩,fun h=>(by cases h),fun _=>trivial⟩,trivial⟩)
   rw[L1.2,d2];exact⟨L1.1,⟨fun _=>trivial,fun h=>(by cases h)⟩,by rw[AQ];rfl,by rw[Ad h]⟩
theorem Tx(m:Int):Li m∧J0 m∧FM m=B7 m∧(B7 m).length≤4:=by
 obtain⟨a,b,c,d⟩:=W0 m;refine⟨a,b,c,?_⟩;rw[d];split
 · exact Qy m 4
 · simp
theorem dS(sep x:List UInt8):∀ (l:List (List UInt8)),Bn (l++[x]) sep=if l=[] then x else Bn l sep++sep++x
 |[]=>by simp[Bn,List.intercalate]
 |[a]=>by simp[Bn,List.intercalate]
 | a::b::r=>by
   have:=dS sep x (b::r)
   simp only[Bn,List.intercalate,Cp,List.intersperse,GN,reduceCtorEq,AX] at this ⊢
   rw[this]
   simp
theorem PT(sep:List UInt8)(W:Nat):∀ (l:List (List UInt8)),(∀ w∈l,w.length+sep.length≤W)→(Bn l sep).length≤l.length*W
 |[],_=>by simp[Bn,List.intercalate]
 | [a],h=>by
   have:=h a (by simp)
   simp[Bn,List.intercalate];omega
 | a::b::r,h=>by
   have i:=PT sep W (b::r) (fun w hw=>h w (by simp[hw]))
   have:=h a (by simp)
   simp only[Bn,List.intercalate,List.intersperse,GN,CA,AG] at i ⊢
   rw[Dr (r.length+1) 1 W]
   omega
theorem dN(xs:List (List UInt8))(sep:List UInt8)(hl:xs.length≤1048576)(hw:∀ w∈xs,w.length+sep.length≤1000):M3 (xs,sep)∧Lu (xs,sep)=Bn xs sep:=by
 rw[M3,Lu]
 have tl:∀ k,(Bn (xs.take k) sep).length≤1048576000:=fun k=>by
  have h1:=PT sep 1000 (xs.take k) (fun w hw'=>hw w (Me hw'))
  have h2:(xs.take k).length≤1048576:=by rw[L5];omega
  exact Cv h1 (Nat.mul_le_mul h2 (AO _))
 have L:=Dn (c:=OY (xs,sep)) (f:=RP (xs,sep)) (p:=RH (xs,sep)) xs.length (fun k=>(sRow (Bn (xs.take k) sep),(k:Int))) (x0:=([],0)) (by simp[Bn,List.intercalate,LW]) (fun k hk=>by
  have i1:iLt (k:Int) (lLen xs)=true:=by rw[Ap,Aq];exact B5 (by omega)
  have ad:iAdd .i64 (k:Int) 1=((k+1:Nat):Int):=by rw[Be (by unfold Ax;omega)];rfl
  have gk:lGet xs k []=xs.getD k []:=A5 _ _ _
  have hwk:(xs.getD k []).length+sep.length≤1000:=by
   rw[BN,AF hk];exact hw _ (Eg _)
  have tk:=tl k
  have sn:Bn (xs.take (k+1)) sep=if xs.take k=[] then xs.getD k [] else Bn (xs.take k) sep++sep++xs.getD k []:=by
   rw[← Jo xs [] hk,dS]
  simp only[OY,RP,RH,i1,ad,gk,Dq,Ar,Ba,fA,CA];refine⟨⟨fun _=>⟨⟨fun _=>Jt (by omega),fun _=>trivial⟩,⟨by omega,by omega⟩,hk,?_⟩,fun h=>(by cases h)⟩,trivial,?_⟩
  · refine Jt ?_;rw[AQ];split<;>simp only[CA,fA]<;>omega
  · rw[sn,AQ,Dc];rcases Mb k with rfl|h0
    · simp[LW,Bn,List.intercalate]
    · have h1:xs.take k≠[]:=fun e=>by
       have:=congrArg List.length e;rw[L5,AK] at this;omega
      have h2:decide ((0:Int)<(k:Int))=true:=B5 (by omega)
      rw[Ad h1,h2,Ab rfl,fD,fD]) (by
  have i1:iLt (xs.length:Int) (lLen xs)=false:=by rw[Ap,Aq];exact B9 (by omega)
  simp only[OY,RH,i1]
  exact⟨⟨fun h=>(by cases h),fun _=>trivial⟩,trivial⟩)
 rw[L.2,Hu,rf];exact⟨L.1,rfl⟩
theorem eQ(xs:List (List UInt8))(sep:List UInt8)(hl:xs.length≤1048576)(hw:∀ w∈xs,w.length+sep.length≤100):M3 (xs,sep)∧Lu (xs,sep)=Bn xs sep:=dN xs sep hl fun w h=>Cv (hw w h) (by decide)
end
def pJ(x:List (Int×Int×Int×Int)):Prop:=x.length≤1048576∧∀ a∈x,Tn a
def V9(x:List (List (Int×Int×Int×Int))):Prop:=x.length≤1048576∧∀ a∈x,pJ a
def EZ(x:Int×(List (List (Int×Int×Int×Int)))):Prop:=V9 x.2∧True
theorem SY(x:Int×List (List (Int×Int×Int×Int))):ER x=BL x:=by
 rw[ER,R7,XW,XW]
 have inner:∀ (i a n:Int) (A B:Bool),bNot (bOr A (bSel (iEq a 1) (bOr (iEq i 0) B) B))=bNot (bOr A (bSel (iEq i 0) (bOr (iEq a 1) B) B)):=by
  intro i a n A B;simp only[AD,Bp,AQ,Cy];by_cases h1:a=1<;>by_cases h2:i=0<;>simp[h1,h2]
 simp only[Jh,fun i a A B=>inner i a 0 A B];generalize bNot (iLt (Am _ _ _) (lLen x.2))=L;rw[UR];simp only[Ay,AD,Bp,Ap,Dc,Aq,Ah,Cg,Cz,Fw,HD,CD,AA,Br,KF,QY,AW,Ib];cases L<;>simp<;>omega
theorem Kg(x:Int×List (List (Int×Int×Int×Int)))(h:EZ x):Ll x∧G5 x:=by
 obtain⟨k,x⟩:=x;have h:V9 x:=h.1;rw[Ll,mh]
 have inl:∀ i:Int,0≤i→i<x.length→(lGet x (iNat i) []).length≤1048576:=fun i h0 hi=>by
  rw[A5,Ar];exact(h.2 _ (Fq x i.toNat [] (by omega))).1
 refine⟨⟨?_,fun _=>trivial,fun _=>⟨XN _,fun _=>XN _,fun _=>trivial⟩⟩,fun _=>trivial,fun _=>?_⟩
 all_goals
  refine L8 (fun st=>st) x.length (by have:=h.1;omega) (fun st _ _ hc=>?_) (fun st=>rfl) (fun st h0 h1=>?_) (by simp) (by simp)
  · rw[Ay,Ap st,Aq,Ah,AA] at hc
    exact hc.1
  · refine⟨fun hlt=>?_,fun _=>trivial⟩
    rw[Ap,Aq,AA] at hlt;have hlt:st<(x.length:Int):=hlt
    have h3:iNat st<x.length:=by rw[Ar];omega
    have hl:=inl st h0 hlt;refine⟨⟨h0,hlt⟩,h3,fun _=>trivial,fun _=>?_⟩;refine L8 (fun st=>st) (lGet x (iNat st) []).length (by omega) (fun j _ _ hc=>?_) (fun st=>rfl) (fun j j0 j1=>?_) (by simp) (by simp)
    · rw[Ay,Ap j,Aq,Ah,AA] at hc;exact hc.1
    · have fin:iLt j (lLen (lGet x (iNat st) []))=true→j<((lGet x (iNat st) []).length:Int)∧iNat j<(lGet x (iNat st) []).length:=fun hj=>by
       rw[Ap,Aq,AA] at hj;exact⟨hj,by rw[Ar];omega⟩
      first
       |exact⟨⟨h0,hlt⟩,h3,fun hj=>⟨⟨h0,hlt⟩,h3,⟨j0,(fin hj).1⟩,(fin hj).2,RN _⟩,fun _=>trivial⟩
       |exact⟨fun hj=>⟨⟨j0,(fin hj).1⟩,(fin hj).2,MQ _⟩,fun _=>trivial⟩
structure MapOk (k:Int) (x:List (List (Int×Int×Int×Int))):Prop where
 k1:1≤k
 k2:k≤32
 l1:1≤x.length
 l2:x.length≤4
 row:∀ i:Nat,i<x.length→((x.getD i []).length:Int)=k
 act:∀ i j:Nat,i<x.length→j<(x.getD i []).length→CV ((x.getD i []).getD j (0,0,0,0))=true∧(i=0→((x.getD i []).getD j (0,0,0,0)).1≠1)∧(((x.getD i []).getD j (0,0,0,0)).1≠9→((x.getD i []).getD j (0,0,0,0)).2.2.2<x.length)
theorem Wb{k:Int}{x:List (List (Int×Int×Int×Int))}(hs:EZ (k,x))(h:BL (k,x)=true):MapOk k x:=by
 rw[R7,Ay,Ah] at h;obtain⟨h1,h2⟩:=h;simp only[AD,Bp,Ap,Dc,Aq,Ah,Cg,Cz,Fw,HD,CD,AA,Br,KF,QY,AW,Ib] at h1;rw[AD,Cz,Ap _ (lLen _),Aq,Br] at h2;have hs:V9 x:=hs.1
 have all:=fE h2 (by show (x.length:Int)≤_;omega) (fun i hi hc=>by
  rw[Ay,Ap (i:Int),Aq,Ah,AA] at hc
  have:=hc.1;show i<x.length;simp only at this;omega) (fun i hi=>rfl)
 have row:∀ i:Nat,i<x.length→((x.getD i []).length:Int)=k∧∀ j:Nat,j<(x.getD i []).length→CV ((x.getD i []).getD j (0,0,0,0))=true∧(i=0→((x.getD i []).getD j (0,0,0,0)).1≠1)∧(((x.getD i []).getD j (0,0,0,0)).1≠9→((x.getD i []).getD j (0,0,0,0)).2.2.2<x.length):=by
  intro i hi;have hc:=all i hi;rw[Ay,Ay,Ah,Ah] at hc;obtain⟨_,c1,c2⟩:=hc;simp only[AD,CX,Aq,A5,Ar,Ba,Bool.not_not,AA] at c1;rw[AD,Cz,Ap _ (lLen _),Aq,Br] at c2;have hli:=(hs.2 _ (Fq x i [] hi)).1
  have hin:(lGet x (iNat (i:Int)) [])=x.getD i []:=by rw[A5,Ar,Ba]
  have all2:=fE c2 (by show ((lGet x (iNat (i:Int)) []).length:Int)≤_;rw[hin];omega) (fun j hj hc=>by
   simp only[Ay,Ap,Aq,Ah,AA] at hc
   have:=hc.1;show j<(lGet x (iNat (i:Int)) []).length;omega) (fun j hj=>rfl)
  refine⟨c1,fun j hj=>?_⟩;have hc:=all2 j (by show j<(lGet x (iNat (i:Int)) []).length;rw[hin];exact hj);simp only[hin] at hc;simp only[Ay,AD,Bp,AQ,Cy,CX,Cq,Aq,A5,Ar,Ba,Ah,Cz,CD,Fw] at hc;obtain⟨_,d1,d2⟩:=hc;refine⟨d1,fun hz=>?_,fun h9=>?_⟩
  · subst hz;simp only[Int.ofNat_zero,Int.natCast_zero,decide_true,AN,CD,Br] at d2;exact d2.1
  · split at d2
    · simp only[CD,HD,Br,Fw,AA] at d2;rcases d2.2 with d2|d2
      · exact absurd d2 h9
      · omega
    · simp only[HD,Br,Fw,AA] at d2;rcases d2 with d2|d2
      · exact absurd d2 h9
      · omega
 exact⟨by omega,by omega,by omega,by omega,fun i hi=>(row i hi).1,fun i j hi hj=>(row i hi).2 j hj⟩
theorem gV(a:Int×Int×Int×Int):RQ a=Gx a:=by rw[RQ,OZ,Jh]
theorem gQ(a:Int×Int×Int×Int):Vo a∧RG a:=by rw[Vo,kS];exact⟨RN _,MQ _⟩
theorem sU(a:Int×Int×Int×Int):(Gx a).length≤3:=by
 rw[OZ,AQ];split
 · simp
 · simp
theorem V7{k:Int}{x:List (List (Int×Int×Int×Int))}(hm:MapOk k x){o:List Int}(ho:o.length≤100000){i:Nat}(hi:i<x.length) :
 LoopOk (JX (k,x)) (Lf (k,x) (o,(i:Int))) (Rv (k,x) (o,(i:Int))) (o,0) ∧
 LoopOk (IL (k,x) (o,(i:Int))) (JY (k,x) (o,(i:Int))) (Rx (k,x) (o,(i:Int))) (o,0) ∧
 Am (JX (k,x)) (Lf (k,x) (o,(i:Int))) (o,0)=Am (IL (k,x) (o,(i:Int))) (JY (k,x) (o,(i:Int))) (o,0) ∧
 (Am (JX (k,x)) (Lf (k,x) (o,(i:Int))) (o,0)).1.length≤o.length+96:=by
 have hr:=hm.row i hi
 have k1:=hm.k1
 have k2:=hm.k2
 generalize hl:x.getD i []=l at hr
 have hg:lGet x (iNat (i:Int)) []=l:=by rw[A5,Ar,Ba];exact hl
 obtain⟨b1,b2,⟨b3,b4,b5,b6⟩,_⟩:=TB (c:=JX (k,x)) (f:=Lf (k,x) (o,(i:Int))) (p:=Rv (k,x) (o,(i:Int))) (d:=IL (k,x) (o,(i:Int))) (g:=JY (k,x) (o,(i:Int))) (q:=Rx (k,x) (o,(i:Int))) (x0:=(o,0)) (y0:=(o,0))
  (fun s t=>s=t∧0≤s.2∧s.2≤k∧(s.1.length:Int)≤o.length+3*s.2) (fun s=>(k-s.2).toNat) (by
   rintro⟨a,j⟩ t ⟨rfl,h1,h2,h3⟩
   simp only at h1 h2 h3
   have e4:iAdd .i64 j 1=j+1:=Be (by unfold Ax;omega)
   have pl:=sU
   refine⟨?_,?_,?_,fun hcc=>?_⟩
   · simp only[Rv,hg,Ap,AA,gV]
     refine⟨fun hk=>?_,fun _=>trivial⟩;have:=pl (lGet l (iNat j) (0,0,0,0));refine⟨⟨by omega,by omega⟩,by rw[Ar];omega,⟨by omega,by omega⟩,by rw[Ar];omega,(gQ _).1,by unfold AE;omega⟩
   · simp only[Rx,hg,Ap,Aq,AA]
     refine⟨fun hk=>?_,fun _=>trivial⟩;have:=pl (lGet l (iNat j) (0,0,0,0));refine⟨⟨by omega,by omega⟩,by rw[Ar];omega,(gQ _).2,by unfold AE;omega⟩
   · simp only[JX,IL,hg,Ap,Aq,hr]
   · simp only[JX,Ap,AA] at hcc
     simp only[Lf,JY,hg,gV,e4,Dq,CA];have:=pl (lGet l (iNat j) (0,0,0,0))
     exact⟨⟨trivial,by omega,by omega,by omega⟩,by omega⟩) ⟨rfl,by simp,by simp;omega,by simp⟩
 exact⟨b1,b2,b3,by omega⟩
theorem nH(k:Int)(x:List (List (Int×Int×Int×Int)))(hs:EZ (k,x)):ZP (k,x)∧OX (k,x)∧Fk (k,x)=Vu (k,x)∧(Vu (k,x)).length≤386:=by
 obtain⟨a1,a2⟩:=Kg (k,x) hs;rw[ZP,kv,Vu,ZS];simp only[SY]
 cases hv:BL (k,x) with
 |false=>simp[a1,a2,AQ,AD]
 | true=>
   have hm:=Wb hs hv;have l1:=hm.l1;have l2:=hm.l2
   have e0:lApp [] [(iConv .u8 k),(iConv .u8 (lLen x))]=[(iConv .u8 k),(iConv .u8 (lLen x))]:=by rw[Dq];rfl
   rw[e0]
   obtain⟨b1,b2,⟨b3,b4,b5,b6⟩,_⟩:=TB (c:=Ru (k,x)) (f:=Rw (k,x)) (p:=Vj (k,x)) (d:=MM (k,x)) (g:=MN (k,x)) (q:=Vg (k,x)) (x0:=([(iConv .u8 k),(iConv .u8 (lLen x))],0)) (y0:=([(iConv .u8 k),(iConv .u8 (lLen x))],0))
    (fun s t=>s=t∧0≤s.2∧s.2≤x.length∧(s.1.length:Int)≤2+96*s.2) (fun s=>(x.length-s.2).toNat) (by
     rintro⟨a,i⟩ t ⟨rfl,h1,h2,h3⟩
     simp only at h1 h2 h3
     obtain⟨i,rfl⟩:∃ n:Nat,i=n:=⟨i.toNat,by omega⟩
     have e4:iAdd .i64 (i:Int) 1=(i:Int)+1:=Be (by unfold Ax;omega)
     refine⟨?_,?_,rfl,fun hcc=>?_⟩
     · simp only[Vj,Ap,Aq,AA]
       exact⟨fun hk=>(V7 hm (by omega) (by omega)).1,fun _=>trivial⟩
     · simp only[Vg,Ap,Aq,AA]
       exact⟨fun hk=>⟨⟨by omega,by omega⟩,by rw[Ar];omega,(V7 hm (by omega) (by omega)).2.1⟩,fun _=>trivial⟩
     · simp only[Ru,Ap,Aq,AA] at hcc
       obtain⟨_,_,r3,r4⟩:=V7 hm (o:=a) (i:=i) (by omega) (by omega);simp only[Rw,MN,r3,e4];rw[r3] at r4
       exact⟨⟨trivial,by omega,by omega,by omega⟩,by omega⟩) ⟨rfl,by simp,by simp,by simp⟩
   have r2:AE 2:=by unfold AE;omega
   refine⟨?_,?_,?_,?_⟩
   · simp[a1,AD,b1,r2]
   · simp[a2,AD,b2]
   · rw[AD];simp only[E6,AY];rw[b3]
   · rw[AD];simp only[E6,AY];omega
def Ca(c:List Int×Int×Int):Prop:=0≤c.2.1∧c.2.1≤c.1.length∧c.1.length≤1048576
theorem Uy(x:Int):0≤iAnd .i64 x 255∧iAnd .i64 x 255≤255:=by
 rw[Yi]
 have h:(BitVec.ofInt IntKind.i64.bits x &&& BitVec.ofInt IntKind.i64.bits 255).toNat≤255:=by
  rw[BitVec.toNat_and];exact Nat.and_le_right
 have:IntKind.i64.wrap ((BitVec.ofInt IntKind.i64.bits x &&& BitVec.ofInt IntKind.i64.bits 255).toNat:Int)=((BitVec.ofInt IntKind.i64.bits x &&& BitVec.ofInt IntKind.i64.bits 255).toNat:Int):=Ia (by unfold Ax;omega);rw[this];omega
theorem TY(c:List Int×Int×Int)(h:Ca c):HV c∧0≤(BD c).1∧(BD c).1≤255∧Ca (c.1,(BD c).2):=by
 obtain⟨h1,h2,h3⟩:=h;rw[ni,nw];simp only[AQ,Ap,Aq,Ar,AA,Br];refine⟨⟨by omega,by omega,fun _=>by omega,fun _=>trivial⟩,?_,?_,?_⟩
 · split
   · exact(Uy _).1
   · exact(Uy _).1
 · split
   · exact(Uy _).2
   · exact(Uy _).2
 · unfold Ca;simp only;split
   · rw[Be (by unfold Ax;omega)];omega
   · omega
theorem E1(c:List Int×Int×Int)(n:Int)(h:Ca c):Di (c,n)∧Ca (c.1,(Ao (c,n)).2)∧(n≤0→(Ao (c,n)).1=0)∧(0<n→0≤(Ao (c,n)).1∧(Ao (c,n)).1<n):=by
 rw[mE,mu];obtain⟨a1,a2,a3,a4⟩:=TY c h;obtain⟨b1,b2,b3,b4⟩:=TY _ a4;obtain⟨c1,c2,c3,c4⟩:=TY _ b4;obtain⟨d1,d2,d3,d4⟩:=TY _ c4;simp only at b1 b2 b3 b4 c1 c2 c3 c4 d1 d2 d3 d4 ⊢;simp only[AQ,CB,AA,Br];by_cases hn:n≤0
 · simp only[Ab hn];exact⟨⟨fun _=>trivial,fun h=>absurd hn h⟩,h,fun _=>trivial,fun h=>by omega⟩
 · simp only[Ad hn];by_cases hm:n≤256
   · simp only[Ab hm];refine⟨⟨fun h=>absurd h hn,fun _=>⟨fun _=>⟨a1,by omega⟩,fun h=>absurd hm h⟩⟩,a4,fun h=>absurd h hn,fun _=>?_⟩;rw[Ub a2];exact⟨Int.emod_nonneg _ (by omega),Int.emod_lt_of_pos _ (by omega)⟩
   · simp only[Ad hm];refine⟨⟨fun h=>absurd h hn,fun _=>⟨fun h=>absurd h hm,fun _=>⟨a1,b1,c1,d1,by omega⟩⟩⟩,d4,fun h=>absurd h hn,fun _=>?_⟩;generalize (BD c).1=p at a2 a3;generalize (BD (c.1,(BD c).2)).1=q at b2 b3;generalize (BD (c.1,(BD (c.1,(BD c).2)).2)).1=r at c2 c3;generalize (BD (c.1,(BD (c.1,(BD (c.1,(BD c).2)).2)).2)).1=s at d2 d3;rw[Js (a:=p) (by unfold Ax;omega),Js (a:=q) (by unfold Ax;omega),Js (a:=r) (by unfold Ax;omega),Be (a:=p*16777216) (by unfold Ax;omega),Be (a:=p*16777216+q*65536) (by unfold Ax;omega),Be (a:=p*16777216+q*65536+r*256) (by unfold Ax;omega),Ub (by omega)];exact⟨Int.emod_nonneg _ (by omega),Int.emod_lt_of_pos _ (by omega)⟩
theorem gU(c:List Int×Int×Int)(n:Int)(h:Ca c):LA (c,n)∧Ca (c.1,(C7 (c,n)).2):=by
 obtain⟨a1,a2,_⟩:=E1 c n h;rw[nk,nE];exact⟨a1,a2⟩
theorem tV(c:List Int×Int×Int)(l:List Int)(hl:0<l.length)(h:Ca c):MR (c,l)∧Ca (c.1,(Gz (c,l)).2)∧(Gz (c,l)).1∈l:=by
 obtain⟨a1,a2,_,a4⟩:=E1 c (lLen l) h;rw[lD,lq];have a4:=a4 (by rw[Aq];omega);simp only;generalize (Ao (c,lLen l)).1=i at a4 ⊢;rw[Aq] at a4;refine⟨⟨a1,a4,by rw[Ar];omega⟩,a2,?_⟩;rw[A5,Ar];exact Fq l _ _ (by omega)
theorem vV(x:List Int)(h:x.length≤1048576):Nl x∧Ca (Jg x)∧(Jg x).1=x:=by
 rw[nP,nM];refine⟨?_,⟨by simp,by simp,h⟩,rfl⟩;refine L8 (fun st=>st.2) x.length (by omega) (fun st _ _ hc=>?_) (fun _=>rfl) (fun st h0 h1=>?_) (by simp) (by simp)
 · unfold VK at hc;simp only[Ay,Ap,Aq,Ah,AA] at hc;exact hc.1
 · unfold au;refine⟨fun hc=>?_,fun _=>trivial⟩;simp only[Ay,Ap,Aq,Ah,AA] at hc;rw[Ar];omega
theorem vH(x:List Int):Nv x=decide (1048576<x.length)∧SV x:=by
 rw[ph,oL];refine⟨?_,trivial⟩;rw[Dc,Aq];congr 1;exact propext (by omega)
def Mw(a:Int×Int×Int×Int):Prop:=CV a=true∧a.1≠1
theorem F2(k c m n:Int):CV (k,c,m,n)=true ↔
 ((k=0∨k=1∨k=10)∧c=0∧m=0∧n=0)∨(k=2∧n=0∧0≤c∧c≤56∧0≤m∧m≤15∧(c≠0∨m≠0))∨((k=3∨k=4)∧c=0∧m=0∧1≤n∧n≤3)∨((k=5∨k=9)∧c=0∧m=0∧0≤n∧n≤3) ∨
 (k=6∧1≤c∧c≤56∧1≤m∧m≤15∧n=0)∨(k=7∧1≤c∧c≤56∧m=0∧1≤n∧n≤3)∨(k=8∧c=0∧1≤m∧m≤15∧n=0):=by
 rw[Z2]
 simp only[AQ,Bp,Ay,Cy,CX,az,aX,Z7,Cq,CB]
 repeat' split
 all_goals simp only[Ah,Cg,Cz,Fw,HD,CD,AA,Br,KF,QY,AW,Ib,GI,KF,decide_not] at *
 all_goals omega
theorem gp(c:List Int×Int×Int)(n:Int)(h:Ca c)(n1:1≤n)(n4:n≤4):Ly (c,n)∧Ca (c.1,(BM (c,n)).2)∧Mw (BM (c,n)).1∧((BM (c,n)).1.1≠9→(BM (c,n)).1.2.2.2<n):=by
 rw[mS,nc]
 obtain⟨m,em,m1,m3,mn⟩:∃ m,iMax 1 (iSub .i64 n 1)=m∧1≤m∧m≤3∧(1<n→m=n-1):=by
  refine⟨_,rfl,?_⟩;rw[H8 (by unfold Ax;omega),Yh];split<;>omega
 have em':iMax 1 n=n:=by rw[Yh];split<;>omega
 obtain⟨a1,a2,_,a4⟩:=E1 c 56 h;have a4:=a4 (by omega);obtain⟨b1,b2,_,b4⟩:=E1 _ 15 a2;have b4:=b4 (by omega);change Ca (c.1,(GA (c,n)).2) at b2;change 0≤(GA (c,n)).1∧(GA (c,n)).1<15 at b4;obtain⟨c1,c2⟩:=gU _ 2 b2;change Ca (c.1,(B8 (c,n)).2) at c2
 have hc2:Ca (c.1,(bSel (B8 (c,n)).1 (B8 (c,n)).2.1 (B8 (c,n)).2.1),(bSel (B8 (c,n)).1 (B8 (c,n)).2.2 (B8 (c,n)).2.2)):=by
  simp only[AQ,ite_self];exact c2
 obtain⟨d1,d2,_,d4⟩:=E1 _ (iMax 1 (iSub .i64 n 1)) hc2;change Ca (c.1,(Du (c,n)).2) at d2
 have d4:0≤(Du (c,n)).1∧(Du (c,n)).1<m:=by
  have:=d4 (by rw[em];omega);rw[em] at this
  have e:Du (c,n)=Ao ((c.1,(bSel (B8 (c,n)).1 (B8 (c,n)).2.1 (B8 (c,n)).2.1),(bSel (B8 (c,n)).1 (B8 (c,n)).2.2 (B8 (c,n)).2.2)),m):=by unfold Du;rw[em]
  rw[e];exact this
 obtain⟨e1,e2,_,e4⟩:=E1 _ 16 d2;have e4:=e4 (by omega);change Ca (c.1,(AJ (c,n)).2) at e2;change 0≤(AJ (c,n)).1∧(AJ (c,n)).1<16 at e4;obtain⟨f1,f2,_,f4⟩:=E1 _ 4 e2;have f4:=f4 (by omega);change Ca (c.1,(M1 (c,n)).2) at f2;change 0≤(M1 (c,n)).1∧(M1 (c,n)).1<4 at f4;obtain⟨g1,g2,_,g4⟩:=E1 _ 3 e2;have g4:=g4 (by omega);change Ca (c.1,(I7 (c,n)).2) at g2;change 0≤(I7 (c,n)).1∧(I7 (c,n)).1<3 at g4;obtain⟨i1,i2,_,i4⟩:=E1 _ (iMax 1 n) e2;have i4:=i4 (by rw[em'];omega);change Ca (c.1,(M5 (c,n)).2) at i2;change 0≤(M5 (c,n)).1∧(M5 (c,n)).1<iMax 1 n at i4;rw[em'] at i4
 have hM:1≤bSel (B8 (c,n)).1 2 (iAdd .i64 1 (GA (c,n)).1)∧bSel (B8 (c,n)).1 2 (iAdd .i64 1 (GA (c,n)).1)≤15:=by
  rw[AQ,Be (by unfold Ax;omega)];split<;>omega
 have hC:1≤iAdd .i64 1 (Ao (c,56)).1∧iAdd .i64 1 (Ao (c,56)).1≤56:=by rw[Be (by unfold Ax;omega)];omega
 have hN:1≤iAdd .i64 1 (Du (c,n)).1∧iAdd .i64 1 (Du (c,n)).1≤m:=by rw[Be (by unfold Ax;omega)];omega
 refine⟨?_,?_⟩
 · refine⟨a1,b1,c1,d1,e1,fun _=>trivial,fun _=>⟨fun _=>trivial,fun _=>⟨fun _=>trivial,fun _=>⟨fun _=>trivial,fun _=>⟨fun _=>f1,fun _=>⟨fun _=>trivial,fun _=>⟨fun _=>i1,fun _=>⟨fun _=>⟨fun _=>⟨g1,?_,?_⟩,fun _=>trivial⟩,fun _=>trivial⟩⟩⟩⟩⟩⟩⟩⟩
   · simp only[AG,AK];omega
   · simp only[AG,AK,Ar];omega
 generalize bSel (B8 (c,n)).1 2 (iAdd .i64 1 (GA (c,n)).1)=M at hM ⊢;generalize iAdd .i64 1 (Ao (c,56)).1=C at hC ⊢;generalize iAdd .i64 1 (Du (c,n)).1=N at hN ⊢;generalize M5 (c,n)=s7 at i2 i4 ⊢;generalize I7 (c,n)=s6 at g2 g4 ⊢;generalize M1 (c,n)=s5 at f2 f4 ⊢;generalize AJ (c,n)=s4 at e2 e4 ⊢
 have hL:1<n→Mw (lGet [(3,0,0,N),(4,0,0,N),(7,C,0,N)] (iNat s6.1) (0,0,0,0))∧(lGet [(3,0,0,N),(4,0,0,N),(7,C,0,N)] (iNat s6.1) (0,0,0,0):Int×Int×Int×Int).2.2.2<n:=by
  intro hn;have:=mn hn;rw[A5,Ar]
  have:s6.1=0∨s6.1=1∨s6.1=2:=by omega
  rcases this with e|e|e
  · rw[e];exact⟨⟨(F2 3 0 0 N).2 (by omega),by simp⟩,by show N<n;omega⟩
  · rw[e];exact⟨⟨(F2 4 0 0 N).2 (by omega),by simp⟩,by show N<n;omega⟩
  · rw[e];exact⟨⟨(F2 7 C 0 N).2 (by omega),by simp⟩,by show N<n;omega⟩
 generalize lGet [(3,0,0,N),(4,0,0,N),(7,C,0,N)] (iNat s6.1) (0,0,0,0)=L at hL ⊢
 have g:∀ (b:Bool) (p q:(Int×Int×Int×Int)×Int×Int),(Ca (c.1,p.2)∧Mw p.1∧(p.1.1≠9→p.1.2.2.2<n))→(b=false→Ca (c.1,q.2)∧Mw q.1∧(q.1.1≠9→q.1.2.2.2<n))→Ca (c.1,(bSel b p q).2)∧Mw (bSel b p q).1∧((bSel b p q).1.1≠9→(bSel b p q).1.2.2.2<n):=fun b p q hp hq=>by
  rw[AQ];cases b
  · exact hq rfl
  · exact hp
 have hA:∀ (k c m z:Int),CV (k,c,m,z)=true→k≠1→(k≠9→z<n)→Mw (k,c,m,z)∧(k≠9→z<n):=fun k c m z h1 h2 h3=>⟨⟨h1,h2⟩,h3⟩
 refine g _ _ _ ⟨?_,hA _ _ _ _ ((F2 _ _ _ _).2 (by omega)) (by omega) (by omega)⟩ fun q0=>g _ _ _ ⟨e2,hA _ _ _ _ ((F2 _ _ _ _).2 (by omega)) (by omega) (by omega)⟩ fun q1=>g _ _ _ ⟨e2,hA _ _ _ _ ((F2 _ _ _ _).2 (by omega)) (by omega) (by omega)⟩ fun q2=>g _ _ _ ⟨e2,hA _ _ _ _ ((F2 _ _ _ _).2 (by omega)) (by omega) (by omega)⟩ fun q3=>g _ _ _ ⟨e2,hA _ _ _ _ ((F2 _ _ _ _).2 (by omega)) (by omega) (by omega)⟩ fun q4=>g _ _ _ ⟨f2,hA _ _ _ _ ((F2 _ _ _ _).2 (by omega)) (by omega) (fun h=>absurd rfl h)⟩ fun q5=>g _ _ _ ⟨e2,hA _ _ _ _ ((F2 _ _ _ _).2 (by omega)) (by omega) (by omega)⟩ fun q6=>g _ _ _ ⟨i2,hA _ _ _ _ ((F2 _ _ _ _).2 (by omega)) (by omega) (by omega)⟩ fun q7=>?_
 · simp only[AQ,ite_self];exact e2
 · have hn:1<n:=by
    simp only[Ay,AD,q1,q2,q3,q4,q5,q6,q7,Bool.not_false,Ml,Bp,Dc,CD,Fw,AA] at q0;exact q0.2
   exact⟨g2,(hL hn).1,fun _=>(hL hn).2⟩
theorem Nz{c:Int→Bool}{f:Int→Int}{n:Nat}(hn:n≤1048576)(h1:∀ i:Nat,i<n→c i=true)(h2:c n=false)(h3:∀ i:Int,f i=iAdd .i64 i 1):Am c f 0=(n:Int):=
 (Dn (p:=fun _=>True) n (fun i=>(i:Int)) rfl (fun i hi=>⟨trivial,h1 i hi,by rw[h3,Be (by unfold Ax;omega)];omega⟩) ⟨trivial,h2⟩).2
theorem LR{k:Int}{x:List (List (Int×Int×Int×Int))}(h:MapOk k x):BL (k,x)=true:=by
 obtain⟨k1,k2,l1,l2,row,act⟩:=h;rw[R7];rw[Nz (n:=x.length) (by omega) ?_ ?_ fun _=>rfl]
 · simp only[Ay,AD,Bp,Ap,Dc,Aq];simp;omega
 · intro i hi
   have e:lGet x (iNat (i:Int)) []=x.getD i []:=by rw[A5,Ar,Ba]
   have hr:=row i hi;rw[Nz (n:=(x.getD i []).length) (by omega) ?_ ?_ fun _=>rfl]
   · simp only[e,Ay,AD,Ap,CX,Aq,hr];simp;omega
   · intro j hj;have hact:=act i j hi hj
     have e2:lGet (x.getD i []) (iNat (j:Int)) (0,0,0,0)=(x.getD i []).getD j (0,0,0,0):=by rw[A5,Ar,Ba]
     simp only[e,e2,Ay,AD,Bp,AQ,Ap,Cy,CX,Cq,Aq];generalize (x.getD i []).getD j (0,0,0,0)=a at hact ⊢;obtain⟨a1,a2,a3⟩:=hact;rw[a1]
     have hj':(j:Int)<((x.getD i []).length:Int):=by omega
     simp only[hj',decide_true,Ml,E6,Bool.false_or]
     have h10:(!decide (a.1=9)&&decide ((x.length:Int)≤a.2.2.2))=false:=by
      by_cases h9:a.1=9
      · rw[B5 h9];rfl
      · have:=a3 h9;rw[B9 (by omega:¬ (x.length:Int)≤a.2.2.2),Bool.and_false]
     by_cases hz:i=0
     · have:=a2 hz;rw[h10,B9 this];simp
     · rw[h10];simp[hz]
   · simp only[e,Ay,Ap,Aq];simp
 · simp only[Ay,Ap,Aq];simp
def Zc(n:Int)(i:Int)(a:Int×Int×Int×Int):Prop:=CV a=true∧(i=0→a.1≠1)∧(a.1≠9→a.2.2.2<n)
def UU(k n:Int)(i:Int)(r:List (Int×Int×Int×Int)):Prop:=(r.length:Int)=k∧∀ a∈r,Zc n i a
def JH(k n:Int)(x:List (List (Int×Int×Int×Int))):Prop:=∀ i:Nat,i<x.length→UU k n i (x.getD i [])
theorem Xf{k:Int}{x:List (List (Int×Int×Int×Int))}(k1:1≤k)(k2:k≤32)(l1:1≤x.length)(l2:x.length≤4)(h:JH k x.length x):MapOk k x:=
 ⟨k1,k2,l1,l2,fun i hi=>(h i hi).1,fun i j hi hj=>by
  obtain⟨a,b,c⟩:=(h i hi).2 _ (Fq _ j (0,0,0,0) hj)
  exact⟨a,fun e=>b (by omega),c⟩⟩
theorem qH{k n:Int}{x:List (List (Int×Int×Int×Int))}{r:List (Int×Int×Int×Int)}(h:JH k n x)(hr:UU k n x.length r):JH k n (x++[r]):=by
 intro i hi;simp only[CA,AG,AK] at hi;by_cases hl:i<x.length
 · rw[BN,Bx hl,← BN];exact h i hl
 · have:i=x.length:=by omega
   subst this;rw[BN,CY (AO _)];simpa using hr
theorem si(c:List Int×Int×Int)(k:Int)(x0:Int×List (List (Int×Int×Int×Int))×Int×Int)(h:Ca (c.1,x0.2.2))(k0:0≤k)(k2:k≤32)(hn:1≤iAdd .i64 1 (Ao (c,4)).1∧iAdd .i64 1 (Ao (c,4)).1≤4) :
 LoopOk (G6 (c,k)) (HR (c,k) x0) (RW (c,k) x0) ([],0,x0.2.2) ∧
 UU k (iAdd .i64 1 (Ao (c,4)).1) x0.1 (Am (G6 (c,k)) (HR (c,k) x0) ([],0,x0.2.2)).1 ∧
 Ca (c.1,(Am (G6 (c,k)) (HR (c,k) x0) ([],0,x0.2.2)).2.2):=by
 have key:=Jr (c:=G6 (c,k)) (f:=HR (c,k) x0) (p:=RW (c,k) x0)
  (fun st=>Ca (c.1,st.2.2)∧0≤st.2.1∧st.2.1≤k∧UU st.2.1 (iAdd .i64 1 (Ao (c,4)).1) x0.1 st.1) (fun st=>(k-st.2.1).toNat) (fun st hI=>by
  obtain⟨r,j,cu⟩:=st
  obtain⟨i0,i1,i2,i3,i4⟩:=hI
  simp only at i0 i1 i2 i3 i4
  have s1:iAdd .i64 j 1=j+1:=Be (by unfold Ax;omega)
  unfold RW HR G6
  simp only[s1,Dq,Ap,Dc,Ay,AA]
  generalize iAdd .i64 1 (Ao (c,4)).1=n at hn i4 ⊢
  obtain⟨d1,d2,d3,d4⟩:=gp (c.1,cu) n i0 hn.1 hn.2
  generalize BM ((c.1,cu),n)=D at d2 d3 d4 ⊢
  obtain⟨o1,o2⟩:=gU (c.1,D.2) 3 d2
  simp only at o2
  generalize C7 ((c.1,D.2),3)=O at o2 ⊢
  refine⟨⟨fun hc=>⟨d1,⟨fun _=>o1,fun _=>trivial⟩,?_⟩,fun _=>trivial⟩,fun hc=>⟨⟨?_,by omega,by omega,by simp only[CA,AG,AK];omega,?_⟩,by omega⟩⟩
  · unfold AE;simp only[AG,AK];omega
  · simp only[AQ]
    by_cases hx:0<x0.1
    · simp only[hx,decide_true,AN,Ml,ite_self];exact o2
    · simp only[hx,decide_false,Ot,AL,AX];exact d2
  · intro a ha
    rw[Ci,List.mem_singleton] at ha;rcases ha with ha|rfl
    · exact i4 a ha
    · simp only[AQ];split
      · rename_i hb;rw[Ah,AA] at hb;exact⟨(F2 1 0 0 0).2 (by omega),fun h=>by omega,fun _=>by simp only;omega⟩
      · exact⟨d3.1,fun _=>d3.2,d4⟩) (x0:=([],0,x0.2.2)) ⟨h,by simp,k0,by simp,by simp⟩
 obtain⟨q1,⟨q2,q3,q4,q5⟩,q6⟩:=key
 refine⟨q1,?_,q2⟩
 generalize Am (G6 (c,k)) (HR (c,k) x0) ([],0,x0.2.2)=st at *
 unfold G6 at q6
 simp only[Ap,Br] at q6
 have:st.2.1=k:=by omega
 rw[this] at q5
 exact q5
theorem s8(c:List Int×Int×Int)(k:Int)(h:Ca c)(k0:1≤k)(k2:k≤32) :
 Nb (c,k)∧Ca (c.1,(C8 (c,k)).2)∧MapOk k (C8 (c,k)).1.2∧(C8 (c,k)).1.1=k:=by
 rw[nC,m9]
 obtain⟨b1,b2,_,b4⟩:=E1 c 4 h
 have b4:=b4 (by omega)
 have hn:1≤iAdd .i64 1 (Ao (c,4)).1∧iAdd .i64 1 (Ao (c,4)).1≤4:=by rw[Be (by unfold Ax;omega)];omega
 have key:=Jr (c:=Lm (c,k)) (f:=MW (c,k)) (p:=VA (c,k))
  (fun st=>Ca (c.1,st.2.2)∧0≤st.1∧st.1≤iAdd .i64 1 (Ao (c,4)).1∧(st.2.1.length:Int)=st.1∧JH k (iAdd .i64 1 (Ao (c,4)).1) st.2.1) (fun st=>(iAdd .i64 1 (Ao (c,4)).1-st.1).toNat) (fun st hI=>by
  obtain⟨i,x,cu⟩:=st
  obtain⟨i0,i1,i2,i3,i4⟩:=hI
  simp only at i0 i1 i2 i3 i4
  have s1:iAdd .i64 i 1=i+1:=Be (by unfold Ax;omega)
  obtain⟨r1,r2,r3⟩:=si c k (i,x,cu) i0 (by omega) k2 hn
  unfold VA MW Lm
  simp only[s1,Dq,Ap,AA] at r1 r2 r3 ⊢
  refine⟨⟨fun hc=>⟨r1,?_⟩,fun _=>trivial⟩,fun hc=>⟨⟨r3,by omega,by omega,by simp only[CA,AG,AK];omega,qH i4 (by rw[i3];exact r2)⟩,by omega⟩⟩
  unfold AE;simp only[AG,AK];omega) (x0:=(0,[],(Ao (c,4)).2)) ⟨b2,by simp,by simp only;omega,by simp,fun i hi=>by simp at hi⟩
 obtain⟨q1,⟨q2,q3,q4,q5,q6⟩,q7⟩:=key
 generalize Am (Lm (c,k)) (MW (c,k)) (0,[],(Ao (c,4)).2)=st at *
 unfold Lm at q7
 simp only[Ap,Br] at q7
 have e:st.1=iAdd .i64 1 (Ao (c,4)).1:=by omega
 have l1:1≤st.2.1.length:=by omega
 have l2:st.2.1.length≤4:=by omega
 refine⟨⟨b1,q1⟩,q2,Xf k0 k2 l1 l2 ?_,rfl⟩
 show JH k (st.2.1.length:Int) st.2.1
 rw[q5,e];exact q6
theorem fw{k n:Int}{x:List (List (Int×Int×Int×Int))}{i j:Nat}{a:Int×Int×Int×Int}(h:JH k n x)(hi:i<x.length)(ha:Zc n i a):JH k n (x.set i ((x.getD i []).set j a)):=by
 intro p hp;rw[List.length_set] at hp;rw[BN,Ev];by_cases hpi:i=p
 · subst hpi;simp only[AN,hi,Dy];obtain⟨r1,r2⟩:=h i hi;refine⟨by rw[List.length_set];exact r1,fun b hb=>?_⟩;rcases List.mem_or_eq_of_mem_set hb with hb|rfl
   · exact r2 b hb
   · exact ha
 · simp only[Ad hpi];rw[← BN];exact h p hp
theorem T6{k:Int}{x:List (List (Int×Int×Int×Int))}(h:MapOk k x):JH k x.length x:=by
 intro i hi;refine⟨h.row i hi,fun a ha=>?_⟩;obtain⟨j,hj,rfl⟩:=List.mem_iff_getElem.1 ha;have:=h.act i j hi hj;rw[BN (l:=x.getD i []),AF hj,Dy] at this;exact⟨this.1,fun e=>this.2.1 (by omega),this.2.2⟩
theorem rI(c:List Int×Int×Int)(k:Int)(h:Ca c)(k0:1≤k)(k2:k≤32) :
 M6 (c,k)∧MapOk k (Lx (c,k)).1.2∧(Lx (c,k)).1.1=k:=by
 rw[mI,mD]
 obtain⟨d1,d2,d3,d4⟩:=s8 c k h k0 k2
 obtain⟨b1,b2,_,b4'⟩:=E1 (c.1,(C8 (c,k)).2) 6 d2
 have b4:=b4' (by omega)
 clear b4'
 simp only at b1 b2 b4 ⊢
 generalize Ao ((c.1,(C8 (c,k)).2),6)=B at b2 b4 ⊢
 generalize C8 (c,k)=M at *
 have key:=Jr (c:=MU) (f:=MV (c,k)) (p:=Vs (c,k))
  (fun st=>Ca (c.1,st.2.2)∧0≤st.1∧st.1≤6∧st.2.1.length=M.1.2.length∧JH k M.1.2.length st.2.1) (fun st=>st.1.toNat) (fun st hI=>by
  obtain⟨i,x,cu⟩:=st
  obtain⟨i0,i1,i2,i3,i4⟩:=hI
  simp only at i0 i1 i2 i3 i4
  have hl1:=d3.l1
  have hl2:=d3.l2
  unfold Vs MV MU
  simp only
  have eL:lLen x=(x.length:Int):=Aq x
  simp only[eL]
  obtain⟨p1,p2,_,p4'⟩:=E1 (c.1,cu) (x.length:Int) i0
  have p4:=p4' (by omega)
  clear p4'
  generalize Ao ((c.1,cu),(x.length:Int))=P at p2 p4 ⊢
  obtain⟨q1,q2,_,q4'⟩:=E1 (c.1,P.2) k p2
  have q4:=q4' (by omega)
  clear q4'
  simp only at q1 q2
  generalize Ao ((c.1,P.2),k)=Q at q2 q4 ⊢
  obtain⟨r1,r2,r3⟩:=tV (c.1,Q.2) [4,5,3] (by simp) q2
  simp only at r1 r2
  generalize Gz ((c.1,Q.2),[4,5,3])=R at r2 r3 ⊢
  have eS:iSub .i64 (x.length:Int) 1=(x.length:Int)-1:=by rw[H8 (by unfold Ax;omega)]
  obtain⟨t1,t2,_,t4⟩:=E1 (c.1,R.2) ((x.length:Int)-1) r2
  simp only at t1 t2
  simp only[eS]
  generalize Ao ((c.1,R.2),(x.length:Int)-1)=T at t2 t4 ⊢
  have hP:P.1.toNat<x.length:=by omega
  have hrow:=i4 P.1.toNat hP
  have eG:lGet x (iNat P.1) []=x.getD P.1.toNat []:=by rw[A5,Ar]
  have hrl:((x.getD P.1.toNat []).length:Int)=k:=hrow.1
  rw[Ar] at eG
  simp only[Dc,Ar,eG,AA,Br]
  refine⟨⟨fun hc=>⟨p1,q1,fun hg=>⟨⟨p4.1,p4.2⟩,⟨hP,hP⟩,r1,t1,⟨q4.1,by omega⟩,hP,by omega⟩,fun _=>trivial⟩,fun _=>trivial⟩,fun hc=>⟨⟨?_,?_,?_,?_,?_⟩,?_⟩⟩
  · simp only[AQ]
    split
    · exact t2
    · exact q2
  · rw[H8 (by unfold Ax;omega)];omega
  · rw[H8 (by unfold Ax;omega)];omega
  · simp only[AQ,Jy]
    split
    · rw[List.length_set];exact i3
    · exact i3
  · simp only[AQ,Jy]
    split
    · rename_i hg;rw[AA] at hg;have t4:=t4 (by omega);refine fw i4 hP ⟨?_,fun _=>?_,fun _=>?_⟩
      · have hN:iAdd .i64 1 T.1=1+T.1:=Be (by unfold Ax;omega);rw[hN];simp only[BG,List.not_mem_nil,or_false] at r3;refine(F2 _ _ _ _).2 ?_;omega
      · simp only[BG,List.not_mem_nil,or_false] at r3;simp only;omega
      · have hN:iAdd .i64 1 T.1=1+T.1:=Be (by unfold Ax;omega);simp only[hN];omega
    · exact i4
  · rw[H8 (by unfold Ax;omega)];omega) (x0:=(B.1,M.1.2,B.2)) ⟨b2,b4.1,by simp only;omega,rfl,T6 d3⟩
 obtain⟨q1,⟨q2,q3,q4,q5,q6⟩,q7⟩:=key
 generalize Am MU (MV (c,k)) (B.1,M.1.2,B.2)=st at *
 refine⟨⟨d1,b1,q1⟩,Xf k0 k2 ?_ ?_ ?_,d4⟩
 · rw[q5];exact d3.l1
 · rw[q5];exact d3.l2
 · rw[q5];exact q6
theorem WN(x:List Int)(k:Int)(h:x.length≤1048576):Ka (x,k)∧Ca (Hc (x,k)):=by
 rw[nF,nu];obtain⟨n1,n2,n3⟩:=vV x h;exact⟨n1,n2⟩
theorem n6(x:List Int)(p k:Int)(h:x.length≤1048576)(k0:1≤k)(k2:k≤32):RF (x,p,k)∧MapOk k (Af (x,p,k)).2∧(Af (x,p,k)).1=k:=by
 rw[kx,kA];obtain⟨a1,a2⟩:=WN x p h;obtain⟨b1,b2,b3⟩:=rI _ k a2 k0 k2;exact⟨⟨a1,b1⟩,b2,b3⟩
theorem bl(x:List Int)(p n:Int)(h:x.length≤1048576)(hn:0<n):O0 (x,p,n)∧0≤Av (x,p,n)∧Av (x,p,n)<n:=by
 rw[k9,kL];obtain⟨a1,a2⟩:=WN x p h;obtain⟨b1,b2,_,b4⟩:=E1 _ n a2;exact⟨⟨a1,b1⟩,b4 hn⟩
theorem Uw{k:Int}{x:List (List (Int×Int×Int×Int))}(h:MapOk k x):EZ (k,x):=by
 have:=h.k2;have:=h.l2;refine⟨⟨by show x.length≤1048576;omega,fun r hr=>?_⟩,trivial⟩;obtain⟨i,hi,rfl⟩:=List.mem_iff_getElem.1 hr;have:=h.row i hi;rw[BN,AF hi,Dy] at this;exact⟨by omega,fun a _=>by simp[Tn]⟩
def GQ(r:List (Int×Int×Int×Int)):List Int:=r.flatMap Gx
def Ex(k:Int)(x:List (List (Int×Int×Int×Int))):List Int:=[k,(x.length:Int)]++x.flatMap GQ
theorem ny{k:Int}{x:List (List (Int×Int×Int×Int))}(hm:MapOk k x):OX (k,x)∧Fk (k,x)=Ex k x:=by
 refine⟨(nH k x (Uw hm)).2.1,?_⟩;have k1:=hm.k1;have k2:=hm.k2;have l1:=hm.l1;have l2:=hm.l2;rw[ZS,LR hm,AQ,Ad (by rw[AD];simp)];have e0:iConv .u8 k=k:=L0 (by omega) (by omega)
 have e1:iConv .u8 (lLen x)=(x.length:Int):=by rw[Aq,L0 (by omega) (by omega)]
 simp only[e0,e1]
 have out:=(Dn (c:=MM (k,x)) (f:=MN (k,x)) (p:=fun _=>True) x.length (fun i=>([k,(x.length:Int)]++(x.take i).flatMap GQ,(i:Int))) (x0:=([k,(x.length:Int)],0)) (by simp) (fun i hi=>by
  have s1:iAdd .i64 (i:Int) 1=((i+1:Nat):Int):=by rw[Be (by unfold Ax;omega)];omega
  refine⟨trivial,?_,?_⟩
  · unfold MM;rw[Ap,Aq,B5 (by simp only;omega)]
  · unfold MN;simp only[s1];have hr:=hm.row i hi
    have eg:lGet x (iNat (i:Int)) []=x.getD i []:=by rw[A5,Ar,Ba]
    generalize ho:[k,(x.length:Int)]++(x.take i).flatMap GQ=o
    have inn:=(Dn (c:=IL (k,x) (o,(i:Int))) (f:=JY (k,x) (o,(i:Int))) (p:=fun _=>True) (x.getD i []).length (fun j=>(o++GQ ((x.getD i []).take j),(j:Int))) (x0:=(o,0)) (by simp[GQ]) (fun j hj=>by
     have s2:iAdd .i64 (j:Int) 1=((j+1:Nat):Int):=by rw[Be (by unfold Ax;omega)];omega
     refine⟨trivial,?_,?_⟩
     · unfold IL;simp only[eg];rw[Ap,Aq,B5 (by omega)]
     · unfold JY;simp only[eg,s2,Dq];rw[A5,Ar,Ba];rw[← Jo _ (0,0,0,0) hj]
       simp only[GQ,List.flatMap_append,List.flatMap_cons,List.flatMap_nil,Ir,BH]) ⟨trivial,by
     unfold IL;simp only[eg]
     rw[Ap,Aq];simp⟩).2
    rw[inn];simp only[Hu];rw[← ho,← Jo x [] hi]
    simp only[List.flatMap_append,List.flatMap_cons,List.flatMap_nil,Ir,BH]) ⟨trivial,by
  unfold MM
  rw[Ap,Aq];simp⟩).2
 rw[out];simp[Ex]
section
set_option maxRecDepth 100000
def EJ(x:List UInt8)(x0:(Int×Int)):Bool:=(bAnd (iLt x0.2 (lLen (bSel (bAnd (iGt (lLen x) 0) (iEq (sGet x 0) 45)) (lSub x (iNat 1) (lN x)) x))) (bNot (bOr (iLt (sGet (bSel (bAnd (iGt (lLen x) 0) (iEq (sGet x 0) 45)) (lSub x (iNat 1) (lN x)) x) x0.2) 48) (iGt (sGet (bSel (bAnd (iGt (lLen x) 0) (iEq (sGet x 0) 45)) (lSub x (iNat 1) (lN x)) x) x0.2) 57))))
def Fi(x:List UInt8)(x0:(Int×Int)):(Int×Int):=((iSub .i64 (iAdd .i64 (iMul .i64 10 x0.1) (iConv .i64 (sGet (bSel (bAnd (iGt (lLen x) 0) (iEq (sGet x 0) 45)) (lSub x (iNat 1) (lN x)) x) x0.2))) 48),(iAdd .i64 x0.2 1))
def RO(x:List UInt8)(x0:(Int×Int)):Prop:=(((iLt x0.2 (lLen (bSel (bAnd (iGt (lLen x) 0) (iEq (sGet x 0) 45)) (lSub x (iNat 1) (lN x)) x)))=true→(((((0:Int)≤x0.2)∧(x0.2<(((List.length (bSel (bAnd (iGt (lLen x) 0) (iEq (sGet x 0) 45)) (lSub x (iNat 1) (lN x)) x)):Int))))∧(((iLt (sGet (bSel (bAnd (iGt (lLen x) 0) (iEq (sGet x 0) 45)) (lSub x (iNat 1) (lN x)) x) x0.2) 48)=true→True)∧((iLt (sGet (bSel (bAnd (iGt (lLen x) 0) (iEq (sGet x 0) 45)) (lSub x (iNat 1) (lN x)) x) x0.2) 48)=false→(((0:Int)≤x0.2)∧(x0.2<(((List.length (bSel (bAnd (iGt (lLen x) 0) (iEq (sGet x 0) 45)) (lSub x (iNat 1) (lN x)) x)):Int)))))))∧(((bOr (iLt (sGet (bSel (bAnd (iGt (lLen x) 0) (iEq (sGet x 0) 45)) (lSub x (iNat 1) (lN x)) x) x0.2) 48) (iGt (sGet (bSel (bAnd (iGt (lLen x) 0) (iEq (sGet x 0) 45)) (lSub x (iNat 1) (lN x)) x) x0.2) 57))=true→True)∧((bOr (iLt (sGet (bSel (bAnd (iGt (lLen x) 0) (iEq (sGet x 0) 45)) (lSub x (iNat 1) (lN x)) x) x0.2) 48) (iGt (sGet (bSel (bAnd (iGt (lLen x) 0) (iEq (sGet x 0) 45)) (lSub x (iNat 1) (lN x)) x) x0.2) 57))=false→(((0:Int)≤x0.2)∧(x0.2<(((List.length (bSel (bAnd (iGt (lLen x) 0) (iEq (sGet x 0) 45)) (lSub x (iNat 1) (lN x)) x)):Int))))))))∧((iLt x0.2 (lLen (bSel (bAnd (iGt (lLen x) 0) (iEq (sGet x 0) 45)) (lSub x (iNat 1) (lN x)) x)))=false→True))
@[irreducible] def BW(x:List UInt8):Int×Bool:=(bSel (bOr (iLt (lLen (bSel (bAnd (iGt (lLen x) 0) (iEq (sGet x 0) 45)) (lSub x (iNat 1) (lN x)) x)) 1) (iGt (lLen (bSel (bAnd (iGt (lLen x) 0) (iEq (sGet x 0) 45)) (lSub x (iNat 1) (lN x)) x)) 9)) (0,false) (bSel (iLt (Am (EJ x) (Fi x) (0,0)).2 (lLen (bSel (bAnd (iGt (lLen x) 0) (iEq (sGet x 0) 45)) (lSub x (iNat 1) (lN x)) x))) (0,false) (bSel (sNe (Dh (bSel (iLt (lLen (bSel (bAnd (iGt (lLen x) 0) (iEq (sGet x 0) 45)) (lSub x (iNat 1) (lN x)) x)) (lLen x)) (iNeg .i64 (Am (EJ x) (Fi x) (0,0)).1) (Am (EJ x) (Fi x) (0,0)).1)) x) (0,false) ((bSel (iLt (lLen (bSel (bAnd (iGt (lLen x) 0) (iEq (sGet x 0) 45)) (lSub x (iNat 1) (lN x)) x)) (lLen x)) (iNeg .i64 (Am (EJ x) (Fi x) (0,0)).1) (Am (EJ x) (Fi x) (0,0)).1),true))))
@[irreducible] def M4(x:List UInt8):Prop:=(((((iGt (lLen x) 0)=true→(((0:Int)≤0)∧((0:Int)<(((List.length x):Int)))))∧((iGt (lLen x) 0)=false→True))∧(((bAnd (iGt (lLen x) 0) (iEq (sGet x 0) 45))=true→(((0:Int)≤1)∧(((iNat 1)≤(lN x))∧((lN x)≤(List.length x)))))∧((bAnd (iGt (lLen x) 0) (iEq (sGet x 0) 45))=false→True)))∧(((bOr (iLt (lLen (bSel (bAnd (iGt (lLen x) 0) (iEq (sGet x 0) 45)) (lSub x (iNat 1) (lN x)) x)) 1) (iGt (lLen (bSel (bAnd (iGt (lLen x) 0) (iEq (sGet x 0) 45)) (lSub x (iNat 1) (lN x)) x)) 9))=true→True)∧((bOr (iLt (lLen (bSel (bAnd (iGt (lLen x) 0) (iEq (sGet x 0) 45)) (lSub x (iNat 1) (lN x)) x)) 1) (iGt (lLen (bSel (bAnd (iGt (lLen x) 0) (iEq (sGet x 0) 45)) (lSub x (iNat 1) (lN x)) x)) 9))=false→((LoopOk (EJ x) (Fi x) (RO x) (0,0))∧(((iLt (Am (EJ x) (Fi x) (0,0)).2 (lLen (bSel (bAnd (iGt (lLen x) 0) (iEq (sGet x 0) 45)) (lSub x (iNat 1) (lN x)) x)))=true→True)∧((iLt (Am (EJ x) (Fi x) (0,0)).2 (lLen (bSel (bAnd (iGt (lLen x) 0) (iEq (sGet x 0) 45)) (lSub x (iNat 1) (lN x)) x)))=false→(G3 (bSel (iLt (lLen (bSel (bAnd (iGt (lLen x) 0) (iEq (sGet x 0) 45)) (lSub x (iNat 1) (lN x)) x)) (lLen x)) (iNeg .i64 (Am (EJ x) (Fi x) (0,0)).1) (Am (EJ x) (Fi x) (0,0)).1))))))))
@[irreducible] def Dx(x:Int×List UInt8×List UInt8):Int×Int×Int×Int:=(bSel (sEq x.2.1 [(109:UInt8),111]) (3,0,0,(BW x.2.2).1) (bSel (sEq x.2.1 [(116:UInt8),103]) (4,0,0,(BW x.2.2).1) (bSel (sEq x.2.1 [(116:UInt8),111]) (5,0,0,(BW x.2.2).1) (bSel (sEq x.2.1 [(109:UInt8),97,99,114,111]) (9,0,0,(BW x.2.2).1) (x.1,0,(D6 x.2.2),0)))))
@[irreducible] def VS(x:Int×List UInt8×List UInt8):Prop:=((M4 x.2.2)∧(((sEq x.2.1 [(109:UInt8),111])=true→True)∧((sEq x.2.1 [(109:UInt8),111])=false→(((sEq x.2.1 [(116:UInt8),103])=true→True)∧((sEq x.2.1 [(116:UInt8),103])=false→(((sEq x.2.1 [(116:UInt8),111])=true→True)∧((sEq x.2.1 [(116:UInt8),111])=false→(((sEq x.2.1 [(109:UInt8),97,99,114,111])=true→True)∧((sEq x.2.1 [(109:UInt8),97,99,114,111])=false→(MT x.2.2))))))))))
@[irreducible] def O1(x:List UInt8):(Int×Int×Int×Int)×Bool:=(bSel (bOr (sEq x []) (sNe (A0 ((bSel (sEq x [(110:UInt8),111,110,101]) 0 (bSel (sEq x [(112:UInt8),97,115,115]) 1 (bSel (sEq x [(99:UInt8),97,112,115]) 10 (bSel (iEq (lLen (An (x,58))) 2) (Dx (8,(lGet (An (x,58)) (iNat 0) []),(lGet (An (x,58)) (iNat 1) []))).1 (bSel (iEq (lLen (An (x,47))) 2) (bSel (BW (lGet (An (x,47)) (iNat 0) [])).2 7 6) (bSel (iEq (lLen (An (x,45))) 2) 2 2)))))),(bSel (sEq x [(110:UInt8),111,110,101]) 0 (bSel (sEq x [(112:UInt8),97,115,115]) 0 (bSel (sEq x [(99:UInt8),97,112,115]) 0 (bSel (iEq (lLen (An (x,58))) 2) (Dx (8,(lGet (An (x,58)) (iNat 0) []),(lGet (An (x,58)) (iNat 1) []))).2.1 (bSel (iEq (lLen (An (x,47))) 2) (bSel (BW (lGet (An (x,47)) (iNat 0) [])).2 (Ct (lGet (An (x,47)) (iNat 1) [])) (Ct (lGet (An (x,47)) (iNat 1) []))) (bSel (iEq (lLen (An (x,45))) 2) (Ct (lGet (An (x,45)) (iNat 1) [])) (Ct x))))))),(bSel (sEq x [(110:UInt8),111,110,101]) 0 (bSel (sEq x [(112:UInt8),97,115,115]) 0 (bSel (sEq x [(99:UInt8),97,112,115]) 0 (bSel (iEq (lLen (An (x,58))) 2) (Dx (8,(lGet (An (x,58)) (iNat 0) []),(lGet (An (x,58)) (iNat 1) []))).2.2.1 (bSel (iEq (lLen (An (x,47))) 2) (bSel (BW (lGet (An (x,47)) (iNat 0) [])).2 0 (D6 (lGet (An (x,47)) (iNat 0) []))) (bSel (iEq (lLen (An (x,45))) 2) (D6 (lGet (An (x,45)) (iNat 0) [])) 0)))))),(bSel (sEq x [(110:UInt8),111,110,101]) 0 (bSel (sEq x [(112:UInt8),97,115,115]) 0 (bSel (sEq x [(99:UInt8),97,112,115]) 0 (bSel (iEq (lLen (An (x,58))) 2) (Dx (8,(lGet (An (x,58)) (iNat 0) []),(lGet (An (x,58)) (iNat 1) []))).2.2.2 (bSel (iEq (lLen (An (x,47))) 2) (bSel (BW (lGet (An (x,47)) (iNat 0) [])).2 (BW (lGet (An (x,47)) (iNat 0) [])).1 0) (bSel (iEq (lLen (An (x,45))) 2) 0 0)))))))) x)) ((0,0,0,0),false) (((bSel (sEq x [(110:UInt8),111,110,101]) 0 (bSel (sEq x [(112:UInt8),97,115,115]) 1 (bSel (sEq x [(99:UInt8),97,112,115]) 10 (bSel (iEq (lLen (An (x,58))) 2) (Dx (8,(lGet (An (x,58)) (iNat 0) []),(lGet (An (x,58)) (iNat 1) []))).1 (bSel (iEq (lLen (An (x,47))) 2) (bSel (BW (lGet (An (x,47)) (iNat 0) [])).2 7 6) (bSel (iEq (lLen (An (x,45))) 2) 2 2)))))),(bSel (sEq x [(110:UInt8),111,110,101]) 0 (bSel (sEq x [(112:UInt8),97,115,115]) 0 (bSel (sEq x [(99:UInt8),97,112,115]) 0 (bSel (iEq (lLen (An (x,58))) 2) (Dx (8,(lGet (An (x,58)) (iNat 0) []),(lGet (An (x,58)) (iNat 1) []))).2.1 (bSel (iEq (lLen (An (x,47))) 2) (bSel (BW (lGet (An (x,47)) (iNat 0) [])).2 (Ct (lGet (An (x,47)) (iNat 1) [])) (Ct (lGet (An (x,47)) (iNat 1) []))) (bSel (iEq (lLen (An (x,45))) 2) (Ct (lGet (An (x,45)) (iNat 1) [])) (Ct x))))))),(bSel (sEq x [(110:UInt8),111,110,101]) 0 (bSel (sEq x [(112:UInt8),97,115,115]) 0 (bSel (sEq x [(99:UInt8),97,112,115]) 0 (bSel (iEq (lLen (An (x,58))) 2) (Dx (8,(lGet (An (x,58)) (iNat 0) []),(lGet (An (x,58)) (iNat 1) []))).2.2.1 (bSel (iEq (lLen (An (x,47))) 2) (bSel (BW (lGet (An (x,47)) (iNat 0) [])).2 0 (D6 (lGet (An (x,47)) (iNat 0) []))) (bSel (iEq (lLen (An (x,45))) 2) (D6 (lGet (An (x,45)) (iNat 0) [])) 0)))))),(bSel (sEq x [(110:UInt8),111,110,101]) 0 (bSel (sEq x [(112:UInt8),97,115,115]) 0 (bSel (sEq x [(99:UInt8),97,112,115]) 0 (bSel (iEq (lLen (An (x,58))) 2) (Dx (8,(lGet (An (x,58)) (iNat 0) []),(lGet (An (x,58)) (iNat 1) []))).2.2.2 (bSel (iEq (lLen (An (x,47))) 2) (bSel (BW (lGet (An (x,47)) (iNat 0) [])).2 (BW (lGet (An (x,47)) (iNat 0) [])).1 0) (bSel (iEq (lLen (An (x,45))) 2) 0 0))))))),true))
@[irreducible] def Vm(x:List UInt8):Prop:=((Lw x)∧((Lk (x,58))∧((Lk (x,47))∧((Lk (x,45))∧((((sEq x [(110:UInt8),111,110,101])=true→True)∧((sEq x [(110:UInt8),111,110,101])=false→(((sEq x [(112:UInt8),97,115,115])=true→True)∧((sEq x [(112:UInt8),97,115,115])=false→(((sEq x [(99:UInt8),97,112,115])=true→True)∧((sEq x [(99:UInt8),97,112,115])=false→(((iEq (lLen (An (x,58))) 2)=true→((((0:Int)≤0)∧((0:Int)<(((List.length (An (x,58))):Int))))∧(((iNat 0)<(List.length (An (x,58))))∧((((0:Int)≤1)∧((1:Int)<(((List.length (An (x,58))):Int))))∧(((iNat 1)<(List.length (An (x,58))))∧(VS (8,(lGet (An (x,58)) (iNat 0) []),(lGet (An (x,58)) (iNat 1) []))))))))∧((iEq (lLen (An (x,58))) 2)=false→(((iEq (lLen (An (x,47))) 2)=true→((((0:Int)≤0)∧((0:Int)<(((List.length (An (x,47))):Int))))∧(((iNat 0)<(List.length (An (x,47))))∧((M4 (lGet (An (x,47)) (iNat 0) []))∧((((0:Int)≤1)∧((1:Int)<(((List.length (An (x,47))):Int))))∧(((iNat 1)<(List.length (An (x,47))))∧((((0:Int)≤0)∧((0:Int)<(((List.length (An (x,47))):Int))))∧(((iNat 0)<(List.length (An (x,47))))∧((Lw (lGet (An (x,47)) (iNat 1) []))∧((MT (lGet (An (x,47)) (iNat 0) []))∧(((BW (lGet (An (x,47)) (iNat 0) [])).2=true→((((0:Int)≤1)∧((1:Int)<(((List.length (An (x,47))):Int))))∧(((iNat 1)<(List.length (An (x,47))))∧(Lw (lGet (An (x,47)) (iNat 1) [])))))∧((BW (lGet (An (x,47)) (iNat 0) [])).2=false→True))))))))))))∧((iEq (lLen (An (x,47))) 2)=false→(((iEq (lLen (An (x,45))) 2)=true→((((0:Int)≤1)∧((1:Int)<(((List.length (An (x,45))):Int))))∧(((iNat 1)<(List.length (An (x,45))))∧((((0:Int)≤0)∧((0:Int)<(((List.length (An (x,45))):Int))))∧(((iNat 0)<(List.length (An (x,45))))∧((Lw (lGet (An (x,45)) (iNat 1) []))∧(MT (lGet (An (x,45)) (iNat 0) []))))))))∧((iEq (lLen (An (x,45))) 2)=false→True))))))))))))∧(((sEq x [])=true→True)∧((sEq x [])=false→(OT ((bSel (sEq x [(110:UInt8),111,110,101]) 0 (bSel (sEq x [(112:UInt8),97,115,115]) 1 (bSel (sEq x [(99:UInt8),97,112,115]) 10 (bSel (iEq (lLen (An (x,58))) 2) (Dx (8,(lGet (An (x,58)) (iNat 0) []),(lGet (An (x,58)) (iNat 1) []))).1 (bSel (iEq (lLen (An (x,47))) 2) (bSel (BW (lGet (An (x,47)) (iNat 0) [])).2 7 6) (bSel (iEq (lLen (An (x,45))) 2) 2 2)))))),(bSel (sEq x [(110:UInt8),111,110,101]) 0 (bSel (sEq x [(112:UInt8),97,115,115]) 0 (bSel (sEq x [(99:UInt8),97,112,115]) 0 (bSel (iEq (lLen (An (x,58))) 2) (Dx (8,(lGet (An (x,58)) (iNat 0) []),(lGet (An (x,58)) (iNat 1) []))).2.1 (bSel (iEq (lLen (An (x,47))) 2) (bSel (BW (lGet (An (x,47)) (iNat 0) [])).2 (Ct (lGet (An (x,47)) (iNat 1) [])) (Ct (lGet (An (x,47)) (iNat 1) []))) (bSel (iEq (lLen (An (x,45))) 2) (Ct (lGet (An (x,45)) (iNat 1) [])) (Ct x))))))),(bSel (sEq x [(110:UInt8),111,110,101]) 0 (bSel (sEq x [(112:UInt8),97,115,115]) 0 (bSel (sEq x [(99:UInt8),97,112,115]) 0 (bSel (iEq (lLen (An (x,58))) 2) (Dx (8,(lGet (An (x,58)) (iNat 0) []),(lGet (An (x,58)) (iNat 1) []))).2.2.1 (bSel (iEq (lLen (An (x,47))) 2) (bSel (BW (lGet (An (x,47)) (iNat 0) [])).2 0 (D6 (lGet (An (x,47)) (iNat 0) []))) (bSel (iEq (lLen (An (x,45))) 2) (D6 (lGet (An (x,45)) (iNat 0) [])) 0)))))),(bSel (sEq x [(110:UInt8),111,110,101]) 0 (bSel (sEq x [(112:UInt8),97,115,115]) 0 (bSel (sEq x [(99:UInt8),97,112,115]) 0 (bSel (iEq (lLen (An (x,58))) 2) (Dx (8,(lGet (An (x,58)) (iNat 0) []),(lGet (An (x,58)) (iNat 1) []))).2.2.2 (bSel (iEq (lLen (An (x,47))) 2) (bSel (BW (lGet (An (x,47)) (iNat 0) [])).2 (BW (lGet (An (x,47)) (iNat 0) [])).1 0) (bSel (iEq (lLen (An (x,45))) 2) 0 0)))))))))))))))
end
section
set_option maxRecDepth 20000
theorem o6(s:List UInt8)(c:Int)(h:s.length≤1048576):O3 (s,c)∧DN (s,c)=DW s c:=by
 rw[lQ,lS]
 have key:=Jr (c:=HP (s,c)) (f:=IQ (s,c)) (p:=Vk (s,c))
  (fun st=>∃ (out:List (List UInt8)) (F I:Nat),st=(out,(F:Int),(I:Int))∧out.length≤I∧F≤I∧I≤s.length∧(∀ b∈(s.drop F).take (I-F),(b.toNat:Int)≠c)∧DW s c=out++DW (s.drop F) c)
  (fun st=>s.length-st.2.2.toNat) (fun st hI=>?_) (x0:=([],0,0)) ⟨[],0,0,rfl,by simp,AO _,HB _,by simp,rfl⟩
 · obtain⟨k1,⟨out,F,I,e,hl,hFI,hIl,hfree,hs⟩,k2⟩:=key;rw[e] at k2 ⊢;simp only[HP,Ap,Aq,Br] at k2
   have e2:I=s.length:=by omega
   subst e2;simp only[GD,Ms,Dq,Ar,Ba,AG,AK];have e2:(s.drop F).take (s.length-F)=s.drop F:=KE (by rw[Yj];exact AO _);rw[e2] at hfree ⊢;exact⟨⟨k1,⟨by omega,hFI,AO _⟩,Jt (by omega)⟩,by rw[hs,Ns _ _ hfree]⟩
 · obtain⟨out,F,I,rfl,hl,hFI,hIl,hfree,hs⟩:=hI;simp only[HP,IQ,Vk,Ap,Cy,Aq,Ar,Ba,GD,Dq,Qa,AQ,AA,Br,AG,AK]
   have ha:iAdd .i64 (I:Int) 1=((I+1:Nat):Int):=by rw[Be (by unfold Ax;omega)];rfl
   rw[ha];refine⟨⟨fun hlt=>⟨⟨by omega,by omega⟩,fun _=>⟨⟨⟨by omega,by omega⟩,by omega,by omega⟩,Jt (by omega)⟩,fun _=>trivial⟩,fun _=>trivial⟩,fun hlt=>?_⟩
   have hlt:I<s.length:=by omega
   by_cases hc:((s.getD I 0).toNat:Int)=c
   · simp only[hc,AN];refine⟨⟨_,I+1,I+1,rfl,by simp;omega,AO _,by omega,by simp,?_⟩,by simp only[Ba];omega⟩;rw[hs]
     conv=>lhs;rw[cr hFI hlt,PL _ _ _ _ hfree hc]
     simp
   · simp only[hc,AX];refine⟨⟨_,F,I+1,rfl,by omega,by omega,by omega,fun b hb=>?_,hs⟩,by simp only[Ba];omega⟩
     have e:(s.drop F).take (I+1-F)=(s.drop F).take (I-F)++[s.getD I 0]:=by
      rw[show I+1-F=(I-F)+1 by omega,YH,KN,show F+(I-F)=I by omega,AF hlt,BN,AF hlt];rfl
     rw[e,Ci,List.mem_singleton] at hb;rcases hb with hb|rfl
     · exact hfree b hb
     · exact hc
theorem fv:∀ (s:List UInt8) (b:UInt8),b ∉ s∨∃ x y,s=x++b::y∧b ∉ x
 |[],b=>.inl (by simp)
 | z :: r,b=>by
   by_cases h:z=b
   · subst h;exact .inr ⟨[],r,rfl,by simp⟩
   · rcases fv r b with h1|⟨x,y,rfl,h2⟩
     · exact .inl (by simp[h1,F6 h])
     · exact .inr ⟨z::x,y,rfl,by simp[h2,F6 h]⟩
theorem aJ:∀ (s:List UInt8) (b:UInt8),b ∉ s→Lib.indexByte s b=-1
 |[],_,_=>rfl
 | z::r,b,h=>by
   have h1:z≠b:=fun e=>h (by simp[e])
   have h2:=aJ r b (fun e=>h (by simp[e]))
   unfold Lib.indexByte
   rw[Ad (by simpa using h1),h2];rfl
theorem bD:∀ (x y:List UInt8) (b:UInt8),b ∉ x→Lib.indexByte (x++b::y) b=(x.length:Int)
 |[],y,b,_=>by simp[Lib.indexByte]
 | z::x,y,b,h=>by
   have h1:z≠b:=fun e=>h (by simp[e])
   have h2:=bD x y b (fun e=>h (by simp[e]))
   rw[Cp]
   unfold Lib.indexByte
   rw[Ad (by simpa using h1),h2,Ad (by simp<;>omega),AG]
   try rfl
theorem TT(s:List UInt8)(b:UInt8)(h:b ∉ s):Lz (s,[b])∧B0 (s,[b])=(s,[],false):=by
 have hi:D3 (s,[b])=-1:=by rw[U9];exact aJ s b h
 have ho:JW (s,[b]):=by rw[Va];rfl
 have e:iGe (-1) 0=false:=by rw[Cq];rfl
 rw[aL,aO,Zx,Zw,hi,e,AY];exact⟨⟨ho,fun h=>(by cases h),fun _=>trivial⟩,rfl⟩
theorem Yf(x y:List UInt8)(b:UInt8)(h:b ∉ x)(hl:(x++b::y).length≤1048576):Lz (x++b::y,[b])∧B0 (x++b::y,[b])=(x,y,true):=by
 have hi:D3 (x++b::y,[b])=(x.length:Int):=by rw[U9];exact bD x y b h
 have ho:JW (x++b::y,[b]):=by rw[Va];rfl
 have e:iGe (x.length:Int) 0=true:=by rw[Cq];exact B5 (by omega)
 rw[CA,AG] at hl
 have ad:iAdd .i64 (x.length:Int) (lLen [b])=((x.length+1:Nat):Int):=by
  rw[Aq,Be (by unfold Ax;simp only[AG,AK];omega)];rfl
 rw[aL,aO,Zx,Zw,hi,e,Bg];simp only[ad,Ar,Ba,GD,Ms,CA,AG];refine⟨⟨ho,fun _=>⟨⟨by omega,by omega,by omega⟩,by omega,by omega,by omega⟩,fun h=>(by cases h)⟩,?_⟩
 have e1:((x++b::y).drop 0).take (x.length-0)=x:=by simp
 have e2:(x++b::y).drop (x.length+1)=y:=by
  rw[← List.drop_drop,List.drop_left];rfl
 rw[e1,e2,KE (by omega)]
theorem Nr(k:Nat)(h:k<56):BC ((k:Int)+1)=Co.getD k []:=by
 obtain⟨_,n2⟩:=cn;rw[BC,n2]
 have e:iSub .i64 ((k:Int)+1) 1=(k:Int):=by rw[H8 (by unfold Ax;omega)];omega
 have d:Bt ((k:Int)+1,1,56)=true:=by
  simp only[Bt,Ay,Cq,CB,Ah,AA];omega
 rw[e,d,AD,AQ,A5,Ar];rfl
def Dg(x:List UInt8):Nat:=Co.findIdx (· == x)
theorem Yq(x:List UInt8):Dg x≤56:=List.findIdx_le_length
theorem Yg(x:List UInt8){k:Nat}(h:k<Dg x):Co.getD k []≠x:=by
 have hl:Co.length=56:=rfl;have h56:=Yq x
 have hk:k<Co.length:=by omega
 have:=List.not_of_lt_findIdx h;rw[BN,AF hk];simpa using this
theorem YN(x:List UInt8)(h:Dg x<56):Co.getD (Dg x) []=x:=by
 have hl:Co.length=56:=rfl
 have hk:Dg x<Co.length:=by omega
 have:=List.findIdx_getElem (w:=hk);rw[BN,AF hk];exact eq_of_beq this
theorem PE(x:List UInt8):Lw x∧Ke x∧Hg x=Ct x:=by
 have hl:Co.length=56:=rfl;have h56:=Yq x;rw[Lw,mU,Ct,mZ,aW]
 have L1:=Dn (c:=Jc x) (f:=Ls) (p:=Lp) (Dg x) (fun k=>(k:Int)+1) (x0:=1) rfl (fun k hk=>by
  have i1:iLe ((k:Int)+1) 56=true:=by rw[CB];exact B5 (by omega)
  have i2:sEq (BC ((k:Int)+1)) x=false:=by rw[Nr k (by omega),Ce];simpa using Yg x hk
  simp only[Jc,Ls,Lp,i1,i2,Ay,AD]
  exact⟨⟨fun _=>(Pu _).1,fun h=>(by cases h)⟩,rfl,by rw[Be (by unfold Ax;omega)];simp⟩) (by
  simp only[Jc,Lp,Ay,AD];refine⟨⟨fun _=>(Pu _).1,fun _=>trivial⟩,?_⟩;rcases Bq (Dg x) 56 with h|h
  · rw[Nr _ h,YN x h,Ce];simp
  · have i1:iLe ((Dg x:Int)+1) 56=false:=by rw[CB];exact B9 (by omega)
    rw[i1];rfl)
 have L2:=Dn (c:=MX x) (f:=O6) (p:=R6) (Dg x) (fun k=>(k:Int)) (x0:=0) rfl (fun k hk=>by
  have i2:sEq (lGet Co k []) x=false:=by rw[A5,Ce];simpa using Yg x hk
  simp only[MX,O6,R6,Sg,Ar,Ba,i2,Ay,AD,Ap,Aq,hl]
  exact⟨⟨fun _=>⟨⟨by omega,by omega⟩,by omega⟩,fun _=>trivial⟩,by simp;omega,by rw[Be (by unfold Ax;omega)];simp⟩) (by
  simp only[MX,R6,Sg,Ar,Ba,Ay,AD,Ap,Aq,hl,A5,Ce,AA];refine⟨⟨fun h=>⟨⟨by omega,by omega⟩,by omega⟩,fun _=>trivial⟩,?_⟩;rcases Bq (Dg x) 56 with h|h
  · rw[YN x h];simp
  · simp;omega)
 rw[L1.2,L2.2];refine⟨L1.1,⟨trivial,L2.1⟩,?_⟩;rw[Sg,Ap,CB,Aq,hl,AQ,AQ,Be (by unfold Ax;omega)];rcases Bq (Dg x) 56 with h|h
 · rw[Ab (B5 (by omega)),Ab (B5 (by omega))]
 · rw[Ad (by simp;omega),Ad (by simp;omega)]
theorem Pq(x:List UInt8):MT x∧Lj x∧J4 x=D6 x:=by
 have ec:OW x=G2 x:=by
  funext m;simp only[OW,G2,(Tx m).2.2.1]
 have ef:RA=IM:=rfl
 have key:∀ {p:Int→Prop},(∀ m,p m)→LoopOk (G2 x) IM p 1:=fun hp=>
  (Jr (fun st=>1≤st∧st≤16) (fun st=>(16-st).toNat) (fun st hI=>⟨hp st,fun hc=>by
   simp only[G2,Ay,CB,Ah,AA] at hc;rw[show IM st=st+1 by unfold IM;exact Be (by unfold Ax;omega)]
   omega⟩) (by omega)).1
 rw[MT,lB,D6,lz,ec,ef];exact⟨key fun m=>⟨fun _=>(Tx m).1,fun _=>trivial⟩,key fun m=>⟨fun _=>(Tx m).2.1,fun _=>trivial⟩,rfl⟩
end
section
set_option maxRecDepth 20000
theorem Km(n:Nat)(h:n<10):Lib.decDigits n=[UInt8.ofNat (48+n)]:=by
 unfold Lib.decDigits;rw[dif_pos h]
theorem nR(n:Int)(h0:0≤n)(h1:n≤3):G3 n∧I5 n∧FO n=Dh n∧(Dh n).length≤1:=by
 obtain⟨k,rfl⟩:∃ k:Nat,n=k:=⟨n.toNat,by omega⟩
 have hk:k=0∨k=1∨k=2∨k=3:=by omega
 have ei:FO (k:Int)=[UInt8.ofNat (48+k)]:=by
  rw[ZU,VL];unfold Lib.itoa;rw[Ad (by omega),Ba,Km k (by omega)]
 have oi:I5 (k:Int):=by rw[ZW,VG];omega
 rw[ei]
 have hne:iNe (0:Int) 0=false:=by rw[CX];rfl
 rw[G3,Dh];rcases Mb k with rfl|hp
 · have e:iEq ((0:Nat):Int) 0=true:=by rw[Cy];rfl
   rw[e,Bg];exact⟨⟨fun _=>trivial,fun h=>(by cases h)⟩,oi,rfl,by simp⟩
 · have e:iEq (k:Int) 0=false:=by rw[Cy];exact B9 (by omega)
   have e2:iLt (k:Int) 0=false:=by rw[Ap];exact B9 (by omega)
   have e3:iNe (k:Int) 0=true:=by rw[CX];simp;omega
   have hr:iRem (k:Int) 10=(k:Int):=by rw[Ub (by omega)];omega
   have hq:iQuo .i64 (k:Int) 10=0:=by rw[fo (by omega) (by unfold Ax;omega)];omega
   have hd:rowS [iConv .u8 (iAdd .i64 48 (bSel (iLt (iRem (k:Int) 10) 0) (iNeg .i64 (iRem (k:Int) 10)) (iRem (k:Int) 10)))]=[UInt8.ofNat (48+k)]:=by
    rw[hr,e2,AY,Be (by unfold Ax;omega),L0 (by omega) (by omega),XT]
    have:((48:Int)+(k:Int)).toNat=48+k:=by omega
    simp[this]
   have L:=Dn (c:=Gw) (f:=IW) (p:=IP) 1 (fun j=>if j=0 then ([],(k:Int)) else ([UInt8.ofNat (48+k)],0)) (x0:=([],(k:Int))) rfl (fun j hj=>by
    have:j=0:=by omega
    subst this;simp only[Gw,IW,IP,hd,hq,e3,Jz,AN]
    exact⟨⟨fun _=>⟨by decide,by simp,by decide⟩,fun h=>(by cases h)⟩,trivial,rfl⟩) (by
    simp only[Gw,IP,Ad (show ¬ (1:Nat)=0 by decide),hne]
    exact⟨⟨fun h=>(by cases h),fun _=>trivial⟩,trivial⟩)
   rw[e,e2,AY,AY,L.2];exact⟨⟨fun h=>(by cases h),fun _=>⟨L.1,fun h=>(by cases h),fun _=>trivial⟩⟩,oi,rfl,by simp⟩
theorem Tt(k c m n:Int)(h:B1 (k,c,m,n)=true):(0≤k∧k≤10)∧(k=3∨k=4∨k=5∨k=7∨k=9→0≤n∧n≤3):=by
 rw[B1] at h;simp only[Bt,AQ,Bp,Ay,Cy,Cq,CB] at h;by_cases h0:k=0∨k=1∨k=10
 · omega
 · by_cases h2:k=2
   · omega
   · by_cases h3:k=3∨k=4
     · rcases h3 with rfl|rfl<;>simp at h<;>omega
     · by_cases h5:k=5∨k=9
       · rcases h5 with rfl|rfl<;>simp at h<;>omega
       · by_cases h6:k=6
         · omega
         · by_cases h7:k=7
           · subst h7;simp at h;omega
           · by_cases h8:k=8
             · omega
             · have a0:(k=0)=False:=eq_false (by omega);have a1:(k=1)=False:=eq_false (by omega);have a2:(k=10)=False:=eq_false (by omega);have a3:(k=3)=False:=eq_false (by omega);have a4:(k=4)=False:=eq_false (by omega);have a5:(k=5)=False:=eq_false (by omega);have a9:(k=9)=False:=eq_false (by omega);simp[a0,a1,a2,a3,a4,a5,a9,h2,h6,h7,h8] at h
theorem HS(x:Int×Int×Int×Int):OT x∧OQ x∧JZ x=A0 x∧(A0 x).length≤20:=by
 obtain⟨k,c,m,n⟩:=x;obtain⟨c1,c2,c3,c4⟩:=Pu c;obtain⟨m1,m2,m3,m4⟩:=Tx m;have a1:Lq (k,c,m,n):=RN _;have a2:Jb (k,c,m,n):=MQ _;rw[OT,jT,A0,j6,← Jh]
 cases hv:B1 (k,c,m,n) with
 | false=>
   rw[AD];simp only[Bool.not_false,Bg];exact⟨⟨a1,fun _=>trivial,fun h=>(by cases h)⟩,⟨a2,fun _=>trivial,fun h=>(by cases h)⟩,by first|rfl|trivial,by simp⟩
 | true=>
   obtain⟨hk,hn⟩:=Tt k c m n hv
   have hn:k=3∨k=4∨k=5∨k=7∨k=9→G3 n∧I5 n∧FO n=Dh n∧(Dh n).length≤1:=fun h=>nR n (hn h).1 (hn h).2
   simp only[AD,E6,AY,Cy,CX,AQ,Jz,c3,m3,bd,aS,a1,a2];rcases (show k=0∨k=1∨k=2∨k=3∨k=4∨k=5∨k=6∨k=7∨k=8∨k=9∨k=10 by omega) with rfl|rfl|rfl|rfl|rfl|rfl|rfl|rfl|rfl|rfl|rfl
   · simp
   · simp
   · by_cases h0:m=0
     · subst h0;simp[c1,c2,c4];omega
     · simp[h0,c1,c2,m1,m2];omega
   · obtain⟨i1,i2,i3,i4⟩:=hn (by omega);simp[i1,i2,i3];omega
   · obtain⟨i1,i2,i3,i4⟩:=hn (by omega);simp[i1,i2,i3];omega
   · obtain⟨i1,i2,i3,i4⟩:=hn (by omega);simp[i1,i2,i3];omega
   · simp[c1,c2,m1,m2];omega
   · obtain⟨i1,i2,i3,i4⟩:=hn (by omega);simp[i1,i2,i3,c1,c2];omega
   · simp[m1,m2];omega
   · obtain⟨i1,i2,i3,i4⟩:=hn (by omega);simp[i1,i2,i3];omega
   · simp
end
section
set_option maxRecDepth 20000
theorem Ua(u:Nat)(h:10≤u):Lib.decDigits u=Lib.decDigits (u / 10)++[UInt8.ofNat (48+u % 10)]:=by
 rw[Lib.decDigits,dif_neg (by omega)]
theorem bV(d:Nat)(h:d<10):Lib.digitVal (UInt8.ofNat (48+d))=some d:=by
 unfold Lib.digitVal
 have:(UInt8.ofNat (48+d)).toNat=48+d:=by
  rw[UInt8.toNat_ofNat'];exact Nat.mod_eq_of_lt (by omega)
 rw[this,Ab (by omega)];congr 1;omega
theorem Wa:∀ (l r:List UInt8) (a:Nat),Lib.decFrom a (l++r)=(Lib.decFrom a l).bind fun n=>Lib.decFrom n r
 |[],_,_=>rfl
 | b::l,r,a=>by
   rw[Cp,Lib.decFrom,Lib.decFrom]
   cases Lib.digitVal b with
   |none=>rfl
   |some d=>exact Wa l r _
theorem SS:∀ (m u:Nat),u<10^m→Lib.decFrom 0 (Lib.decDigits u)=some u
 | 0,u,h=>by
   have:u=0:=by simpa using h
   subst this;rw[Km 0 (by decide)];rfl
 | m+1,u,h=>by
   by_cases hu:u<10
   · rw[Km u hu];simp only[Lib.decFrom,bV u hu,JG,BF]
   · rw[Ua u (by omega),Wa,SS m (u / 10) (by rw[Nat.pow_succ] at h;omega)];simp only[Fy,Lib.decFrom,bV (u % 10) (by omega)];congr 1;omega
theorem NW:∀ (m u:Nat),u<10^m→0<m→1≤(Lib.decDigits u).length∧(Lib.decDigits u).length≤m
 |0,_,_,h=>absurd h (by decide)
 | m + 1,u,h,_=>by
   by_cases hu:u<10
   · rw[Km u hu];simp
   · rw[Ua u (by omega)]
     have hm:0<m:=by
      rcases Mb m with rfl|h'
      · simp at h;omega
      · exact h'
     have:=NW m (u / 10) (by rw[Nat.pow_succ] at h;omega) hm;simp;omega
theorem P7:∀ (m u:Nat),u<10^m→∀ b∈Lib.decDigits u,48≤b.toNat∧b.toNat≤57
 | 0,u,h,b,hb=>by
   have:u=0:=by simpa using h
   subst this;rw[Km 0 (by decide)] at hb;simp only[List.mem_singleton] at hb;subst hb;decide
 | m + 1,u,h,b,hb=>by
   have key:∀ d,d<10→48≤(UInt8.ofNat (48+d)).toNat∧(UInt8.ofNat (48+d)).toNat≤57:=fun d hd=>by
    have:(UInt8.ofNat (48+d)).toNat=48+d:=by
     rw[UInt8.toNat_ofNat'];exact Nat.mod_eq_of_lt (by omega)
    rw[this];omega
   by_cases hu:u<10
   · rw[Km u hu] at hb;simp only[List.mem_singleton] at hb;subst hb;exact key u hu
   · rw[Ua u (by omega),Ci] at hb;rcases hb with hb|hb
     · exact P7 m (u / 10) (by rw[Nat.pow_succ] at h;omega) b hb
     · simp only[List.mem_singleton] at hb;subst hb;exact key _ (by omega)
theorem sy(k:Nat):(-(k:Int)).tdiv 10=-((k / 10:Nat):Int):=by
 rw[Int.neg_tdiv,Int.tdiv_eq_ediv_of_nonneg (by omega)];omega
theorem tJ(k:Nat):(-(k:Int)).tmod 10=-((k % 10:Nat):Int):=by
 rw[Int.neg_tmod,Int.tmod_eq_emod_of_nonneg (by omega)];omega
theorem uQ(x:Int):bSel (iLt (iRem x 10) 0) (iNeg .i64 (iRem x 10)) (iRem x 10)=((x.natAbs % 10:Nat):Int):=by
 rw[X4];rcases Int.le_total 0 x with h|h
 · obtain⟨k,rfl⟩:∃ k:Nat,x=k:=⟨x.toNat,by omega⟩;rw[Int.tmod_eq_emod_of_nonneg (by omega),AQ,Ap,Ad (by simp;omega)];simp only[Int.natAbs_natCast];omega
 · obtain⟨k,rfl⟩:∃ k:Nat,x=-(k:Int):=⟨x.natAbs,by omega⟩;rw[tJ,AQ,Ap]
   have e:(-(k:Int)).natAbs=k:=by omega
   rw[e];by_cases h0:k % 10=0
   · rw[h0];simp
   · rw[Ab (by simp;omega),eT (by unfold Ax;omega)];omega
theorem uV(x:Int)(h:Ax x):(iQuo .i64 x 10).natAbs=x.natAbs / 10∧Ax (iQuo .i64 x 10):=by
 rw[X7];rcases Int.le_total 0 x with hx|hx
 · obtain⟨k,rfl⟩:∃ k:Nat,x=k:=⟨x.toNat,by omega⟩;rw[Int.tdiv_eq_ediv_of_nonneg (by omega),Ia (by unfold Ax at *;omega)];unfold Ax at *;omega
 · obtain⟨k,rfl⟩:∃ k:Nat,x=-(k:Int):=⟨x.natAbs,by omega⟩;rw[sy,Ia (by unfold Ax at *;omega)];unfold Ax at *;omega
theorem fk:∀ (m:Nat) (x:Int) (s:List UInt8),x.natAbs<10^m→s.length+m≤100→Ax x →
 ∃ y,LoopTo Gw IW IP (s,x) y∧y.1=(if x=0 then s else Lib.decDigits x.natAbs++s)
 | 0,x,s,h,hl,hi=>by
   have hx:x=0:=by simp at h;exact h
   subst hx;refine⟨(s,0),.stop ?_ ?_,by simp⟩
   · simp only[IP,CX];exact⟨fun h=>(by simp at h),fun _=>trivial⟩
   · simp[Gw,CX]
 | m + 1,x,s,h,hl,hi=>by
   by_cases hx:x=0
   · subst hx;refine⟨(s,0),.stop ?_ ?_,by simp⟩
     · simp only[IP,CX];exact⟨fun h=>(by simp at h),fun _=>trivial⟩
     · simp[Gw,CX]
   · have e1:rowS [iConv .u8 (iAdd .i64 48 (bSel (iLt (iRem x 10) 0) (iNeg .i64 (iRem x 10)) (iRem x 10)))]=[UInt8.ofNat (48+x.natAbs % 10)]:=by
      rw[uQ,Be (by unfold Ax;omega),L0 (by omega) (by omega),XT]
      have:((48:Int)+((x.natAbs % 10:Nat):Int)).toNat=48+x.natAbs % 10:=by omega
      simp only[Cd,Oc,this]
     obtain⟨q1,q2⟩:=uV x hi
     have e2:IW (s,x)=(UInt8.ofNat (48+x.natAbs % 10)::s,iQuo .i64 x 10):=by
      simp only[IW,e1,Jz];rfl
     have c1:Gw (s,x)=true:=by simp[Gw,CX,hx]
     have p1:IP (s,x):=by
      simp only[IP,e1];refine⟨fun _=>⟨by decide,?_,by decide⟩,fun _=>trivial⟩;simp;omega
     obtain⟨y,y1,y2⟩:=fk m (iQuo .i64 x 10) (UInt8.ofNat (48+x.natAbs % 10)::s) (by rw[q1];rw[Nat.pow_succ] at h;omega) (by simp;omega) q2;refine⟨y,.go p1 c1 (by rw[e2];exact y1),?_⟩;rw[y2,Ad hx,q1];by_cases h10:x.natAbs<10
     · have:iQuo .i64 x 10=0:=by omega
       rw[Ab this,Km _ h10,Nat.mod_eq_of_lt h10];rfl
     · rw[Ad (by omega),Ua x.natAbs (by omega)];simp
theorem aV(n:Int)(h:n.natAbs<10^18):G3 n∧Dh n=Lib.itoa n:=by
 rw[G3,Dh]
 have hi:Ax n:=by unfold Ax;omega
 obtain⟨y,y1,y2⟩:=fk 18 n [] h (by simp) hi;have hv:=y1.val;by_cases h0:n=0
 · subst h0
   have e:iEq (0:Int) 0=true:=by rw[Cy];rfl
   rw[e,Bg];refine⟨⟨fun _=>trivial,fun h=>(by cases h)⟩,?_⟩;unfold Lib.itoa;rw[Ad (by decide),show (0:Int).toNat=0 from rfl,Km 0 (by decide)];rfl
 · have e:iEq n 0=false:=by rw[Cy];exact B9 h0
   rw[Ad h0,Ir] at y2;obtain⟨l1,l2⟩:=NW 18 n.natAbs h (by decide);rw[e,AY,hv,y2];refine⟨⟨fun h=>(by cases h),fun _=>⟨⟨_,y1⟩,fun _=>?_,fun _=>trivial⟩⟩,?_⟩
   · simp;omega
   · unfold Lib.itoa;rw[AQ,Ap,Jz];by_cases hn:n<0
     · rw[Ab (B5 hn),Ab hn];rfl
     · rw[Ad (by simpa using hn),Ad hn,show n.natAbs=n.toNat by omega]
theorem nq(n:Int)(h:n.natAbs<10^18):I5 n∧FO n=Lib.itoa n:=by
 rw[ZW,ZU,VG,VL];exact⟨by omega,rfl⟩
theorem Nw(n:Int)(h:n.natAbs<10^9):1≤(Lib.itoa n).length∧(Lib.itoa n).length≤10∧Lib.atoi (Lib.itoa n)=some n:=by
 obtain⟨l1,l2⟩:=NW 9 n.natAbs h (by decide);have hd:=SS 9 n.natAbs h;unfold Lib.itoa;by_cases hn:n<0
 · rw[Ab hn];refine⟨by simp,by simp;omega,?_⟩;simp only[Lib.atoi,beq_self_eq_true,AN,Lib.decNat];rw[Ad (by simp;intro hh;rw[hh] at l1;simp at l1),hd];simp only[Cc];congr 1;omega
 · rw[Ad hn,show n.toNat=n.natAbs by omega];refine⟨l1,by omega,?_⟩;have hs:=P7 9 n.natAbs h
   cases hl:Lib.decDigits n.natAbs with
   |nil=>rw[hl] at l1;simp at l1
   | cons b r=>
     rw[hl] at hs hd;have hb:=hs b (by simp)
     have n1:(b == 45)=false:=by
      rw[Ib];intro e;subst e;exact absurd hb.1 (by decide)
     have n2:(b == 43)=false:=by
      rw[Ib];intro e;subst e;exact absurd hb.1 (by decide)
     simp only[Lib.atoi,n1,n2,Lib.decNat,List.isEmpty_cons,AL,AX,hd,Cc];congr 1;omega
theorem V0(s:List UInt8):Ln s∧(GB s=(0,false)∧(∀ n:Int,n.natAbs<10^9→Lib.itoa n≠s)∨∃ n:Int,n.natAbs<10^9∧Lib.itoa n=s∧GB s=(n,true)):=by
 rw[ma,l9];simp only[Bp,AQ,Ap,Dc,Aq,KM,AD,Z8,ah];by_cases hl:s.length<1∨10<s.length
 · have e:(decide ((s.length:Int)<1)||decide (10<(s.length:Int)))=true:=by
    rw[Cg,AA,AA];omega
   rw[e];refine⟨⟨fun _=>trivial,fun h=>(by cases h)⟩,.inl ⟨rfl,fun n hn e=>?_⟩⟩;have:=Nw n hn;rw[e] at this;omega
 · have e:(decide ((s.length:Int)<1)||decide (10<(s.length:Int)))=false:=by
    rw[CD,Br,Br];omega
   rw[e]
   cases ha:Lib.atoi s with
   | none=>
     simp only[Option.isSome_none,Bool.not_false,Bool.true_or,AN,AL,AX];refine⟨⟨fun h=>(by cases h),fun _=>⟨by omega,fun _=>trivial,fun h=>(by cases h)⟩⟩,.inl ⟨by first|rfl|trivial,fun n hn e=>?_⟩⟩;have:=(Nw n hn).2.2;rw[e,ha] at this;cases this
   | some n=>
     simp only[Option.isSome_some,E6,Bool.false_or,Dy,AL,AX];by_cases hr:n < -999999999∨999999999<n
     · have hc:(decide (n < -999999999)||(decide (999999999<n)||decide (FO n≠s)))=true:=by
        rcases hr with hr|hr
        · simp[hr]
        · simp[hr]
       rw[Ab (by simpa using hc)];refine⟨⟨fun h=>(by cases h),fun _=>⟨by omega,fun h=>(by cases h),fun _=>⟨fun _=>trivial,fun h1=>⟨fun _=>trivial,fun h2=>?_⟩⟩⟩⟩,.inl ⟨rfl,fun k hk e=>?_⟩⟩
       · simp at h1 h2;omega
       · have:=(Nw k hk).2.2;rw[e,ha] at this;cases this;omega
     · obtain⟨f1,f2⟩:=nq n (by omega);rw[f2]
       have h1:decide (n < -999999999)=false:=by simp;omega
       have h2:decide (999999999<n)=false:=by simp;omega
       simp only[h1,h2,Bool.false_or];refine⟨⟨fun h=>(by cases h),fun _=>⟨by omega,fun h=>(by cases h),fun _=>⟨fun h=>(by cases h),fun _=>⟨fun h=>(by cases h),fun _=>f1⟩⟩⟩⟩,?_⟩;by_cases he:Lib.itoa n=s
       · exact .inr ⟨n,by omega,he,by simp[he]⟩
       · refine .inl ⟨by simp[he],fun k hk e=>?_⟩;have:=(Nw k hk).2.2;rw[e,ha] at this;cases this;exact he e
def Cf:List UInt8→List UInt8
 |[]=>[]
 |b::r=>if b.toNat=45 then r else b::r
theorem YK(s:List UInt8):bSel (bAnd (iGt (lLen s) 0) (iEq (sGet s 0) 45)) (lSub s (iNat 1) (lN s)) s=Cf s:=by
 rw[AQ,Ay,Dc,Cy,Aq,Qa,GD,Ar,Ms]
 cases s with
 |nil=>rfl
 | cons b r=>
   have e1:decide (0<((b::r).length:Int))=true:=B5 (by simp);rw[e1,Ml];by_cases h:b.toNat=45
   · rw[Ab (by simp[h])];simp[Cf,h]
   · rw[Ad (by simp;omega)];simp[Cf,h]
theorem qk(s:List UInt8)(h9:(Cf s).length≤9):LoopOk (EJ s) (Fi s) (RO s) (0,0) ∧
 ∃ k m:Nat,Am (EJ s) (Fi s) (0,0)=((m:Int),(k:Int))∧k≤(Cf s).length∧Lib.decFrom 0 ((Cf s).take k)=some m∧m<10^k∧(k<(Cf s).length→Lib.decFrom 0 (Cf s)=none):=by
 have key:=Jr (c:=EJ s) (f:=Fi s) (p:=RO s)
  (fun st=>∃ k m:Nat,st=((m:Int),(k:Int))∧k≤(Cf s).length∧Lib.decFrom 0 ((Cf s).take k)=some m∧m<10^k)
  (fun st=>(Cf s).length-st.2.toNat) (fun st hI=>?_) (x0:=(0,0)) ⟨0,0,rfl,HB _,rfl,by decide⟩
 · obtain⟨k1,⟨k,m,e,h1,h2,h3⟩,k2⟩:=key
   refine⟨k1,k,m,e,h1,h2,h3,fun hk=>?_⟩;rw[e] at k2;simp only[EJ,YK] at k2;generalize Cf s=t at *;rw[Ay,AD,Bp,Ap,Ap,Dc,Aq,Qa,Ba,B5 (show (k:Int)<(t.length:Int) by omega),Ml] at k2
   have hd:Lib.digitVal (t.getD k 0)=none:=by
    unfold Lib.digitVal;rw[Ad];intro hh;simp only[Fw,Cg,AA] at k2;omega
   have e2:t=t.take k++t.getD k 0::t.drop (k+1):=by
    rw[BN,AF hk,Dy]
    conv=>lhs;rw[← List.take_append_drop k t,Mc hk]
   rw[e2,Wa,h2,Fy,Lib.decFrom,hd]
 · obtain⟨k,m,rfl,h1,h2,h3⟩:=hI
   simp only[EJ,Fi,RO,YK];generalize Cf s=t at *
   have hp:(m:Int)<1000000000:=by
    have:10^k≤10^9:=Nat.pow_le_pow_right (by decide) (by omega);omega
   simp only[Ay,AD,Bp,Ap,Dc,Aq,Qa,Ba,AA,Br];refine⟨⟨fun hk=>⟨⟨⟨by omega,by omega⟩,fun _=>trivial,fun _=>⟨by omega,by omega⟩⟩,fun _=>trivial,fun _=>⟨by omega,by omega⟩⟩,fun _=>trivial⟩,fun hc=>?_⟩;rw[Ah,AA] at hc;obtain⟨hk,hd⟩:=hc
   have hkl:k<t.length:=by omega
   have hd':48≤(t.getD k 0).toNat∧(t.getD k 0).toNat≤57:=by simp only[Cz,CD,Br] at hd;omega
   rw[Js (by unfold Ax;omega),Ju (by omega) (by omega),Be (by unfold Ax;omega),H8 (by unfold Ax;omega),Be (by unfold Ax;omega)];refine⟨⟨k+1,m*10+((t.getD k 0).toNat-48),?_,by omega,?_,?_⟩,?_⟩
   · rw[Ak];omega
   · refine Lib.decFrom_take t k 0 m (t.getD k 0) _ h2 ?_ ?_
     · rw[BN,AF hkl];rfl
     · unfold Lib.digitVal;rw[Ab hd']
   · rw[Nat.pow_succ];omega
   · show t.length-((k:Int)+1).toNat<t.length-(k:Int).toNat;omega
theorem W9(n:Int)(h:n.natAbs<10^9):Cf (Lib.itoa n)=Lib.decDigits n.natAbs∧((Cf (Lib.itoa n)).length<(Lib.itoa n).length↔n<0):=by
 obtain⟨l1,_⟩:=NW 9 n.natAbs h (by decide);unfold Lib.itoa;by_cases hn:n<0
 · rw[Ab hn];exact⟨rfl,by simp[Cf,hn]⟩
 · rw[Ad hn,show n.toNat=n.natAbs by omega];have hs:=P7 9 n.natAbs h
   cases hl:Lib.decDigits n.natAbs with
   |nil=>rw[hl] at l1;simp at l1
   | cons b r=>
     rw[hl] at hs;have hb:=hs b (by simp)
     have:Cf (b::r)=b::r:=by show (if b.toNat=45 then r else b::r)=b::r;rw[Ad (by omega)]
     rw[this];exact⟨rfl,by simp[hn]⟩
theorem Su(s:List UInt8):M4 s∧(BW s=(0,false)∧(∀ n:Int,n.natAbs<10^9→Lib.itoa n≠s)∨∃ n:Int,n.natAbs<10^9∧Lib.itoa n=s∧BW s=(n,true)):=by
 rw[M4,BW];simp only[YK]
 have h0:((iGt (lLen s) 0=true→(0:Int)≤0∧(0:Int)<(s.length:Int))∧(iGt (lLen s) 0=false→True))∧((bAnd (iGt (lLen s) 0) (iEq (sGet s 0) 45))=true→(0:Int)≤1∧iNat 1≤lN s∧lN s≤s.length)∧((bAnd (iGt (lLen s) 0) (iEq (sGet s 0) 45))=false→True):=by
  rw[Ay,Dc,Aq,Ar,Ms];simp only[AA,Ah];refine⟨⟨fun h=>⟨by decide,h⟩,fun _=>trivial⟩,fun h=>⟨by decide,?_,AO _⟩,fun _=>trivial⟩;have:=h.1;show 1≤s.length;omega
 have no:∀ {P:Prop},(∀ n:Int,n.natAbs<10^9→Lib.itoa n=s→P)→∀ n:Int,n.natAbs<10^9→Lib.itoa n=s→P:=fun h=>h
 by_cases hl:(Cf s).length<1∨9<(Cf s).length
 · have e:bOr (iLt (lLen (Cf s)) 1) (iGt (lLen (Cf s)) 9)=true:=by
    rw[Bp,Ap,Dc,Aq,Cg,AA,AA];omega
   rw[e,Bg];refine⟨⟨h0,fun _=>trivial,fun h=>(by cases h)⟩,.inl ⟨rfl,fun n hn e=>?_⟩⟩;have h1:=(W9 n hn).1;have h2:=NW 9 n.natAbs hn (by decide);rw[e] at h1;rw[h1] at hl;omega
 · have e:bOr (iLt (lLen (Cf s)) 1) (iGt (lLen (Cf s)) 9)=false:=by
    rw[Bp,Ap,Dc,Aq,CD,Br,Br];omega
   obtain⟨k1,k,m,k2,k3,k4,k5,k6⟩:=qk s (by omega);rw[e,AY,k2];by_cases hk:k<(Cf s).length
   · have e3:iLt ((k:Int)) (lLen (Cf s))=true:=by rw[Ap,Aq];exact B5 (by omega)
     rw[e3,Bg];refine⟨⟨h0,fun h=>(by cases h),fun _=>⟨k1,fun _=>trivial,fun h=>(by cases h)⟩⟩,.inl ⟨rfl,fun n hn e=>?_⟩⟩;have h1:=(W9 n hn).1;have h2:=SS 9 n.natAbs hn;rw[e] at h1;rw[← h1,k6 hk] at h2;cases h2
   · have e3:iLt ((k:Int)) (lLen (Cf s))=false:=by rw[Ap,Aq];exact B9 (by omega)
     have hkl:k=(Cf s).length:=by omega
     rw[hkl,Hu] at k4;have hm:m<10^9:=Ik k5 (Nat.pow_le_pow_right (by decide) (by omega))
     have hn:bSel (iLt (lLen (Cf s)) (lLen s)) (iNeg .i64 (m:Int)) (m:Int)=if (Cf s).length<s.length then -(m:Int) else m:=by
      rw[AQ,Ap,Aq,Aq,eT (by unfold Ax;omega)];by_cases hh:(Cf s).length<s.length
      · rw[Ab (B5 (by omega)),Ab hh]
      · rw[Ad (by simp;omega),Ad hh]
     rw[e3,AY,hn];generalize hN:(if (Cf s).length<s.length then -(m:Int) else (m:Int))=N
     have hNa:N.natAbs=m:=by subst hN;split<;>omega
     obtain⟨f1,f2⟩:=aV N (by omega);rw[f2];refine⟨⟨h0,fun h=>(by cases h),fun _=>⟨k1,fun h=>(by cases h),fun _=>f1⟩⟩,?_⟩;rw[AQ,KM];by_cases he:Lib.itoa N=s
     · exact .inr ⟨N,by omega,he,by simp[he]⟩
     · refine .inl ⟨by simp[he],fun n hn e=>he ?_⟩;have h1:=W9 n hn;have h2:=SS 9 n.natAbs hn;rw[e] at h1;rw[← h1.1,k4] at h2
       have h3:m=n.natAbs:=by simpa using h2
       have:N=n:=by
        subst hN;by_cases hh:n<0
        · rw[Ab (h1.2.2 hh)];omega
        · rw[Ad (fun hq=>hh (h1.2.1 hq))];omega
       rw[this];exact e
theorem fp{a b:Int}(ha:a.natAbs<10^9)(hb:b.natAbs<10^9)(h:Lib.itoa a=Lib.itoa b):a=b:=by
 have h1:=(Nw a ha).2.2;rw[h,(Nw b hb).2.2] at h1;exact(by simpa using h1:b=a).symm
theorem bF(s:List UInt8):M4 s∧Ln s∧GB s=BW s:=by
 obtain⟨a1,a2⟩:=Su s;obtain⟨b1,b2⟩:=V0 s;refine⟨a1,b1,?_⟩;rcases a2 with⟨a2,a3⟩|⟨n,n1,n2,n3⟩
 · rcases b2 with⟨b2,_⟩|⟨k,k1,k2,_⟩
   · rw[a2,b2]
   · exact absurd k2 (a3 k k1)
 · rcases b2 with⟨_,b3⟩|⟨k,k1,k2,k3⟩
   · exact absurd n2 (b3 n n1)
   · rw[n3,k3,fp k1 n1 (k2.trans n2.symm)]
end
theorem oV{k:Int}{x:List (List (Int×Int×Int×Int))}(hm:MapOk k x):Bytes (Ex k x):=by
 have k1:=hm.k1;have k2:=hm.k2;have l2:=hm.l2
 have hu:∀ n:Int,0≤iConv .u8 n∧iConv .u8 n<256:=fun n=>by
  rw[Ud];unfold IntKind.wrap;simp[IntKind.signed,IntKind.bits];omega
 intro a ha;unfold Ex at ha;simp only[Ci,BG,List.not_mem_nil,or_false,List.mem_flatMap,GQ] at ha;rcases ha with(rfl|rfl)|⟨r,_,b,_,hb⟩
 · omega
 · omega
 · rw[OZ,AQ] at hb;split at hb
   · simp at hb
   · simp only[BG,List.not_mem_nil,or_false] at hb;rcases hb with rfl|rfl|rfl<;>exact hu _
section
set_option maxRecDepth 8000
def kZ:DCode:=(.seq [2,1] (.region [oa 0 1 (.boxB 0 2 (.t 0)),oa 1 2 (.allocB 1 [(.int .i64 0),.nils])]) (.seq [3,2,1] (.region [oa 0 6 (.fieldA 0 (.t 1)),ob 1 7 (.loadB 0 none (.t 6)),oa 2 8 (.build [(.int .i64 0),.nils] [(0,1,(.t 7))]),oa 3 3 (.allocB 2 [(.int .i64 0),.nils]),os 4 (.storeB 2 2 (.t 3) (.t 8))]) (.seq [3,2] (.seq [12,11,10,3,2] (.region [oa 0 9 (.fieldA 1 (.t 1)),oa 1 10 (.loadB 0 none (.t 9)),oa 2 11 (.len (.t 10)),oi 3 12 0]) (.block 0 (.loop [2,3,10,11,12] 1 (.seq [13,12,11,10,3,2] (.region [oa 0 13 (.bin .lss (.t 12) (.t 11))]) (.seq [12,11,10,3,2] (.cond (.t 13) .skip (.exit 0)) (.seq [12,11,10,3,2] (.block 1 (.seq [12,11,10,5,3,2] (.region [oa 0 14 (.indexA 1 (.t 10) (.t 12)),oa 1 15 (.loadH none (.t 14)),on 2 5 15]) (.region [oa 0 16 (.fieldA 1 (.t 3)),xB 1 17 (.loadB 2 none (.t 16)) (rg 1),on 2 18 5,xA 3 19 (.app 4 (.c .nils) (.t 18)) [2],⟨4,some 20,.a false (.litSlice 1 1 [.nils] [(0,1,(.t 19))]) (some (.one (.sl CU))),none,[2,3]⟩,xA 5 21 (.app 1 (.t 17) (.t 20)) (rg 5),xA 6 22 (.fieldA 1 (.t 3)) (rg 6),xS 7 (.storeB 2 1 (.t 22) (.t 21)) (rg 7)]))) (.region [oa 0 23 (.bin .add (.t 12) (.c (.int .i64 1))),om 1 12 23]))))))) (.seq [2] (.region [ob 0 24 (.loadB 2 (some 2) (.t 3)),os 1 (.storeB 1 2 (.t 2) (.t 24))]) .ret))))
def I2:Fn:=⟨⟨1,25,3,false,[.cell 2 (some 2)],kZ⟩,[.agg [(.frz,.int .i64),(.frz,.sl (.one (.sl CU)))]],.one (.agg [(.own,.int .i64),(.own,.sl (.one (.sl CU)))])⟩
theorem kU:I2.A:=BS trivial
def DM:Int×(List (List (Int×Int×Int×Int)))→Int×(List (List (Int×Int×Int×Int))):=I2.V
def RJ:Int×(List (List (Int×Int×Int×Int)))→Prop:=I2.O
theorem kF:I2.B:=BV trivial (by kernel_rfl) (fun x=>by kernel_rfl)
def lU:DCode:=(.seq [8,7,4,2,1] (.region [oa 0 4 (.boxB 0 2 (.t 0)),oa 1 7 (.boxB 1 4 (.t 3)),oa 2 8 (.allocB 2 [(.int .i64 0),.nils]),oa 3 9 (.mv (.c (.bool false)))]) (.seq [8,7,4,2,1] (.seq [34,8,7,4,2,1] (.region [oa 0 11 (.loadB 0 (some 2) (.t 4)),oF 1 12 CN [(.t 11)],oa 2 13 (.un .not (.t 12)),om 3 14 13,og 4 15 (.mv (.t 1)) 14 false,og 5 16 (.bin .lss (.t 15) (.c (.int .i64 0))) 14 false,oa 6 17 (.pick (.t 14) (.c (.bool true)) (.t 16)),om 7 18 17,og 8 19 (.mv (.t 1)) 18 false,og 9 20 (.fieldA 1 (.t 4)) 18 false,og 10 21 (.loadB 0 none (.t 20)) 18 false,og 11 22 (.len (.t 21)) 18 false,og 12 23 (.bin .geq (.t 19) (.t 22)) 18 false,oa 13 24 (.pick (.t 18) (.c (.bool true)) (.t 23)),om 14 25 24,og 15 26 (.mv (.t 2)) 25 false,og 16 27 (.bin .lss (.t 26) (.c (.int .i64 0))) 25 false,oa 17 28 (.pick (.t 25) (.c (.bool true)) (.t 27)),om 18 29 28,og 19 30 (.mv (.t 2)) 29 false,og 20 31 (.fieldA 0 (.t 4)) 29 false,og 21 32 (.loadB 0 none (.t 31)) 29 false,og 22 33 (.bin .geq (.t 30) (.t 32)) 29 false,oa 23 34 (.pick (.t 29) (.c (.bool true)) (.t 33))]) (.cond (.t 34) (.seq [9,8] (.region [oa 0 35 (.build [(.int .i64 0),.nils] []),os 1 (.storeB 2 2 (.t 8) (.t 35)),oa 2 9 (.mv (.c (.bool false)))]) .ret) .skip)) (.seq [10,8,7,2,1] (.region [oa 0 36 (.loadB 0 (some 2) (.t 4)),oF 1 37 I2 [(.t 36)],oa 2 10 (.allocB 3 [(.int .i64 0),.nils]),os 3 (.storeB 3 2 (.t 10) (.t 37))]) (.seq [10,8] (.region [oa 0 38 (.fieldA 1 (.t 10)),xA 1 39 (.loadB 3 none (.t 38)) (rg 1),om 2 40 1,xA 3 41 (.indexA 1 (.t 39) (.t 40)) (rg 3),xB 4 42 (.loadH none (.t 41)) (rg 4),om 5 43 2,ob 6 44 (.loadB 1 (some 4) (.t 7)),xA 7 45 (.indexA 4 (.t 42) (.t 43)) (rg 7),xS 8 (.storeH 4 (.t 45) (.t 44)) (rg 8)]) (.seq [10,8] (.seq [48,10,8] (.region [oa 0 46 (.loadB 3 (some 2) (.t 10)),oF 1 47 CN [(.t 46)],oa 2 48 (.un .not (.t 47))]) (.cond (.t 48) (.seq [9,8] (.region [oa 0 49 (.build [(.int .i64 0),.nils] []),os 1 (.storeB 2 2 (.t 8) (.t 49)),oa 2 9 (.mv (.c (.bool false)))]) .ret) .skip)) (.seq [9,8] (.region [ob 0 50 (.loadB 3 (some 2) (.t 10)),os 1 (.storeB 2 2 (.t 8) (.t 50)),oa 2 9 (.mv (.c (.bool true)))]) .ret))))))
def I9:Fn:=⟨⟨4,51,4,false,[.cell 8 (some 2),.tmp 9],lU⟩,[.agg [(.frz,.int .i64),(.frz,.sl (.one (.sl CU)))],.one .frz (.int .i64),.one .frz (.int .i64),.agg [(.frz,.int .i64),(.frz,.int .i64),(.frz,.int .i64),(.frz,.int .i64)]],.tup [.agg [(.own,.int .i64),(.own,.sl (.one (.sl CU)))],.one .own (.bool)]⟩
theorem lp:I9.A:=BS ⟨J3,kU,J3,trivial⟩
def Bl:(Int×(List (List (Int×Int×Int×Int))))×Int×Int×(Int×Int×Int×Int)→(Int×(List (List (Int×Int×Int×Int))))×Bool:=I9.V
def O2:(Int×(List (List (Int×Int×Int×Int))))×Int×Int×(Int×Int×Int×Int)→Prop:=I9.O
theorem lk:I9.B:=BV ⟨J2,kF,J2,trivial⟩ (by kernel_rfl) (fun x=>by kernel_rfl)
end
section
set_option maxRecDepth 100000
def Sa(x:Int×(List (List (Int×Int×Int×Int))))(x0:(Int×(List (List (Int×(Int×(Int×Int))))))):Bool:=(iLt x0.1 (lLen x.2))
def RZ(x:Int×(List (List (Int×Int×Int×Int))))(x0:(Int×(List (List (Int×(Int×(Int×Int))))))):(Int×(List (List (Int×(Int×(Int×Int)))))):=((iAdd .i64 x0.1 1),(lApp x0.2 [(lApp [] (lGet x.2 (iNat x0.1) []))]))
def VC(x:Int×(List (List (Int×Int×Int×Int))))(x0:(Int×(List (List (Int×(Int×(Int×Int))))))):Prop:=(((iLt x0.1 (lLen x.2))=true→((((0:Int)≤x0.1)∧(x0.1<(((List.length x.2):Int))))∧(((iNat x0.1)<(List.length x.2))∧((AE (((List.length ([]:List (Int×(Int×(Int×Int)))))+(List.length (lGet x.2 (iNat x0.1) [])))*4))∧(AE (((List.length x0.2)+(List.length [(lApp [] (lGet x.2 (iNat x0.1) []))]))*1))))))∧((iLt x0.1 (lLen x.2))=false→True))
@[irreducible] def D8(x:Int×(List (List (Int×Int×Int×Int)))):Int×(List (List (Int×Int×Int×Int))):=(x.1,(Am (Sa x) (RZ x) (0,[])).2)
@[irreducible] def VO(x:Int×(List (List (Int×Int×Int×Int)))):Prop:=(LoopOk (Sa x) (RZ x) (VC x) (0,[]))
@[irreducible] def VD(x:(Int×(List (List (Int×Int×Int×Int))))×Int×Int×(Int×Int×Int×Int)):(Int×(List (List (Int×Int×Int×Int))))×Bool:=(bSel (bOr (bNot (ER x.1)) (bOr (bNot (Bt (x.2.1,0,(iSub .i64 (lLen x.1.2) 1)))) (bNot (Bt (x.2.2.1,0,(iSub .i64 x.1.1 1)))))) ((0,[]),false) (bSel (bNot (ER ((D8 x.1).1,(lSet (D8 x.1).2 (iNat x.2.1) (lSet (lGet (D8 x.1).2 (iNat x.2.1) []) (iNat x.2.2.1) x.2.2.2))))) ((0,[]),false) (((D8 x.1).1,(lSet (D8 x.1).2 (iNat x.2.1) (lSet (lGet (D8 x.1).2 (iNat x.2.1) []) (iNat x.2.2.1) x.2.2.2))),true)))
@[irreducible] def ZX(x:(Int×(List (List (Int×Int×Int×Int))))×Int×Int×(Int×Int×Int×Int)):Prop:=(((Ll x.1)∧(((bNot (ER x.1))=true→True)∧((bNot (ER x.1))=false→((D9 (x.2.1,0,(iSub .i64 (lLen x.1.2) 1)))∧(((bNot (Bt (x.2.1,0,(iSub .i64 (lLen x.1.2) 1))))=true→True)∧((bNot (Bt (x.2.1,0,(iSub .i64 (lLen x.1.2) 1))))=false→(D9 (x.2.2.1,0,(iSub .i64 x.1.1 1)))))))))∧(((bOr (bNot (ER x.1)) (bOr (bNot (Bt (x.2.1,0,(iSub .i64 (lLen x.1.2) 1)))) (bNot (Bt (x.2.2.1,0,(iSub .i64 x.1.1 1))))))=true→True)∧((bOr (bNot (ER x.1)) (bOr (bNot (Bt (x.2.1,0,(iSub .i64 (lLen x.1.2) 1)))) (bNot (Bt (x.2.2.1,0,(iSub .i64 x.1.1 1))))))=false→((VO x.1)∧((((0:Int)≤x.2.1)∧(x.2.1<(((List.length (D8 x.1).2):Int))))∧((((iNat x.2.1)<(List.length (D8 x.1).2))∧((iNat x.2.1)<(List.length (D8 x.1).2)))∧((((0:Int)≤x.2.2.1)∧(x.2.2.1<(((List.length (lGet (D8 x.1).2 (iNat x.2.1) [])):Int))))∧((((iNat x.2.1)<(List.length (D8 x.1).2))∧((iNat x.2.2.1)<(List.length (lGet (D8 x.1).2 (iNat x.2.1) []))))∧(Ll ((D8 x.1).1,(lSet (D8 x.1).2 (iNat x.2.1) (lSet (lGet (D8 x.1).2 (iNat x.2.1) []) (iNat x.2.2.1) x.2.2.2))))))))))))
def Rt(x:Int×(List (List (Int×Int×Int×Int))))(x0:(Int×(List (List (Int×(Int×(Int×Int))))))):Bool:=(iLt x0.1 (lLen x.2))
def Rs(x:Int×(List (List (Int×Int×Int×Int))))(x0:(Int×(List (List (Int×(Int×(Int×Int))))))):(Int×(List (List (Int×(Int×(Int×Int)))))):=((iAdd .i64 x0.1 1),(lApp x0.2 [(lGet x.2 (iNat x0.1) [])]))
def Vi(x:Int×(List (List (Int×Int×Int×Int))))(x0:(Int×(List (List (Int×(Int×(Int×Int))))))):Prop:=(((iLt x0.1 (lLen x.2))=true→((((0:Int)≤x0.1)∧(x0.1<(((List.length x.2):Int))))∧(((iNat x0.1)<(List.length x.2))∧((AE ((List.length (lGet x.2 (iNat x0.1) []))*4))∧(AE (((List.length x0.2)+(List.length [(lGet x.2 (iNat x0.1) [])]))*1))))))∧((iLt x0.1 (lLen x.2))=false→True))
theorem kK (x):DM x=(x.1,(Am (Rt x) (Rs x) (0,[])).2):=(I2.v x).trans (by kernel_rfl)
theorem kT (x):RJ x=(LoopOk (Rt x) (Rs x) (Vi x) (0,[])):=(I2.o x).trans (by kernel_rfl)
theorem ZT (x):Bl x=(bSel (bOr (bNot (BL x.1)) (bOr (iLt x.2.1 0) (bOr (iGe x.2.1 (lLen x.1.2)) (bOr (iLt x.2.2.1 0) (iGe x.2.2.1 x.1.1))))) ((0,[]),false) (bSel (bNot (BL ((DM x.1).1,(lSet (DM x.1).2 (iNat x.2.1) (lSet (lGet (DM x.1).2 (iNat x.2.1) []) (iNat x.2.2.1) x.2.2.2))))) ((0,[]),false) (((DM x.1).1,(lSet (DM x.1).2 (iNat x.2.1) (lSet (lGet (DM x.1).2 (iNat x.2.1) []) (iNat x.2.2.1) x.2.2.2))),true))):=(I9.v x).trans (by kernel_rfl)
theorem lO (x):O2 x=((G5 x.1)∧(((bOr (bNot (BL x.1)) (bOr (iLt x.2.1 0) (bOr (iGe x.2.1 (lLen x.1.2)) (bOr (iLt x.2.2.1 0) (iGe x.2.2.1 x.1.1)))))=true→True)∧((bOr (bNot (BL x.1)) (bOr (iLt x.2.1 0) (bOr (iGe x.2.1 (lLen x.1.2)) (bOr (iLt x.2.2.1 0) (iGe x.2.2.1 x.1.1)))))=false→((RJ x.1)∧((((0:Int)≤x.2.1)∧(x.2.1<(((List.length (DM x.1).2):Int))))∧((((iNat x.2.1)<(List.length (DM x.1).2))∧((iNat x.2.1)<(List.length (DM x.1).2)))∧((((0:Int)≤x.2.2.1)∧(x.2.2.1<(((List.length (lGet (DM x.1).2 (iNat x.2.1) [])):Int))))∧((((iNat x.2.1)<(List.length (DM x.1).2))∧((iNat x.2.2.1)<(List.length (lGet (DM x.1).2 (iNat x.2.1) []))))∧(G5 ((DM x.1).1,(lSet (DM x.1).2 (iNat x.2.1) (lSet (lGet (DM x.1).2 (iNat x.2.1) []) (iNat x.2.2.1) x.2.2.2)))))))))))):=(I9.o x).trans (by kernel_rfl)
attribute [irreducible] DM RJ Bl O2
end
theorem rY(k:Int)(x:List (List (Int×Int×Int×Int)))(hs:EZ (k,x)):VO (k,x)∧D8 (k,x)=(k,x):=by
 rw[VO,D8]
 obtain⟨a1,a2⟩:=eF (c:=Sa (k,x)) (f:=RZ (k,x)) (p:=VC (k,x)) x [] hs.1.1 (fun i l=>by simp[Sa,Ap,Aq])
  (fun i l _=>by simp[RZ,Dq,A5,Ar]) (fun i l hi hl=>by
   simp only[VC,Ap,Aq,AA];refine⟨fun h=>?_,fun _=>trivial⟩
   have e:lGet x (iNat (i:Int)) []=x.getD i []:=by rw[A5,Ar,Ba]
   have h1:(x.getD i []).length≤1048576:=(hs.1.2 _ (Fq x i [] (by omega))).1;have h2:x.length≤1048576:=hs.1.1;rw[e]
   refine⟨⟨by omega,h⟩,by rw[Ar];omega,by unfold AE;simp only[AK];omega,by unfold AE;simp only[AG,AK];omega⟩)
 exact⟨a1,by rw[a2]⟩
theorem bh(k:Int)(x:List (List (Int×Int×Int×Int)))(hs:EZ (k,x)):RJ (k,x)∧DM (k,x)=(k,x):=by
 rw[kT,kK]
 obtain⟨a1,a2⟩:=eF (c:=Rt (k,x)) (f:=Rs (k,x)) (p:=Vi (k,x)) x [] hs.1.1 (fun i l=>by simp[Rt,Ap,Aq])
  (fun i l _=>by simp[Rs,Dq,A5,Ar]) (fun i l hi hl=>by
   simp only[Vi,Ap,Aq,AA];refine⟨fun h=>?_,fun _=>trivial⟩
   have e:lGet x (iNat (i:Int)) []=x.getD i []:=by rw[A5,Ar,Ba]
   have h1:(x.getD i []).length≤1048576:=(hs.1.2 _ (Fq x i [] (by omega))).1;have h2:x.length≤1048576:=hs.1.1;rw[e]
   refine⟨⟨by omega,h⟩,by rw[Ar];omega,by unfold AE;omega,by unfold AE;simp only[AG,AK];omega⟩)
 exact⟨a1,by rw[a2]⟩
section
set_option maxRecDepth 20000
theorem bq(k:Int)(x:List (List (Int×Int×Int×Int)))(i q:Int)(a:Int×Int×Int×Int)(hs:EZ (k,x)) :
 ZX ((k,x),i,q,a)∧O2 ((k,x),i,q,a)∧Bl ((k,x),i,q,a)=VD ((k,x),i,q,a)∧EZ (VD ((k,x),i,q,a)).1:=by
 obtain⟨c1,c2⟩:=rY k x hs
 obtain⟨d1,d2⟩:=bh k x hs
 obtain⟨m1,m2⟩:=Kg (k,x) hs
 have hz:EZ (0,[]):=⟨⟨by simp,by simp⟩,trivial⟩
 have hl:x.length≤1048576:=hs.1.1
 rw[ZX,lO,VD,ZT]
 simp only[SY,c1,c2,d1,d2,m1,m2,XN,XW]
 have hsub:iSub .i64 (lLen x) 1=x.length-1:=by rw[Aq];exact H8 (by unfold Ax;omega)
 have e1:bNot (decide (0≤i)&&decide (i≤iSub .i64 (lLen x) 1))=bOr (iLt i 0) (iGe i (lLen x)):=by
  rw[hsub,Ap,Cq,Bp,AD,Aq,UR];simp;omega
 by_cases hk:BL (k,x)=true
 · have hkeys:1≤k∧k≤32:=by
    rw[R7] at hk;simp only[Ay,AD,Bp,Ap,Dc,Ah,CD,Cz,Br] at hk;omega
   have e2:bNot (decide (0≤q)&&decide (q≤iSub .i64 k 1))=bOr (iLt q 0) (iGe q k):=by
    rw[H8 (by unfold Ax;omega),Ap,Cq,Bp,AD,UR];simp;omega
   rw[hk,e1,e2];generalize hc:bOr (bNot true) (bOr (iLt i 0) (bOr (iGe i (lLen x)) (bOr (iLt q 0) (iGe q k))))=C
   have hc2:bOr (bNot true) (bOr (bOr (iLt i 0) (iGe i (lLen x))) (bOr (iLt q 0) (iGe q k)))=C:=by rw[← hc];simp only[Bp,AD,Bool.or_assoc]
   rw[hc2]
   cases C with
   | true=>
     refine⟨?_,?_,by simp only[Bg],by simp only[Bg];exact hz⟩<;>simp
   | false=>
     simp only[Bp,AD,Ap,Cq,Aq,CD,Br,E6,Kw] at hc;obtain⟨h1,h2,h3,h4⟩:=hc
     have hi:i.toNat<x.length:=by omega
     have hrow:(lGet x (iNat i) []).length=k.toNat:=by
      have hm:=(Wb hs hk).row i.toNat hi;rw[A5,Ar];omega
     have hq:q.toNat<k.toNat:=by omega
     have hs2:EZ (k,lSet x (iNat i) (lSet (lGet x (iNat i) []) (iNat q) a)):=by
      refine⟨⟨by rw[Jy,List.length_set];exact hl,fun l hl'=>?_⟩,trivial⟩;rw[Jy] at hl';rcases List.mem_or_eq_of_mem_set hl' with h|h
      · exact hs.1.2 l h
      · subst h;refine⟨by rw[Jy,List.length_set,hrow];omega,fun a _=>by simp[Tn]⟩
     obtain⟨n1,n2⟩:=Kg _ hs2;refine⟨?_,?_,rfl,?_⟩
     · have g1:0≤i∧i<(x.length:Int):=⟨by omega,by omega⟩
       have g2:0≤q∧q<((lGet x (iNat i) []).length:Int):=by rw[hrow];omega
       have g3:iNat i<x.length:=by rw[Ar];exact hi
       have g4:iNat q<(lGet x (iNat i) []).length:=by rw[hrow,Ar];exact hq
       simp[n1,g1,g2,g3,g4]
     · have g1:0≤i∧i<(x.length:Int):=⟨by omega,by omega⟩
       have g2:0≤q∧q<((lGet x (iNat i) []).length:Int):=by rw[hrow];omega
       have g3:iNat i<x.length:=by rw[Ar];exact hi
       have g4:iNat q<(lGet x (iNat i) []).length:=by rw[hrow,Ar];exact hq
       simp[n2,g1,g2,g3,g4]
     · simp only[AY];rw[AQ];split
       · exact hz
       · exact hs2
 · have hk:BL (k,x)=false:=by simpa using hk
   rw[hk];simp only[AD,Bool.not_false,Bp,Bool.true_or,Bg];refine⟨by simp,by simp,trivial,hz⟩
end
theorem YQ:FG=DJ:=by funext x s;simp only[FG,DJ,dy]
theorem Yw:Gt=DK:=by funext x s;simp only[Gt,DK,dy]
theorem vz:Gs=D5:=by funext x s;simp only[Gs,D5,YQ,Yw]
theorem vo:GZ=D4:=by funext x s;simp only[GZ,D4,YQ,Yw]
theorem vU{x:List Int}{k:Nat}(hk:iConv .i64 (lGet x (iNat 0) 0)=(k:Int))(hk2:k<256){a:Nat}(ha:a+3*k≤x.length)(hl:x.length≤1048576) :
 LoopOk (DJ x) (DK x) (Rp x) ((a:Int),[],0)∧LoopOk (DJ x) (DK x) (Rn x) ((a:Int),[],0) ∧
 (Am (DJ x) (DK x) ((a:Int),[],0)).2.2≤k∧(Am (DJ x) (DK x) ((a:Int),[],0)).1=a+3*(Am (DJ x) (DK x) ((a:Int),[],0)).2.2 ∧
 (Am (DJ x) (DK x) ((a:Int),[],0)).2.1.length≤255:=by
 obtain⟨b1,b2,⟨b3,b4,b5,b6,b7⟩,_⟩:=TB (c:=DJ x) (f:=DK x) (p:=Rp x) (d:=DJ x) (g:=DK x) (q:=Rn x) (x0:=((a:Int),[],0)) (y0:=((a:Int),[],0))
  (fun s t=>s=t∧0≤s.2.2∧s.2.2≤k∧s.1=a+3*s.2.2∧(s.2.1.length:Int)≤s.2.2) (fun s=>(k-s.2.2).toNat) (by
   rintro⟨e,l,j⟩ t ⟨rfl,h1,h2,h3,h4⟩
   simp only at h1 h2 h3 h4
   have e4:iAdd .i64 j 1=j+1:=Be (by unfold Ax;omega)
   have e5:iAdd .i64 e 3=e+3:=Be (by unfold Ax;omega)
   have i1:iNat e=e.toNat:=Ar _
   have i2:iNat (e+3)=(e+3).toNat:=Ar _
   refine⟨?_,?_,rfl,fun hcc=>?_⟩
   · simp only[Rp,hk,Ap,AA,e5,i1,i2,AG,AK]
     refine⟨fun hj=>⟨⟨⟨by omega,by omega⟩,by omega,by omega,by omega⟩,(dP _).1,fun _=>trivial,fun _=>by unfold AE;omega⟩,fun _=>trivial⟩
   · simp only[Rn,hk,Ap,AA,e5,i1,i2,AG,AK]
     refine⟨fun hj=>⟨⟨⟨by omega,by omega⟩,by omega,by omega,by omega⟩,(dP _).2,fun _=>trivial,fun _=>by unfold AE;omega⟩,fun _=>trivial⟩
   · simp only[DJ,Ay,Ah,hk,Ap,AA] at hcc
     have hcc:=hcc.1;simp only[DK,e4,e5,Dq,CA,AG,AK]
     exact⟨⟨trivial,by omega,by omega,by omega,by omega⟩,by omega⟩) ⟨rfl,by simp,by simp,by simp,by simp⟩
 exact⟨b1,b2,b5,b6,by omega⟩
theorem tU{x:List Int}{k n:Nat}(hk:iConv .i64 (lGet x (iNat 0) 0)=(k:Int))(hk2:k<256)(hn:iConv .i64 (lGet x (iNat 1) 0)=(n:Int))(hn2:n<256)(hl:x.length=2+3*(k*n))(h2:2≤x.length)(hl':x.length≤1048576) :
 LoopOk (D5 x) (D4 x) (Ro x) (2,0,[])∧LoopOk (D5 x) (D4 x) (Rm x) (2,0,[]) ∧
 (Am (D5 x) (D4 x) (2,0,[])).2.2.length≤255∧∀ r∈(Am (D5 x) (D4 x) (2,0,[])).2.2,r.length≤255:=by
 obtain⟨b1,b2,⟨b3,b4,b5,b6,b7,b8⟩,_⟩:=TB (c:=D5 x) (f:=D4 x) (p:=Ro x) (d:=D5 x) (g:=D4 x) (q:=Rm x) (x0:=(2,0,[])) (y0:=(2,0,[]))
  (fun s t=>s=t∧0≤s.2.1∧s.2.1≤n∧s.1=2+3*((k*s.2.1.toNat:Nat):Int)∧(s.2.2.length:Int)≤s.2.1∧∀ r∈s.2.2,r.length≤255) (fun s=>(n-s.2.1).toNat) (by
   rintro⟨e,j,l⟩ t ⟨rfl,h1,h2,h3,h4,h5⟩
   simp only at h1 h2 h3 h4 h5
   obtain⟨j,rfl⟩:∃ m:Nat,j=m:=⟨j.toNat,by omega⟩
   rw[Ba] at h3
   have e4:iAdd .i64 (j:Int) 1=(j:Int)+1:=Be (by unfold Ax;omega)
   have hmul:j<n→k*(j+1)≤k*n:=fun hj=>Nat.mul_le_mul_left _ hj
   have hexp:k*(j+1)=k*j+k:=by rw[Nat.mul_add,KH]
   have row:j<n→_:=fun hj=>vU hk hk2 (a:=2+3*(k*j)) (by have:=hmul hj;omega) hl'
   have he:e=((2+3*(k*j):Nat):Int):=by omega
   subst he
   have n1:iNat 1<x.length:=by rw[Ar];show 1<_;omega
   refine⟨?_,?_,rfl,fun hcc=>?_⟩
   · simp only[Ro,hn,hk,Ap,AA,Br]
     refine⟨⟨by omega,by omega⟩,n1,fun hj=>⟨(row (by omega)).1,fun _=>trivial,fun _=>?_⟩,fun _=>trivial⟩;unfold AE;simp only[AG,AK];omega
   · simp only[Rm,YQ,Yw,hn,hk,Ap,AA,Br]
     refine⟨fun hj=>⟨(row (by omega)).2.1,fun _=>trivial,fun _=>?_⟩,fun _=>trivial⟩;unfold AE;simp only[AG,AK];omega
   · simp only[D5,Ay,AD,Ah,Cz,hn,hk,Ap,AA,Br] at hcc
     obtain⟨c1,c2⟩:=hcc;obtain⟨_,_,r3,r4,r5⟩:=row (by omega);simp only[D4,e4,Dq,CA,AG,AK];refine⟨⟨trivial,by omega,by omega,?_,by omega,fun r hr=>?_⟩,by omega⟩
     · rw[r4]
       have:((j:Int)+1).toNat=j+1:=by omega
       rw[this,hexp];omega
     · rcases Ci.1 hr with hr|hr
       · exact h5 r hr
       · rw[List.mem_singleton.1 hr];exact r5) ⟨rfl,by simp,by simp,by simp,by simp,by simp⟩
 exact⟨b1,b2,by omega,b8⟩
theorem lW(x:List Int)(hx:Bytes x)(hl:x.length≤1048576):ZA x∧OS x∧FJ x=Vl x∧EZ (Vl x).1:=by
 rw[ZA,j5,Vl,ZK];simp only[vz,vo,SY];have sm0:EZ ((0:Int),([]:List (List (Int×Int×Int×Int)))):=⟨⟨by simp,by simp⟩,trivial⟩;by_cases h2:x.length<2
 · have e1:iLt (lLen x) 2=true:=by rw[Ap,Aq];simp;omega
   simp only[e1,Bp,Bool.true_or,Bg];exact⟨by simp,by simp,trivial,sm0⟩
 · have e1:iLt (lLen x) 2=false:=by rw[Ap,Aq];simp;omega
   obtain⟨k,hk2,g0⟩:=hx.get 0;obtain⟨n,hn2,g1⟩:=hx.get 1
   have hk:iConv .i64 (lGet x (iNat 0) 0)=(k:Int):=by rw[A5,Ar];show iConv .i64 (x.getD 0 0)=_;rw[g0,Ju (by omega) (by omega)]
   have hn:iConv .i64 (lGet x (iNat 1) 0)=(n:Int):=by rw[A5,Ar];show iConv .i64 (x.getD 1 0)=_;rw[g1,Ju (by omega) (by omega)]
   have i0:iNat 0<x.length:=by rw[Ar];show 0<_;omega
   have i1:iNat 1<x.length:=by rw[Ar];show 1<_;omega
   have j0:(0:Int)<(x.length:Int):=by omega
   have j2:0<x.length:=by omega
   have j1:(1:Int)<(x.length:Int):=by omega
   have hkn:k*n≤255*255:=Nat.mul_le_mul (by omega) (by omega)
   have em:iAdd .i64 2 (iMul .i64 (iMul .i64 3 (k:Int)) (n:Int))=((2+3*(k*n):Nat):Int):=by
    have e3:(3*(k:Int))*(n:Int)=((3*(k*n):Nat):Int):=by push_cast;rw[Int.mul_assoc]
    rw[Js (a:=3) (by unfold Ax;omega),Js (by rw[e3];unfold Ax;omega),e3,Be (by unfold Ax;omega)];omega
   rw[hk,hn,em];by_cases hlen:x.length=2+3*(k*n)
   · have e2:iNe (lLen x) ((2+3*(k*n):Nat):Int)=false:=by rw[CX,Aq];simp;omega
     obtain⟨b1,b2,b3,b4⟩:=tU hk hk2 hn hn2 hlen (by omega) hl;generalize Am (D5 x) (D4 x) (2,0,[])=L at b3 b4 ⊢;have smL:EZ ((k:Int),L.2.2):=⟨⟨Cv b3 (by decide),fun r hr=>⟨Cv (b4 r hr) (by decide),fun a _=>by simp[Tn]⟩⟩,trivial⟩;obtain⟨a1,a2⟩:=Kg _ smL;simp only[e1,e2];refine⟨by simp[i0,i1,j0,j1,j2,b1,a1],by simp[i0,i1,j0,j1,j2,b2,a2],trivial,?_⟩;simp only[Bp,Bool.or_false,AY];rw[AQ];split
     · exact sm0
     · rw[AQ];split
       · exact sm0
       · exact smL
   · have e2:iNe (lLen x) ((2+3*(k*n):Nat):Int)=true:=by rw[CX,Aq];simp;omega
     simp only[e1,e2,Bp,Bool.false_or,Bg];exact⟨by simp[i0,i1,j0,j1,j2],by simp[i0,i1,j0,j1,j2],trivial,sm0⟩
section
set_option maxRecDepth 20000
theorem dc(x:List UInt8):Ct x=if Dg x<56 then (Dg x:Int)+1 else 0:=by
 have hl:Co.length=56:=rfl;have h56:=Yq x;rw[Ct]
 have L1:=Dn (c:=Jc x) (f:=Ls) (p:=Lp) (Dg x) (fun k=>(k:Int)+1) (x0:=1) rfl (fun k hk=>by
  have i1:iLe ((k:Int)+1) 56=true:=by rw[CB];exact B5 (by omega)
  have i2:sEq (BC ((k:Int)+1)) x=false:=by rw[Nr k (by omega),Ce];simpa using Yg x hk
  simp only[Jc,Ls,Lp,i1,i2,Ay,AD]
  exact⟨⟨fun _=>(Pu _).1,fun h=>(by cases h)⟩,rfl,by rw[Be (by unfold Ax;omega)];simp⟩) (by
  simp only[Jc,Lp,Ay,AD];refine⟨⟨fun _=>(Pu _).1,fun _=>trivial⟩,?_⟩;rcases Bq (Dg x) 56 with h|h
  · rw[Nr _ h,YN x h,Ce];simp
  · have i1:iLe ((Dg x:Int)+1) 56=false:=by rw[CB];exact B9 (by omega)
    rw[i1];rfl)
 rw[L1.2,CB,AQ];rcases Bq (Dg x) 56 with h|h
 · rw[Ab (B5 (by omega)),Ab h]
 · rw[Ad (by simp;omega),Ad (by omega)]
theorem rE:((List.range 56).all fun k=>Co.findIdx (· == Co.getD k []) == k)=true:=by kernel_rfl
theorem oZ(k:Int)(h1:1≤k)(h2:k≤56):Ct (BC k)=k:=by
 obtain⟨j,rfl⟩:∃ j:Nat,k=(j:Int)+1:=⟨(k-1).toNat,by omega⟩
 have hj:j<56:=by omega
 have:=CK.1 rE j (List.mem_range.2 hj)
 have e:Dg (Co.getD j [])=j:=by unfold Dg;exact eq_of_beq this
 rw[Nr j hj,dc,e,Ab hj]
theorem H4(k:Int)(h0:0≤k)(h1:k≤56):Ct (BC k)=k:=by
 by_cases h:k=0
 · subst h
   have e:BC 0=[]:=by
    rw[BC,Bt];simp only[AD,Ay,AQ,Cq,CB];rfl
   have c:Dg []=56:=by unfold Dg;exact(by kernel_rfl:Co.findIdx (· == [])=56)
   rw[e,dc,c];rfl
 · exact oZ k (by omega) h1
def GW(m:Nat):Nat→List UInt8
 |0=>[]
 |k+1=>if m.testBit k then GW m k++[([67,83,65,71]:List UInt8).getD k 0] else GW m k
theorem ve{m k:Nat}(hm:m<16)(hk:k<4):Zm (m:Int) k=m.testBit k:=by
 have h:m / 2^k≤m:=Nat.div_le_self _ _;have e:iAnd .i64 ((m / 2^k:Nat):Int) 1=((m / 2^k &&& 1:Nat):Int):=uK (b:=1) (by omega) (by omega);unfold Zm;rw[vf _ _ (by omega),e,Cy,Nat.and_one_is_mod,Nat.testBit_eq_decide_div_mod_eq];exact decide_eq_decide.2 (by omega)
theorem iA{m:Nat}(hm:m<16):∀ k,k≤4→fm (m:Int) k=GW m k
 |0,_=>rfl
 | k+1,h=>by
   unfold fm GW
   rw[ve hm (by omega),iA hm k (by omega)]
theorem Xb{m:Nat}(hm:m<16):B7 (m:Int)=GW m 4:=by
 rw[(W0 _).2.2.2];split
 · exact iA hm 4 (AO _)
 · have:m=0:=by omega
   subst this;rfl
theorem tT:∀ a,a<16→∀ b,b<16→GW a 4=GW b 4→a=b:=by decide
theorem nh{m:Nat}(hm:m<16):D6 (B7 (m:Int))=(m:Int):=by
 rw[Xb hm,D6]
 have L:=Dn (c:=G2 (GW m 4)) (f:=IM) (p:=fun _=>True) (if m=0 then 15 else m-1) (fun k=>(k:Int)+1) (x0:=1) rfl (fun k hk=>by
  have hk15:k+1<16:=by split at hk<;>omega
  have hne:k+1≠m:=by split at hk<;>omega
  have i1:iLe ((k:Int)+1) 15=true:=by rw[CB];exact B5 (by omega)
  have e:B7 ((k:Int)+1)=GW (k+1) 4:=Xb (m:=k+1) hk15
  have i2:sEq (B7 ((k:Int)+1)) (GW m 4)=false:=by
   rw[e,Ce]
   have:GW (k+1) 4≠GW m 4:=fun h=>hne (tT _ hk15 _ hm h)
   simpa using this
  refine⟨trivial,by simp only[G2,i1,i2,Ay,AD];rfl,?_⟩;unfold IM
  rw[Be (by unfold Ax;omega)];simp) ⟨trivial,by
  by_cases h0:m=0
  · subst h0;simp only[G2,Ay,AN]
    have i1:iLe (((15:Nat):Int)+1) 15=false:=by rw[CB];rfl
    rw[i1];rfl
  · simp only[G2,Ay,Ad h0]
    have e:((m-1:Nat):Int)+1=(m:Int):=by omega
    rw[e,Xb hm,Ce,AD];simp⟩
 rw[L.2,CB,AQ];by_cases h0:m=0
 · subst h0;rfl
 · rw[Ad h0,Ab (B5 (by omega))];omega
theorem iL(m:Int):∀ k,k≤4→∀ b∈fm m k,b∈([67,83,65,71]:List UInt8)
 |0,_,b,hb=>by simp[fm] at hb
 | k + 1,h,b,hb=>by
   have i:=iL m k (by omega) b
   unfold fm at hb
   split at hb
   · rw[Ci,List.mem_singleton] at hb
     rcases hb with h1|h1
     · exact i h1
     · rcases (show k=0∨k=1∨k=2∨k=3 by omega) with rfl|rfl|rfl|rfl<;>(subst h1;decide)
   · exact i hb
theorem fH(m:Int):∀ b∈B7 m,b∈([67,83,65,71]:List UInt8):=by
 rw[(W0 m).2.2.2];split
 · exact iL m 4 (AO _)
 · intro b hb;simp at hb
theorem Wi(k:Int):BC k=[]∨(1≤k∧k≤56∧BC k∈Co):=by
 by_cases h:1≤k∧k≤56
 · obtain⟨j,rfl⟩:∃ j:Nat,k=(j:Int)+1:=⟨(k-1).toNat,by omega⟩;right;refine⟨h.1,h.2,?_⟩
   have hj:j<Co.length:=by show j<56;omega
   rw[Nr j (by omega),BN,AF hj];exact Eg _
 · left;rw[BC,Bt]
   have e:(decide (1≤k)&&decide (k≤56))=false:=by
    rw[HD,Br,Br];omega
   simp only[AD,Ay,AQ,Cq,CB,e];rfl
theorem rL(k:Int):∀ b∈BC k,b ∉ ([32,45,47,58,61,124]:List UInt8):=by
 have key:∀ w∈Co,∀ b∈w,b ∉ ([32,45,47,58,61,124]:List UInt8):=by decide
 rcases Wi k with h|⟨_,_,h⟩
 · rw[h];intro b hb;simp at hb
 · exact key _ h
end
end
end Go.Ag
