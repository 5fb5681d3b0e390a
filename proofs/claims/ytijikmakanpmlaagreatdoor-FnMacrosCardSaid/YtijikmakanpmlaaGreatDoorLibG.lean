/- Part 7 of what FnMacros needs. No conditions. -/
import Derived.Test.YtijikmakanpmlaaGreatDoorLibF
namespace Go.Ag
set_option linter.unusedSimpArgs false
set_option linter.unusedVariables false
noncomputable section
section
set_option maxRecDepth 8000
def pR:DCode:=(.seq [1,0] (.region [oa 0 4 (.mv (.c (.bool false)))]) (.seq [] (.seq [9,8,7,1] (.region [on 0 7 0,oa 1 8 (.len (.t 7)),oi 2 9 0]) (.block 0 (.loop [1,7,8,9] 1 (.seq [10,9,8,7,1] (.region [oa 0 10 (.bin .lss (.t 9) (.t 8))]) (.seq [9,8,7,1] (.cond (.t 10) .skip (.exit 0)) (.seq [9,8,7,1] (.block 1 (.seq [9,8,7,6,1] (.region [oa 0 11 (.indexA 1 (.t 7) (.t 9)),oa 1 12 (.loadH none (.t 11)),om 2 6 12]) (.seq [15,9,8,7,1] (.region [om 0 13 6,om 1 14 1,oa 2 15 (.bin .eql (.t 13) (.t 14))]) (.cond (.t 15) (.seq [4] (.region [oa 0 4 (.mv (.c (.bool true)))]) .ret) .skip)))) (.region [oa 0 16 (.bin .add (.t 9) (.c (.int .i64 1))),om 1 9 16]))))))) (.seq [4] (.region [oa 0 4 (.mv (.c (.bool false)))]) .ret)))
def Hi:Fn:=⟨⟨2,17,0,true,[.tmp 4],pR⟩,[.one .frz (.sl (.one (.int .i64))),.one .frz (.int .i64)],.one (.one .own (.bool))⟩
theorem pB:Hi.A:=Bp trivial
def NA:List (Int)×Int→Bool:=Hi.V
def S3:List (Int)×Int→Prop:=Hi.O
theorem pc:Hi.B:=Bq trivial (by kernel_rfl) (fun x=>by kernel_rfl)
def oQ:DCode:=(.seq [0] (.region [oa 0 2 (.mv (.c .nils))]) (.seq [3] (.region [on 0 7 0,oF 1 8 G6 [(.t 7)],om 2 3 8]) (.seq [3] (.region [on 0 9 3,⟨1,some 10,.mark LP W5 (.t 9) (.c (.int .i64 0)),none,[]⟩]) (.seq [4,3] (.region [oa 0 4 (.mv (.c .nils))]) (.seq [4] (.seq [13,12,11,4] (.region [on 0 11 3,oa 1 12 (.len (.t 11)),oi 2 13 0]) (.block 0 (.loop [4,11,12,13] 1 (.seq [14,13,12,11,4] (.region [oa 0 14 (.bin .lss (.t 13) (.t 12))]) (.seq [13,12,11,4] (.cond (.t 14) .skip (.exit 0)) (.seq [13,12,11,4] (.block 1 (.seq [13,12,11,6,4] (.region [oa 0 15 (.indexA 1 (.t 11) (.t 13)),ob 1 16 (.loadH none (.t 15)),om 2 6 16]) (.seq [24,13,12,11,6,4] (.region [om 0 17 6,oa 1 18 (.bin .neq (.t 17) (.c (.int .i64 0))),om 2 19 18,⟨3,some 20,.a true (.mv (.t 4)) none,(some (19,true)),[]⟩,og 4 21 (.mv (.t 6)) 19 true,⟨5,some 22,.call false Hi.S Hi.P Hi.D [(.t 20),(.t 21)],(some (19,true)),[]⟩,og 6 23 (.un .not (.t 22)) 19 true,oa 7 24 (.pick (.t 19) (.t 23) (.c (.bool false)))]) (.cond (.t 24) (.region [om 0 25 4,om 1 26 6,⟨2,some 27,.a false (.litSlice 1 1 [(.int .i64 0)] [(0,1,(.t 26))]) (some (.one (.int .i64))),none,[]⟩,oa 3 28 (.app 1 (.t 25) (.t 27)),om 4 4 28]) .skip)))) (.region [oa 0 29 (.bin .add (.t 13) (.c (.int .i64 1))),om 1 13 29]))))))) (.seq [2] (.region [om 0 30 4,om 1 2 30]) .ret))))))
def Ha:Fn:=⟨⟨1,31,0,false,[.tmp 2],oQ⟩,[.one .frz (.sl (.one (.int .i64)))],.one (.one .own (.sl (.one (.int .i64))))⟩
theorem cf:Ha.A:=Bp ⟨bJ,qv,pB,trivial⟩
def Js:List (Int)→List (Int):=Ha.V
def Pq:List (Int)→Prop:=Ha.O
theorem b5:Ha.B:=Bq ⟨bE,pc,trivial⟩ (by kernel_rfl) (fun x=>by kernel_rfl)
def oq:DCode:=(.seq [2,0] (.region [oa 0 2 (.allocB 0 [(.int .i64 0),.nils])]) (.seq [2,0] (.seq [9,2,0] (.region [on 0 7 0,oF 1 8 Hb [(.t 7)],oa 2 9 (.un .not (.t 8))]) (.cond (.t 9) (.seq [2] (.region [oa 0 10 (.build [(.int .i64 0),.nils] []),os 1 (.storeB 0 2 (.t 2) (.t 10))]) .ret) .skip)) (.seq [3,2,0] (.region [oa 0 3 (.allocB 1 [(.int .i64 0),.nils])]) (.seq [4,3,2,0] (.region [oa 0 4 (.mv (.c .nils))]) (.seq [4,3,2] (.seq [13,12,11,4,3,2] (.region [on 0 11 0,oa 1 12 (.len (.t 11)),oi 2 13 0]) (.block 0 (.loop [2,3,4,11,12,13] 1 (.seq [14,13,12,11,4,3,2] (.region [oa 0 14 (.bin .lss (.t 13) (.t 12))]) (.seq [13,12,11,4,3,2] (.cond (.t 14) .skip (.exit 0)) (.seq [13,12,11,4,3,2] (.block 1 (.seq [13,12,11,6,4,3,2] (.region [oa 0 15 (.indexA 5 (.t 11) (.t 13)),ob 1 16 (.loadH (some 5) (.t 15)),oa 2 6 (.allocB 2 [(.int .i64 0),(.int .i64 0),(.int .i64 0),(.int .i64 0),(.int .i64 0)]),os 3 (.storeB 2 5 (.t 6) (.t 16))]) (.seq [13,12,11,6,4,3,2] (.seq [26,13,12,11,6,4,3,2] (.region [oa 0 17 (.fieldA 1 (.t 6)),oa 1 18 (.fieldA 0 (.t 17)),oa 2 19 (.loadB 2 none (.t 18)),oa 3 20 (.bin .eql (.t 19) (.c (.int .i64 2))),om 4 21 20,og 5 22 (.fieldA 1 (.t 6)) 21 false,og 6 23 (.fieldA 0 (.t 22)) 21 false,og 7 24 (.loadB 2 none (.t 23)) 21 false,og 8 25 (.bin .eql (.t 24) (.c (.int .i64 8))) 21 false,oa 9 26 (.pick (.t 21) (.c (.bool true)) (.t 25))]) (.cond (.t 26) (.region [oa 0 27 (.fieldA 0 (.t 3)),oa 1 28 (.loadB 1 none (.t 27)),oa 2 29 (.fieldA 1 (.t 6)),oa 3 30 (.fieldA 2 (.t 29)),oa 4 31 (.loadB 2 none (.t 30)),oa 5 32 (.bin .or (.t 28) (.t 31)),oa 6 33 (.fieldA 0 (.t 3)),os 7 (.storeB 1 1 (.t 33) (.t 32))]) .skip)) (.region [om 0 34 4,oa 1 35 (.fieldA 1 (.t 6)),oa 2 36 (.fieldA 1 (.t 35)),ob 3 37 (.loadB 2 none (.t 36)),⟨4,some 38,.a false (.litSlice 1 1 [(.int .i64 0)] [(0,1,(.t 37))]) (some (.one (.int .i64))),none,[]⟩,oa 5 39 (.app 1 (.t 34) (.t 38)),om 6 4 39])))) (.region [oa 0 40 (.bin .add (.t 13) (.c (.int .i64 1))),om 1 13 40]))))))) (.seq [3,2] (.region [on 0 41 4,oF 1 42 Ha [(.t 41)],oa 2 43 (.fieldA 1 (.t 3)),os 3 (.storeB 1 1 (.t 43) (.t 42))]) (.seq [2] (.region [ob 0 44 (.loadB 1 (some 2) (.t 3)),os 1 (.storeB 0 2 (.t 2) (.t 44))]) .ret)))))))
def G2:Fn:=⟨⟨1,45,3,false,[.cell 2 (some 2)],oq⟩,[.one .frz (.sl MM)],.one (.agg [(.own,.int .i64),(.own,.sl (.one (.int .i64)))])⟩
theorem bI:G2.A:=Bp ⟨ct,cf,trivial⟩
def AG:List (Int×Int×Int×Int×Int)→Int×List (Int):=G2.V
def Pk:List (Int×Int×Int×Int×Int)→Prop:=G2.O
theorem bA:G2.B:=Bq ⟨cn,b5,trivial⟩ (by kernel_rfl) (fun x=>by kernel_rfl)
end
section
set_option maxRecDepth 100000
def Jd(x:List (Int×Int×Int×Int×Int))(x0:(Int×Int)):Bool:=(iLt x0.1 (lLen x))
def Kf(x:List (Int×Int×Int×Int×Int))(x0:(Int×Int)):(Int×Int):=((iAdd .i64 x0.1 1),(bSel (bOr (iEq (lGet x (iNat x0.1) (0,0,0,0,0)).2.1 2) (iEq (lGet x (iNat x0.1) (0,0,0,0,0)).2.1 8)) (iOr .i64 x0.2 (lGet x (iNat x0.1) (0,0,0,0,0)).2.2.2.1) x0.2))
def Ja(x0:(Int×(List Int))):Bool:=(iLe x0.1 56)
def MZ(x:List (Int×Int×Int×Int×Int))(x0:(Int×(List Int)))(x1:Int):Bool:=(bAnd (iLt x1 (lLen x)) (bNot (iEq (lGet x (iNat x1) (0,0,0,0,0)).2.2.1 x0.1)))
def O9(x1:Int):Int:=(iAdd .i64 x1 1)
def Kd(x:List (Int×Int×Int×Int×Int))(x0:(Int×(List Int))):(Int×(List Int)):=((iAdd .i64 x0.1 1),(bSel (iLt (Al (MZ x x0) O9 0) (lLen x)) (lApp x0.2 [x0.1]) x0.2))
def Sb(x:List (Int×Int×Int×Int×Int))(x0:(Int×Int)):Prop:=(((iLt x0.1 (lLen x))=true→(((((0:Int)≤x0.1)∧(x0.1<(((List.length x):Int))))∧(((iNat x0.1)<(List.length x))∧(((iEq (lGet x (iNat x0.1) (0,0,0,0,0)).2.1 2)=true→True)∧((iEq (lGet x (iNat x0.1) (0,0,0,0,0)).2.1 2)=false→((((0:Int)≤x0.1)∧(x0.1<(((List.length x):Int))))∧((iNat x0.1)<(List.length x)))))))∧(((bOr (iEq (lGet x (iNat x0.1) (0,0,0,0,0)).2.1 2) (iEq (lGet x (iNat x0.1) (0,0,0,0,0)).2.1 8))=true→((((0:Int)≤x0.1)∧(x0.1<(((List.length x):Int))))∧((iNat x0.1)<(List.length x))))∧((bOr (iEq (lGet x (iNat x0.1) (0,0,0,0,0)).2.1 2) (iEq (lGet x (iNat x0.1) (0,0,0,0,0)).2.1 8))=false→True))))∧((iLt x0.1 (lLen x))=false→True))
def R6(x:List (Int×Int×Int×Int×Int))(x0:(Int×(List Int)))(x1:Int):Prop:=(((iLt x1 (lLen x))=true→((((0:Int)≤x1)∧(x1<(((List.length x):Int))))∧(((iNat x1)<(List.length x))∧(((iEq (lGet x (iNat x1) (0,0,0,0,0)).2.2.1 x0.1)=true→(AA (((List.length x0.2)+(List.length [x0.1]))*1)))∧((iEq (lGet x (iNat x1) (0,0,0,0,0)).2.2.1 x0.1)=false→True)))))∧((iLt x1 (lLen x))=false→True))
def Wf(x:List (Int×Int×Int×Int×Int))(x0:(Int×(List Int))):Prop:=(((iLe x0.1 56)=true→(LoopOk (MZ x x0) O9 (R6 x x0) 0))∧((iLe x0.1 56)=false→True))
@[irreducible] def FJ(x:List (Int×Int×Int×Int×Int)):Int×List (Int):=(bSel (bNot (Ib x)) (0,[]) ((Al (Jd x) (Kf x) (0,0)).2,(Al Ja (Kd x) (1,[])).2))
@[irreducible] def Wr(x:List (Int×Int×Int×Int×Int)):Prop:=((SQ x)∧(((bNot (Ib x))=true→True)∧((bNot (Ib x))=false→((LoopOk (Jd x) (Kf x) (Sb x) (0,0))∧(LoopOk Ja (Kd x) (Wf x) (1,[]))))))
def SE(x:List (Int)×Int)(x0:Int):Bool:=(bAnd (iLt x0 (lLen x.1)) (bNot (iEq (lGet x.1 (iNat x0) 0) x.2)))
def Wv(x0:Int):Int:=(iAdd .i64 x0 1)
def Wt(x:List (Int)×Int)(x0:Int):Prop:=(((iLt x0 (lLen x.1))=true→((((0:Int)≤x0)∧(x0<(((List.length x.1):Int))))∧((iNat x0)<(List.length x.1))))∧((iLt x0 (lLen x.1))=false→True))
theorem dc (x):NA x=(iLt (Al (SE x) Wv 0) (lLen x.1)):=(Hi.v x).trans (by kernel_rfl)
theorem cW (x):S3 x=(LoopOk (SE x) Wv (Wt x) 0):=(Hi.o x).trans (by kernel_rfl)
def Pb(x:List (Int))(x0:((List Int)×Int)):Bool:=(iLt x0.2 (lLen (Dd (CA x) 0).1))
def Si(x:List (Int))(x0:((List Int)×Int)):((List Int)×Int):=((bSel (bAnd (iNe (lGet (Dd (CA x) 0).1 (iNat x0.2) 0) 0) (bNot (NA (x0.1,(lGet (Dd (CA x) 0).1 (iNat x0.2) 0))))) (lApp x0.1 [(lGet (Dd (CA x) 0).1 (iNat x0.2) 0)]) x0.1),(iAdd .i64 x0.2 1))
def Wi(x:List (Int))(x0:((List Int)×Int)):Prop:=(((iLt x0.2 (lLen (Dd (CA x) 0).1))=true→((((0:Int)≤x0.2)∧(x0.2<(((List.length (Dd (CA x) 0).1):Int))))∧(((iNat x0.2)<(List.length (Dd (CA x) 0).1))∧((((iNe (lGet (Dd (CA x) 0).1 (iNat x0.2) 0) 0)=true→(S3 (x0.1,(lGet (Dd (CA x) 0).1 (iNat x0.2) 0))))∧((iNe (lGet (Dd (CA x) 0).1 (iNat x0.2) 0) 0)=false→True))∧(((bAnd (iNe (lGet (Dd (CA x) 0).1 (iNat x0.2) 0) 0) (bNot (NA (x0.1,(lGet (Dd (CA x) 0).1 (iNat x0.2) 0)))))=true→(AA (((List.length x0.1)+(List.length [(lGet (Dd (CA x) 0).1 (iNat x0.2) 0)]))*1)))∧((bAnd (iNe (lGet (Dd (CA x) 0).1 (iNat x0.2) 0) 0) (bNot (NA (x0.1,(lGet (Dd (CA x) 0).1 (iNat x0.2) 0)))))=false→True))))))∧((iLt x0.2 (lLen (Dd (CA x) 0).1))=false→True))
theorem oX (x):Js x=(Al (Pb x) (Si x) ([],0)).1:=(Ha.v x).trans (by kernel_rfl)
theorem o6 (x):Pq x=((Pe x)∧((((List.length (CA x))=(List.length (CA x)))∧(DMk.ok (DMk.mk (RT.one (CT.sl (RT.one (CT.int IntKind.i64)))) false Ta Dd true) (CA x)))∧(LoopOk (Pb x) (Si x) (Wi x) ([],0)))):=(Ha.o x).trans (by kernel_rfl)
def Jc(x:List (Int×Int×Int×Int×Int))(x0:((List Int)×(Int×Int))):Bool:=(iLt x0.2.1 (lLen x))
def Je(x:List (Int×Int×Int×Int×Int))(x0:((List Int)×(Int×Int))):((List Int)×(Int×Int)):=((lApp x0.1 [(lGet x (iNat x0.2.1) (0,0,0,0,0)).2.2.1]),(iAdd .i64 x0.2.1 1),(bSel (bOr (iEq (lGet x (iNat x0.2.1) (0,0,0,0,0)).2.1 2) (iEq (lGet x (iNat x0.2.1) (0,0,0,0,0)).2.1 8)) (iOr .i64 x0.2.2 (lGet x (iNat x0.2.1) (0,0,0,0,0)).2.2.2.1) x0.2.2))
def RX(x:List (Int×Int×Int×Int×Int))(x0:((List Int)×(Int×Int))):Prop:=(((iLt x0.2.1 (lLen x))=true→((((0:Int)≤x0.2.1)∧(x0.2.1<(((List.length x):Int))))∧(((iNat x0.2.1)<(List.length x))∧(AA (((List.length x0.1)+(List.length [(lGet x (iNat x0.2.1) (0,0,0,0,0)).2.2.1]))*1)))))∧((iLt x0.2.1 (lLen x))=false→True))
theorem bK (x):AG x=(bSel (bNot (CW x)) (0,[]) ((Al (Jc x) (Je x) ([],0,0)).2.2,(Js (Al (Jc x) (Je x) ([],0,0)).1))):=(G2.v x).trans (by kernel_rfl)
theorem nH (x):Pk x=((Pt x)∧(((bNot (CW x))=true→True)∧((bNot (CW x))=false→((LoopOk (Jc x) (Je x) (RX x) ([],0,0))∧(Pq (Al (Jc x) (Je x) ([],0,0)).1))))):=(G2.o x).trans (by kernel_rfl)
attribute [irreducible] NA S3 Js Pq AG Pk
end
section
set_option maxRecDepth 8000
def ng:DCode:=(.seq [4,2,1] (.region [oa 0 2 (.boxB 0 2 (.t 0)),oa 1 4 (.allocB 1 [(.int .i64 0),.nils])]) (.seq [5,4,2,1] (.region [oa 0 9 (.fieldA 0 (.t 2)),ob 1 10 (.loadB 0 none (.t 9)),oa 2 11 (.build [(.int .i64 0),.nils] [(0,1,(.t 10))]),oa 3 5 (.allocB 2 [(.int .i64 0),.nils]),os 4 (.storeB 2 2 (.t 5) (.t 11))]) (.seq [6,5,4,1] (.region [oa 0 12 (.fieldA 1 (.t 2)),oa 1 13 (.loadB 0 none (.t 12)),oF 2 14 G6 [(.t 13)],om 3 6 14]) (.seq [6,5,4] (.seq [17,16,15,6,5,4] (.region [on 0 15 1,oa 1 16 (.len (.t 15)),oi 2 17 0]) (.block 0 (.loop [4,5,6,15,16,17] 1 (.seq [18,17,16,15,6,5,4] (.region [oa 0 18 (.bin .lss (.t 17) (.t 16))]) (.seq [17,16,15,6,5,4] (.cond (.t 18) .skip (.exit 0)) (.seq [17,16,15,6,5,4] (.block 1 (.seq [17,16,15,8,6,5,4] (.region [oa 0 19 (.indexA 2 (.t 15) (.t 17)),ob 1 20 (.loadH (some 2) (.t 19)),oa 2 8 (.allocB 3 [(.int .i64 0),(.int .i64 0)]),os 3 (.storeB 3 2 (.t 8) (.t 20))]) (.seq [17,16,15,8,6,5,4] (.region [oa 0 21 (.fieldA 0 (.t 5)),oa 1 22 (.loadB 2 none (.t 21)),oa 2 23 (.fieldA 1 (.t 8)),oa 3 24 (.loadB 3 none (.t 23)),oa 4 25 (.bin .or (.t 22) (.t 24)),oa 5 26 (.fieldA 0 (.t 5)),os 6 (.storeB 2 1 (.t 26) (.t 25))]) (.region [om 0 27 6,oa 1 28 (.fieldA 0 (.t 8)),ob 2 29 (.loadB 3 none (.t 28)),⟨3,some 30,.a false (.litSlice 1 1 [(.int .i64 0)] [(0,1,(.t 29))]) (some (.one (.int .i64))),none,[]⟩,oa 4 31 (.app 1 (.t 27) (.t 30)),om 5 6 31])))) (.region [oa 0 32 (.bin .add (.t 17) (.c (.int .i64 1))),om 1 17 32]))))))) (.seq [5,4] (.region [on 0 33 6,oF 1 34 Ha [(.t 33)],oa 2 35 (.fieldA 1 (.t 5)),os 3 (.storeB 2 1 (.t 35) (.t 34))]) (.seq [4] (.region [ob 0 36 (.loadB 2 (some 2) (.t 5)),os 1 (.storeB 1 2 (.t 4) (.t 36))]) .ret))))))
def G1:Fn:=⟨⟨2,37,4,false,[.cell 4 (some 2)],ng⟩,[.agg [(.frz,.int .i64),(.frz,.sl (.one (.int .i64)))],.one .frz (.sl (.cons (.int .i64) (.one (.int .i64))))],.one (.agg [(.own,.int .i64),(.own,.sl (.one (.int .i64)))])⟩
theorem bq:G1.A:=Bp ⟨bJ,cf,trivial⟩
def Jm:(Int×List (Int))×(List (Int×Int))→Int×List (Int):=G1.V
def M7:(Int×List (Int))×(List (Int×Int))→Prop:=G1.O
theorem br:G1.B:=Bq ⟨bE,b5,trivial⟩ (by kernel_rfl) (fun x=>by kernel_rfl)
def mf:DCode:=(.seq [1,0] (.region [oa 0 4 (.mv (.c .nils))]) (.seq [1,0] (.seq [19,1,0] (.region [on 0 12 0,oF 1 13 Hb [(.t 12)],oa 2 14 (.un .not (.t 13)),om 3 15 14,⟨4,some 16,.a true (.mv (.t 1)) none,(some (15,false)),[]⟩,⟨5,some 17,.call false Eb.S Eb.P Eb.D [(.t 16)],(some (15,false)),[]⟩,og 6 18 (.un .not (.t 17)) 15 false,oa 7 19 (.pick (.t 15) (.c (.bool true)) (.t 18))]) (.cond (.t 19) (.seq [4] (.region [oa 0 4 (.mv (.c .nils))]) .ret) .skip)) (.seq [5,1] (.region [on 0 20 0,oF 1 21 G2 [(.t 20)],oa 2 5 (.allocB 0 [(.int .i64 0),.nils]),os 3 (.storeB 0 2 (.t 5) (.t 21))]) (.seq [6,5,1] (.region [oa 0 6 (.mv (.c .nils))]) (.seq [7,6,5,1] (.region [⟨0,some 7,.aw [(0,2)] false (.mv (.c .nils)) none,none,[]⟩]) (.seq [6] (.seq [24,23,22,7,6,5] (.region [on 0 22 1,oa 1 23 (.len (.t 22)),oi 2 24 0]) (.block 0 (.loop [5,6,7,22,23,24] 1 (.seq [25,24,23,22,7,6,5] (.region [oa 0 25 (.bin .lss (.t 24) (.t 23))]) (.seq [24,23,22,7,6,5] (.cond (.t 25) .skip (.exit 0)) (.seq [24,23,22,7,6,5] (.block 1 (.seq [24,23,22,9,7,6,5] (.region [oa 0 26 (.indexA 3 (.t 22) (.t 24)),ob 1 27 (.loadH (some 3) (.t 26)),oa 2 9 (.allocB 1 [(.int .i64 0),(.int .i64 0),(.int .i64 0)]),os 3 (.storeB 1 3 (.t 9) (.t 27))]) (.seq [24,23,22,10,9,7,6,5] (.region [oa 0 28 (.fieldA 1 (.t 9)),ob 1 29 (.loadB 1 none (.t 28)),oa 2 30 (.fieldA 2 (.t 9)),ob 3 31 (.loadB 1 none (.t 30)),oa 4 32 (.build [(.int .i64 0),(.int .i64 0)] [(0,1,(.t 29)),(1,1,(.t 31))]),oa 5 10 (.allocB 2 [(.int .i64 0),(.int .i64 0)]),os 6 (.storeB 2 2 (.t 10) (.t 32))]) (.seq [24,23,22,7,6,5] (.seq [34,24,23,22,10,7,6,5] (.region [oa 0 33 (.fieldA 0 (.t 9)),oa 1 34 (.loadB 1 none (.t 33))]) (.block 2 (.seq [35,34,24,23,22,10,7,6,5] (.region [oa 0 36 (.bin .eql (.t 34) (.c (.int .i64 0))),om 1 35 36]) (.cond (.t 35) (.regionU [om 0 37 6,oa 1 38 (.loadB 0 (some 2) (.t 5)),on 2 39 7,ob 4 41 (.loadB 2 (some 2) (.t 10)),⟨5,some 42,.a false (.litSlice 2 1 [(.int .i64 0),(.int .i64 0)] [(0,2,(.t 41))]) (some (.cons (.int .i64) (.one (.int .i64)))),none,[4]⟩,xA 3 40 (.appN 2 (.c .nils) (.t 39)) [2],xA 6 43 (.app 2 (.t 40) (.t 42)) [2,3,4,5],xF 7 44 G1 [(.t 38),(.t 43)] [1,2,3,4,5,6],⟨8,some 45,.a false (.litSlice 2 1 [(.int .i64 0),.nils] [(0,2,(.t 44))]) (some (.cons (.int .i64) (.one (.sl (.one (.int .i64)))))),none,[1,2,3,4,5,6,7]⟩,xA 9 46 (.app 2 (.t 37) (.t 45)) (rg 9),xA 10 6 (.mv (.t 46)) (rg 10)]) (.seq [47,34,24,23,22,10,7,6,5] (.region [oa 0 48 (.bin .eql (.t 34) (.c (.int .i64 1))),om 1 47 48]) (.cond (.t 47) (.region [om 0 49 7,ob 1 50 (.loadB 2 (some 2) (.t 10)),⟨2,some 51,.a false (.litSlice 2 1 [(.int .i64 0),(.int .i64 0)] [(0,2,(.t 50))]) (some (.cons (.int .i64) (.one (.int .i64)))),none,[]⟩,⟨3,some 52,.aw [(0,2)] false (.app 2 (.t 49) (.t 51)) none,none,[]⟩,⟨4,some 7,.aw [(0,2)] false (.mv (.t 52)) none,none,[]⟩]) (.seq [53,24,23,22,10,7,6,5] (.region [oa 0 54 (.bin .eql (.t 34) (.c (.int .i64 2))),om 1 53 54]) (.cond (.t 53) (.seq [24,23,22,11,7,6,5] (.region [on 0 55 7,oa 1 56 (.loadB 2 (some 2) (.t 10)),oF 2 57 Hc [(.t 55),(.t 56)],om 3 11 57]) (.region [on 0 58 7,om 1 59 11,xA 2 60 (.slice 2 (.t 58) none (some (.t 59))) (rg 2),on 3 61 7,om 4 62 11,xA 5 63 (.bin .add (.t 62) (.c (.int .i64 1))) [4],xA 6 64 (.slice 2 (.t 61) (some (.t 63)) none) [3,4,5],⟨7,some 65,.aw [(0,2)] false (.app 2 (.t 60) (.t 64)) none,none,[0,1,2,3,4,5,6]⟩,⟨8,some 7,.aw [(0,2)] false (.mv (.t 65)) none,none,[0,1,2,3,4,5,6,7]⟩])) .skip)))))))) (.region [om 0 66 6,oa 1 67 (.loadB 0 (some 2) (.t 5)),on 2 68 7,oF 3 69 G1 [(.t 67),(.t 68)],⟨4,some 70,.a false (.litSlice 2 1 [(.int .i64 0),.nils] [(0,2,(.t 69))]) (some (.cons (.int .i64) (.one (.sl (.one (.int .i64)))))),none,[]⟩,oa 5 71 (.app 2 (.t 66) (.t 70)),om 6 6 71]))))) (.region [oa 0 72 (.bin .add (.t 24) (.c (.int .i64 1))),om 1 24 72]))))))) (.seq [4] (.region [om 0 73 6,om 1 4 73]) .ret)))))))
def I4:Fn:=⟨⟨2,74,3,false,[.tmp 4],mf⟩,[.one .frz (.sl MM),.one .frz (.sl I0)],.one (.one .own (.sl (.cons (.int .i64) (.one (.sl (.one (.int .i64)))))))⟩
theorem lZ:I4.A:=Bp ⟨ct,SK,bI,bq,cE,bq,trivial⟩
def A0:(List (Int×Int×Int×Int×Int))×(List (Int×Int×Int))→List (Int×List (Int)):=I4.V
def RN:(List (Int×Int×Int×Int×Int))×(List (Int×Int×Int))→Prop:=I4.O
theorem l7:I4.B:=Bq ⟨cn,SH,bA,br,de,br,trivial⟩ (by kernel_rfl) (fun x=>by kernel_rfl)
end
section
set_option maxRecDepth 100000
def Sd(x:(List (Int×Int×Int×Int×Int))×(List (Int×Int×Int×Int×Int)))(x0:(Int×Int)):Bool:=(iLt x0.1 (lLen x.2))
def RV(x:(List (Int×Int×Int×Int×Int))×(List (Int×Int×Int×Int×Int)))(x0:(Int×Int)):(Int×Int):=((iAdd .i64 x0.1 1),(iOr .i64 x0.2 (lGet x.2 (iNat x0.1) (0,0,0,0,0)).2.2.2.1))
def M6(x0:((List Int)×Int)):Bool:=(iLe x0.2 56)
def Kg(x:(List (Int×Int×Int×Int×Int))×(List (Int×Int×Int×Int×Int)))(x1:(Bool×Int)):Bool:=(iLt x1.2 (lLen x.2))
def Kh(x:(List (Int×Int×Int×Int×Int))×(List (Int×Int×Int×Int×Int)))(x0:((List Int)×Int))(x1:(Bool×Int)):(Bool×Int):=((bOr x1.1 (iEq (lGet x.2 (iNat x1.2) (0,0,0,0,0)).2.2.1 x0.2)),(iAdd .i64 x1.2 1))
def H8(x:(List (Int×Int×Int×Int×Int))×(List (Int×Int×Int×Int×Int)))(x1:(Bool×Int)):Bool:=(iLt x1.2 (lLen (FJ x.1).2))
def H7(x:(List (Int×Int×Int×Int×Int))×(List (Int×Int×Int×Int×Int)))(x0:((List Int)×Int))(x1:(Bool×Int)):(Bool×Int):=((bOr x1.1 (iEq (lGet (FJ x.1).2 (iNat x1.2) 0) x0.2)),(iAdd .i64 x1.2 1))
def O8(x:(List (Int×Int×Int×Int×Int))×(List (Int×Int×Int×Int×Int)))(x0:((List Int)×Int)):((List Int)×Int):=((bSel (Al (Kg x) (Kh x x0) ((Al (H8 x) (H7 x x0) (false,0)).1,0)).1 (lApp x0.1 [x0.2]) x0.1),(iAdd .i64 x0.2 1))
def Wd(x:(List (Int×Int×Int×Int×Int))×(List (Int×Int×Int×Int×Int)))(x0:(Int×Int)):Prop:=(((iLt x0.1 (lLen x.2))=true→((((0:Int)≤x0.1)∧(x0.1<(((List.length x.2):Int))))∧((iNat x0.1)<(List.length x.2))))∧((iLt x0.1 (lLen x.2))=false→True))
def Sg(x:(List (Int×Int×Int×Int×Int))×(List (Int×Int×Int×Int×Int)))(x1:(Bool×Int)):Prop:=(((iLt x1.2 (lLen (FJ x.1).2))=true→((x1.1=true→True)∧(x1.1=false→((((0:Int)≤x1.2)∧(x1.2<(((List.length (FJ x.1).2):Int))))∧((iNat x1.2)<(List.length (FJ x.1).2))))))∧((iLt x1.2 (lLen (FJ x.1).2))=false→True))
def RW(x:(List (Int×Int×Int×Int×Int))×(List (Int×Int×Int×Int×Int)))(x1:(Bool×Int)):Prop:=(((iLt x1.2 (lLen x.2))=true→((x1.1=true→True)∧(x1.1=false→((((0:Int)≤x1.2)∧(x1.2<(((List.length x.2):Int))))∧((iNat x1.2)<(List.length x.2))))))∧((iLt x1.2 (lLen x.2))=false→True))
def bh(x:(List (Int×Int×Int×Int×Int))×(List (Int×Int×Int×Int×Int)))(x0:((List Int)×Int)):Prop:=(((iLe x0.2 56)=true→((LoopOk (H8 x) (H7 x x0) (Sg x) (false,0))∧((LoopOk (Kg x) (Kh x x0) (RW x) ((Al (H8 x) (H7 x x0) (false,0)).1,0))∧(((Al (Kg x) (Kh x x0) ((Al (H8 x) (H7 x x0) (false,0)).1,0)).1=true→(AA (((List.length x0.1)+(List.length [x0.2]))*1)))∧((Al (Kg x) (Kh x x0) ((Al (H8 x) (H7 x x0) (false,0)).1,0)).1=false→True)))))∧((iLe x0.2 56)=false→True))
@[irreducible] def DB(x:(List (Int×Int×Int×Int×Int))×(List (Int×Int×Int×Int×Int))):Int×List (Int):=((Al (Sd x) (RV x) (0,(FJ x.1).1)).2,(Al M6 (O8 x) ([],1)).1)
@[irreducible] def Pg(x:(List (Int×Int×Int×Int×Int))×(List (Int×Int×Int×Int×Int))):Prop:=((Wr x.1)∧((LoopOk (Sd x) (RV x) (Wd x) (0,(FJ x.1).1))∧(LoopOk M6 (O8 x) (bh x) ([],1))))
def MR(x:(List (Int×Int×Int×Int×Int))×(List (Int×Int×Int)))(x0:((List (Int×(List Int)))×((List (Int×(Int×(Int×(Int×Int)))))×Int))):Bool:=(iLt x0.2.2 (lLen x.2))
def RG(x:(List (Int×Int×Int×Int×Int))×(List (Int×Int×Int)))(x0:((List (Int×(List Int)))×((List (Int×(Int×(Int×(Int×Int)))))×Int))):((List (Int×(List Int)))×((List (Int×(Int×(Int×(Int×Int)))))×Int)):=((bSel (iNe (lGet x.2 (iNat x0.2.2) (0,0,0)).1 1) (lApp (bSel (iNe (lGet x.2 (iNat x0.2.2) (0,0,0)).1 2) (lApp x0.1 [(DB (x.1,(lApp x0.2.1 [(0,(AF (lGet x.2 (iNat x0.2.2) (0,0,0))))])))]) x0.1) [(DB (x.1,(Dy ((bSel (iNe (lGet x.2 (iNat x0.2.2) (0,0,0)).1 2) (lApp x0.2.1 [(0,(AF (lGet x.2 (iNat x0.2.2) (0,0,0))))]) x0.2.1),(BO ((bSel (iNe (lGet x.2 (iNat x0.2.2) (0,0,0)).1 2) (lApp x0.2.1 [(0,(AF (lGet x.2 (iNat x0.2.2) (0,0,0))))]) x0.2.1),(lGet x.2 (iNat x0.2.2) (0,0,0))))))))]) (bSel (iNe (lGet x.2 (iNat x0.2.2) (0,0,0)).1 2) (lApp x0.1 [(DB (x.1,(lApp x0.2.1 [(0,(AF (lGet x.2 (iNat x0.2.2) (0,0,0))))])))]) x0.1)),(bSel (iNe (lGet x.2 (iNat x0.2.2) (0,0,0)).1 1) (Dy ((bSel (iNe (lGet x.2 (iNat x0.2.2) (0,0,0)).1 2) (lApp x0.2.1 [(0,(AF (lGet x.2 (iNat x0.2.2) (0,0,0))))]) x0.2.1),(BO ((bSel (iNe (lGet x.2 (iNat x0.2.2) (0,0,0)).1 2) (lApp x0.2.1 [(0,(AF (lGet x.2 (iNat x0.2.2) (0,0,0))))]) x0.2.1),(lGet x.2 (iNat x0.2.2) (0,0,0)))))) (bSel (iNe (lGet x.2 (iNat x0.2.2) (0,0,0)).1 2) (lApp x0.2.1 [(0,(AF (lGet x.2 (iNat x0.2.2) (0,0,0))))]) x0.2.1)),(iAdd .i64 x0.2.2 1))
def RF(x:(List (Int×Int×Int×Int×Int))×(List (Int×Int×Int)))(x0:((List (Int×(List Int)))×((List (Int×(Int×(Int×(Int×Int)))))×Int))):Prop:=(((iLt x0.2.2 (lLen x.2))=true→((((0:Int)≤x0.2.2)∧(x0.2.2<(((List.length x.2):Int))))∧(((iNat x0.2.2)<(List.length x.2))∧((((iNe (lGet x.2 (iNat x0.2.2) (0,0,0)).1 2)=true→((LA (lGet x.2 (iNat x0.2.2) (0,0,0)))∧((AA (((List.length x0.2.1)+(List.length [(0,(AF (lGet x.2 (iNat x0.2.2) (0,0,0))))]))*5))∧((Pg (x.1,(lApp x0.2.1 [(0,(AF (lGet x.2 (iNat x0.2.2) (0,0,0))))])))∧(AA (((List.length x0.1)+(List.length [(DB (x.1,(lApp x0.2.1 [(0,(AF (lGet x.2 (iNat x0.2.2) (0,0,0))))])))]))*2))))))∧((iNe (lGet x.2 (iNat x0.2.2) (0,0,0)).1 2)=false→True))∧(((iNe (lGet x.2 (iNat x0.2.2) (0,0,0)).1 1)=true→((Np ((bSel (iNe (lGet x.2 (iNat x0.2.2) (0,0,0)).1 2) (lApp x0.2.1 [(0,(AF (lGet x.2 (iNat x0.2.2) (0,0,0))))]) x0.2.1),(lGet x.2 (iNat x0.2.2) (0,0,0))))∧((Pa ((bSel (iNe (lGet x.2 (iNat x0.2.2) (0,0,0)).1 2) (lApp x0.2.1 [(0,(AF (lGet x.2 (iNat x0.2.2) (0,0,0))))]) x0.2.1),(BO ((bSel (iNe (lGet x.2 (iNat x0.2.2) (0,0,0)).1 2) (lApp x0.2.1 [(0,(AF (lGet x.2 (iNat x0.2.2) (0,0,0))))]) x0.2.1),(lGet x.2 (iNat x0.2.2) (0,0,0))))))∧((Pg (x.1,(Dy ((bSel (iNe (lGet x.2 (iNat x0.2.2) (0,0,0)).1 2) (lApp x0.2.1 [(0,(AF (lGet x.2 (iNat x0.2.2) (0,0,0))))]) x0.2.1),(BO ((bSel (iNe (lGet x.2 (iNat x0.2.2) (0,0,0)).1 2) (lApp x0.2.1 [(0,(AF (lGet x.2 (iNat x0.2.2) (0,0,0))))]) x0.2.1),(lGet x.2 (iNat x0.2.2) (0,0,0))))))))∧(AA (((List.length (bSel (iNe (lGet x.2 (iNat x0.2.2) (0,0,0)).1 2) (lApp x0.1 [(DB (x.1,(lApp x0.2.1 [(0,(AF (lGet x.2 (iNat x0.2.2) (0,0,0))))])))]) x0.1))+(List.length [(DB (x.1,(Dy ((bSel (iNe (lGet x.2 (iNat x0.2.2) (0,0,0)).1 2) (lApp x0.2.1 [(0,(AF (lGet x.2 (iNat x0.2.2) (0,0,0))))]) x0.2.1),(BO ((bSel (iNe (lGet x.2 (iNat x0.2.2) (0,0,0)).1 2) (lApp x0.2.1 [(0,(AF (lGet x.2 (iNat x0.2.2) (0,0,0))))]) x0.2.1),(lGet x.2 (iNat x0.2.2) (0,0,0))))))))]))*2))))))∧((iNe (lGet x.2 (iNat x0.2.2) (0,0,0)).1 1)=false→True))))))∧((iLt x0.2.2 (lLen x.2))=false→True))
@[irreducible] def O5(x:(List (Int×Int×Int×Int×Int))×(List (Int×Int×Int))):List (Int×List (Int)):=(bSel (bOr (bNot (Ib x.1)) (bNot (Dc x.2))) [] (Al (MR x) (RG x) ([],[],0)).1)
@[irreducible] def aQ(x:(List (Int×Int×Int×Int×Int))×(List (Int×Int×Int))):Prop:=(((SQ x.1)∧(((bNot (Ib x.1))=true→True)∧((bNot (Ib x.1))=false→(SL x.2))))∧(((bOr (bNot (Ib x.1)) (bNot (Dc x.2)))=true→True)∧((bOr (bNot (Ib x.1)) (bNot (Dc x.2)))=false→(LoopOk (MR x) (RG x) (RF x) ([],[],0)))))
def Lu(x:(Int×List (Int))×(List (Int×Int)))(x0:((List Int)×(Int×Int))):Bool:=(iLt x0.2.1 (lLen x.2))
def MX(x:(Int×List (Int))×(List (Int×Int)))(x0:((List Int)×(Int×Int))):((List Int)×(Int×Int)):=((lApp x0.1 [(lGet x.2 (iNat x0.2.1) (0,0)).1]),(iAdd .i64 x0.2.1 1),(iOr .i64 x0.2.2 (lGet x.2 (iNat x0.2.1) (0,0)).2))
def RQ(x:(Int×List (Int))×(List (Int×Int)))(x0:((List Int)×(Int×Int))):Prop:=(((iLt x0.2.1 (lLen x.2))=true→((((0:Int)≤x0.2.1)∧(x0.2.1<(((List.length x.2):Int))))∧(((iNat x0.2.1)<(List.length x.2))∧(AA (((List.length x0.1)+(List.length [(lGet x.2 (iNat x0.2.1) (0,0)).1]))*1)))))∧((iLt x0.2.1 (lLen x.2))=false→True))
theorem nb (x):Jm x=((Al (Lu x) (MX x) ((CA x.1.2),0,x.1.1)).2.2,(Js (Al (Lu x) (MX x) ((CA x.1.2),0,x.1.1)).1)):=(G1.v x).trans (by kernel_rfl)
theorem m0 (x):M7 x=((Pe x.1.2)∧((LoopOk (Lu x) (MX x) (RQ x) ((CA x.1.2),0,x.1.1))∧(Pq (Al (Lu x) (MX x) ((CA x.1.2),0,x.1.1)).1))):=(G1.o x).trans (by kernel_rfl)
def RD(x:(List (Int×Int×Int×Int×Int))×(List (Int×Int×Int)))(x0:((List (Int×(List Int)))×((List (Int×Int))×Int))):Bool:=(iLt x0.2.2 (lLen x.2))
def RE(x:(List (Int×Int×Int×Int×Int))×(List (Int×Int×Int)))(x0:((List (Int×(List Int)))×((List (Int×Int))×Int))):((List (Int×(List Int)))×((List (Int×Int))×Int)):=((lApp (bSel (iEq (lGet x.2 (iNat x0.2.2) (0,0,0)).1 0) (lApp x0.1 [(Jm ((AG x.1),(lApp x0.2.1 [(lGet x.2 (iNat x0.2.2) (0,0,0)).2])))]) x0.1) [(Jm ((AG x.1),(bSel (iEq (lGet x.2 (iNat x0.2.2) (0,0,0)).1 0) x0.2.1 (bSel (iEq (lGet x.2 (iNat x0.2.2) (0,0,0)).1 1) (lApp x0.2.1 [(lGet x.2 (iNat x0.2.2) (0,0,0)).2]) (bSel (iEq (lGet x.2 (iNat x0.2.2) (0,0,0)).1 2) (lApp (lTake x0.2.1 (lN (lSub x0.2.1 0 (iNat (A7 (x0.2.1,(lGet x.2 (iNat x0.2.2) (0,0,0)).2)))))) (lSub x0.2.1 (iNat (iAdd .i64 (A7 (x0.2.1,(lGet x.2 (iNat x0.2.2) (0,0,0)).2)) 1)) (lN x0.2.1))) x0.2.1)))))]),(bSel (iEq (lGet x.2 (iNat x0.2.2) (0,0,0)).1 0) x0.2.1 (bSel (iEq (lGet x.2 (iNat x0.2.2) (0,0,0)).1 1) (lApp x0.2.1 [(lGet x.2 (iNat x0.2.2) (0,0,0)).2]) (bSel (iEq (lGet x.2 (iNat x0.2.2) (0,0,0)).1 2) (lApp (lTake x0.2.1 (lN (lSub x0.2.1 0 (iNat (A7 (x0.2.1,(lGet x.2 (iNat x0.2.2) (0,0,0)).2)))))) (lSub x0.2.1 (iNat (iAdd .i64 (A7 (x0.2.1,(lGet x.2 (iNat x0.2.2) (0,0,0)).2)) 1)) (lN x0.2.1))) x0.2.1))),(iAdd .i64 x0.2.2 1))
def RH(x:(List (Int×Int×Int×Int×Int))×(List (Int×Int×Int)))(x0:((List (Int×(List Int)))×((List (Int×Int))×Int))):Prop:=(((iLt x0.2.2 (lLen x.2))=true→((((0:Int)≤x0.2.2)∧(x0.2.2<(((List.length x.2):Int))))∧(((iNat x0.2.2)<(List.length x.2))∧((((iEq (lGet x.2 (iNat x0.2.2) (0,0,0)).1 0)=true→((AA ((List.length x0.2.1)*2))∧((AA (((List.length x0.2.1)+(List.length [(lGet x.2 (iNat x0.2.2) (0,0,0)).2]))*2))∧((M7 ((AG x.1),(lApp x0.2.1 [(lGet x.2 (iNat x0.2.2) (0,0,0)).2])))∧(AA (((List.length x0.1)+(List.length [(Jm ((AG x.1),(lApp x0.2.1 [(lGet x.2 (iNat x0.2.2) (0,0,0)).2])))]))*2))))))∧((iEq (lGet x.2 (iNat x0.2.2) (0,0,0)).1 0)=false→(((iEq (lGet x.2 (iNat x0.2.2) (0,0,0)).1 1)=true→(AA (((List.length x0.2.1)+(List.length [(lGet x.2 (iNat x0.2.2) (0,0,0)).2]))*2)))∧((iEq (lGet x.2 (iNat x0.2.2) (0,0,0)).1 1)=false→(((iEq (lGet x.2 (iNat x0.2.2) (0,0,0)).1 2)=true→((Nt (x0.2.1,(lGet x.2 (iNat x0.2.2) (0,0,0)).2))∧((((0:Int)≤(A7 (x0.2.1,(lGet x.2 (iNat x0.2.2) (0,0,0)).2)))∧((0≤(iNat (A7 (x0.2.1,(lGet x.2 (iNat x0.2.2) (0,0,0)).2))))∧(((iNat (A7 (x0.2.1,(lGet x.2 (iNat x0.2.2) (0,0,0)).2)))≤(List.length x0.2.1))∧(0<(List.length x0.2.1)))))∧((((0:Int)≤(iAdd .i64 (A7 (x0.2.1,(lGet x.2 (iNat x0.2.2) (0,0,0)).2)) 1))∧(((iNat (iAdd .i64 (A7 (x0.2.1,(lGet x.2 (iNat x0.2.2) (0,0,0)).2)) 1))≤(lN x0.2.1))∧(((lN x0.2.1)≤(List.length x0.2.1))∧(0<(List.length x0.2.1)))))∧((0<(List.length x0.2.1))∧(((List.length (lSub x0.2.1 0 (iNat (A7 (x0.2.1,(lGet x.2 (iNat x0.2.2) (0,0,0)).2)))))≤(List.length x0.2.1))∧(AA (((List.length (lSub x0.2.1 0 (iNat (A7 (x0.2.1,(lGet x.2 (iNat x0.2.2) (0,0,0)).2)))))+(List.length (lSub x0.2.1 (iNat (iAdd .i64 (A7 (x0.2.1,(lGet x.2 (iNat x0.2.2) (0,0,0)).2)) 1)) (lN x0.2.1))))*2))))))))∧((iEq (lGet x.2 (iNat x0.2.2) (0,0,0)).1 2)=false→True))))))∧((M7 ((AG x.1),(bSel (iEq (lGet x.2 (iNat x0.2.2) (0,0,0)).1 0) x0.2.1 (bSel (iEq (lGet x.2 (iNat x0.2.2) (0,0,0)).1 1) (lApp x0.2.1 [(lGet x.2 (iNat x0.2.2) (0,0,0)).2]) (bSel (iEq (lGet x.2 (iNat x0.2.2) (0,0,0)).1 2) (lApp (lTake x0.2.1 (lN (lSub x0.2.1 0 (iNat (A7 (x0.2.1,(lGet x.2 (iNat x0.2.2) (0,0,0)).2)))))) (lSub x0.2.1 (iNat (iAdd .i64 (A7 (x0.2.1,(lGet x.2 (iNat x0.2.2) (0,0,0)).2)) 1)) (lN x0.2.1))) x0.2.1)))))∧(AA (((List.length (bSel (iEq (lGet x.2 (iNat x0.2.2) (0,0,0)).1 0) (lApp x0.1 [(Jm ((AG x.1),(lApp x0.2.1 [(lGet x.2 (iNat x0.2.2) (0,0,0)).2])))]) x0.1))+(List.length [(Jm ((AG x.1),(bSel (iEq (lGet x.2 (iNat x0.2.2) (0,0,0)).1 0) x0.2.1 (bSel (iEq (lGet x.2 (iNat x0.2.2) (0,0,0)).1 1) (lApp x0.2.1 [(lGet x.2 (iNat x0.2.2) (0,0,0)).2]) (bSel (iEq (lGet x.2 (iNat x0.2.2) (0,0,0)).1 2) (lApp (lTake x0.2.1 (lN (lSub x0.2.1 0 (iNat (A7 (x0.2.1,(lGet x.2 (iNat x0.2.2) (0,0,0)).2)))))) (lSub x0.2.1 (iNat (iAdd .i64 (A7 (x0.2.1,(lGet x.2 (iNat x0.2.2) (0,0,0)).2)) 1)) (lN x0.2.1))) x0.2.1)))))]))*2)))))))∧((iLt x0.2.2 (lLen x.2))=false→True))
theorem ma (x):A0 x=(bSel (bOr (bNot (CW x.1)) (bNot (Ep x.2))) [] (Al (RD x) (RE x) ([],[],0)).1):=(I4.v x).trans (by kernel_rfl)
theorem me (x):RN x=(((Pt x.1)∧(((bNot (CW x.1))=true→True)∧((bNot (CW x.1))=false→(LG x.2))))∧(((bOr (bNot (CW x.1)) (bNot (Ep x.2)))=true→True)∧((bOr (bNot (CW x.1)) (bNot (Ep x.2)))=false→((Pk x.1)∧(LoopOk (RD x) (RE x) (RH x) ([],[],0)))))):=(I4.o x).trans (by kernel_rfl)
attribute [irreducible] Jm M7 A0 RN
end
theorem YD{a b:List Int}(ha:a.Pairwise (· < ·))(hb:b.Pairwise (· < ·))(h:∀ x,x∈a↔x∈b):a=b:=by
 induction a generalizing b with
 | nil=>
   cases b with
   |nil=>rfl
   |cons y b=>exact absurd ((h y).2 Fw) List.not_mem_nil
 | cons x a ih=>
   cases b with
   |nil=>exact absurd ((h x).1 Fw) List.not_mem_nil
   | cons y b=>
     obtain⟨a1,a2⟩:=List.pairwise_cons.1 ha;obtain⟨b1,b2⟩:=List.pairwise_cons.1 hb
     have e:x=y:=by
      rcases BE.1 ((h x).1 Fw) with e|e
      · exact e
      · rcases BE.1 ((h y).2 Fw) with g|g
        · exact g.symm
        · have:=a1 _ g;have:=b1 _ e;omega
     subst e;congr 1
     refine ih a2 b2 fun z=>⟨fun hz=>?_,fun hz=>?_⟩
     · rcases BE.1 ((h z).1 (List.mem_cons_of_mem _ hz)) with e|e
       · subst e;have:=a1 _ hz;omega
       · exact e
     · rcases BE.1 ((h z).2 (List.mem_cons_of_mem _ hz)) with e|e
       · subst e;have:=b1 _ hz;omega
       · exact e
theorem jB {α:Type} {c:Int→Bool} {f:Int→Int} {p:Int→Prop} (x:List α) (d:α) (q:α→Bool) (hl:x.length≤1048576)
 (hc:∀ i:Nat,i≤x.length→c (i:Int)=(decide (i<x.length)&&!q (x.getD i d))) (hf:∀ i:Nat,i<x.length→f (i:Int)=iAdd .i64 (i:Int) 1) (hp:∀ i:Nat,i≤x.length→p (i:Int)) :
 LoopOk c f p 0∧iLt (Al c f 0) (lLen x)=x.any q:=by
 obtain⟨h1,k,hk,h2,h3⟩:=Of (c:=c) (f:=f) (p:=p) (x0:=0) x.length (fun i=>(i:Int)) (fun i=>!q (x.getD i d)) rfl (fun i hi _=>hc i hi) (fun i hi _=>by rw[hf i hi,AQ (by unfold As;omega)];simp) (fun i hi _=>hp i hi)
 refine⟨h1,?_⟩
 rw[h2,An,Am,OD,Ar,List.any_eq_true]
 constructor
 · intro h
   have h4:¬ ∀ i,i<x.length→(!q (x.getD i d))=true:=fun hh=>by have:=h3.2 hh;omega
   simp only[Classical.not_forall,B9,ID] at h4;obtain⟨i,hi,g⟩:=h4;exact⟨_,KL x i d hi,g⟩
 · rintro⟨a,ha,g⟩
   obtain⟨i,hi,rfl⟩:=JS ha
   have h5:k≠x.length:=fun e=>by
    have:=h3.1 e i hi;rw[KX x d hi,g] at this;exact absurd this (by decide)
   omega
theorem gO(l:List Int)(v:Int)(hl:l.length≤1048576):S3 (l,v)∧NA (l,v)=decide (v∈l):=by
 rw[cW,dc]
 obtain⟨h1,h2⟩:=jB (c:=SE (l,v)) (f:=Wv) (p:=Wt (l,v)) l 0 (fun a=>decide (a=v)) hl
  (fun i hi=>by simp only[SE,Ax,An,Am,AH,Bc,BB,Ay,AK,GM])
  (fun i hi=>rfl) (fun i hi=>by
   simp only[Wt,An,Am,Ay,AK,Ar]
   exact⟨fun h=>⟨⟨by omega,by omega⟩,by omega⟩,fun _=>trivial⟩)
 refine⟨h1,?_⟩;rw[h2,OD,List.any_eq_true,Ar];constructor
 · rintro⟨a,ha,g⟩;rw[Ar] at g;exact g▸ha
 · intro h;exact⟨v,h,by simp⟩
def xr(C l:List Int):Prop:=l.Pairwise (· < ·)∧∀ z,z∈l↔(z∈C∧z≠0)
theorem wT{α:Type}(x:List α)(d:α){i:Nat}(h:i<x.length)(z:α):z∈x.take (i+1)↔z∈x.take i∨z=x.getD i d:=by
 rw[← Il x d h,B0,List.mem_singleton]
theorem xx{α:Type}(x:List α){i:Nat}{z:α}(h:z∈x.take i):∃ j,∃ (hj:j<x.length),j<i∧z=x[j]:=by
 obtain⟨j,hj,rfl⟩:=JS h;rw[F3] at hj;exact⟨j,by omega,by omega,List.getElem_take ..⟩
theorem fv(C:List Int)(hl:C.length≤1048576):Pq C∧xr C (Js C)∧(Js C).length≤C.length:=by
 rw[o6,oX];simp only[bO,Sx,DMk.ok]
 have hs:(Dd C 0).1=CS C:=by rw[dD]
 have hsl:=XA C
 have hso:(CS C).Pairwise (fun a b=>a≤b):=by
  have:=List.pairwise_mergeSort (le:=fun x y:Int=>decide (x≤y)) (by simp;intros;omega) (by simp;intros;omega) C;exact this.imp (by simp)
 have hmem:∀ z,z∈CS C↔z∈C:=fun z=>(List.mergeSort_perm C _).mem_iff
 generalize CS C=S at hs hsl hso hmem
 have key := Ur (c:=Pb C) (f:=Si C) (p:=Wi C) (x0:=([],0))
  (fun st=>∃ i:Nat,st.2=(i:Int)∧i≤S.length∧st.1.length≤i∧st.1.Pairwise (· < ·)∧∀ z,z∈st.1↔(z∈S.take i∧z≠0)) (fun st=>S.length-st.2.toNat) (by
  rintro⟨l,n⟩ ⟨i,h1,hi,hli,hp,hm⟩
  simp only at h1 hli hp hm
  subst h1
  simp only[Pb,Si,Wi,Sx,hs,An,Am,BB,Ay,AK,Ar]
  generalize hv:S.getD i 0=v
  obtain⟨g1,g2⟩:=gO l v (by omega)
  have r1:AA ((l.length+[v].length)*1):=by unfold AA;simp only[AB,AD];omega
  refine⟨⟨fun h=>⟨⟨by omega,by omega⟩,by omega,⟨fun _=>g1,fun _=>trivial⟩,⟨fun _=>r1,fun _=>trivial⟩⟩,fun _=>trivial⟩,fun h=>?_⟩
  have hi':i<S.length:=by omega
  refine⟨⟨i+1,by rw[AQ (by unfold As;omega)];simp,by omega,?_,?_,?_⟩,by rw[AQ (by unfold As;omega)];omega⟩
  · rw[AR,BW];split
    · simp only[BM,AB,AD];omega
    · omega
  · rw[AR,BW];split
    · next hb=>
      rw[Ax,AH,g2,Af,Cm] at hb;obtain⟨b1,b2⟩:=hb;simp only[B9,Bt] at b2;refine List.pairwise_append.2 ⟨hp,List.pairwise_singleton _ _,fun a ha b hb=>?_⟩;rw[List.mem_singleton] at hb;subst hb;obtain⟨j,hj,hji,e⟩:=xx S ((hm a).1 ha).1;have hle:=List.pairwise_iff_getElem.1 hso j i hj hi' hji;rw[← KX S 0 hi',hv] at hle
      have:a≠b:=fun e=>b2 (e▸ha)
      omega
    · exact hp
  · intro z
    rw[wT S 0 hi',hv,AR,BW];split
    · next hb=>
      rw[Ax,AH,g2,Af,Cm] at hb;obtain⟨b1,b2⟩:=hb
      have b1:v≠0:=by simpa using b1
      rw[B0,List.mem_singleton,hm];constructor
      · rintro(⟨h3,h4⟩|e)
        · exact⟨.inl h3,h4⟩
        · exact⟨.inr e,e▸b1⟩
      · rintro⟨h3|e,h4⟩
        · exact .inl ⟨h3,h4⟩
        · exact .inr e
    · next hb=>
      rw[Ax,AH,g2,Af,Cm] at hb;rw[hm];constructor
      · rintro⟨h3,h4⟩;exact⟨.inl h3,h4⟩
      · rintro⟨h3|e,h4⟩
        · exact⟨h3,h4⟩
        · subst e
          have hz:z∈l:=by
           refine Classical.byContradiction fun hn=>hb ⟨by simpa using h4,by simpa using hn⟩
          exact(hm z).1 hz) ⟨0,rfl,ED _,AU _,List.Pairwise.nil,by simp⟩
 obtain⟨k1,⟨i,k2,k3,k4,k5,k6⟩,k7⟩:=key;simp only[Pb,Sx,hs,k2,An,Am,Bt] at k7
 have:i=S.length:=by omega
 subst this;rw[F1] at k6;refine⟨⟨by unfold AA;omega,⟨trivial,by rw[du];show C.length<4611686018427387904;omega⟩,k1⟩,⟨k5,fun z=>by rw[k6,hmem]⟩,by omega⟩
theorem WW{a:Int×Int×Int×Int}(h:B8 a=true):0≤a.2.1∧a.2.1≤56:=by
 rw[Sv] at h;simp only[AR,BC,Ax,Bc,Cm,SV,CE,B6] at h
 repeat' split at h
 all_goals simp only[Af,BL,B9,Ee,HN,Cy,Ar,Bt,Iw,ID,AY,Hw] at *
 all_goals omega
def B5(x:BI):List Int:=x.map fun a=>a.2.2.1
theorem fE(x:BI){i:Nat}(h:i<x.length):(B5 x).getD i 0=(x.getD i (0,0,0,0,0)).2.2.1:=by
 rw[KX x _ h,KX (B5 x) 0 (by simpa [B5] using h)];simp[B5]
theorem iD(x:BI)(hl:x.length≤1048576) :
 LoopOk Ja (Kd x) (Wf x) (1,[])∧(Al Ja (Kd x) (1,[])).2.Pairwise (· < ·)∧∀ z,z∈(Al Ja (Kd x) (1,[])).2↔(z∈B5 x∧1≤z∧z≤56):=by
 have inner:∀ (c:Int) (l:List Int),l.length≤60→LoopOk (MZ x (c,l)) O9 (R6 x (c,l)) 0∧iLt (Al (MZ x (c,l)) O9 0) (lLen x)=decide (c∈B5 x):=by
  intro c l hll
  obtain⟨h1,h2⟩:=jB (c:=MZ x (c,l)) (f:=O9) (p:=R6 x (c,l)) x (0,0,0,0,0) (fun a=>decide (a.2.2.1=c)) hl
   (fun i hi=>by simp only[MZ,Ax,An,Am,AH,Bc,BB,Ay,AK,GM])
   (fun i hi=>rfl) (fun i hi=>by
    have r1:AA ((l.length+[c].length)*1):=by unfold AA;simp only[AB,AD];omega
    simp only[R6,An,Am,Ay,AK,Ar]
    exact⟨fun h=>⟨⟨by omega,by omega⟩,by omega,fun _=>r1,fun _=>trivial⟩,fun _=>trivial⟩)
  refine⟨h1,?_⟩;rw[h2,OD,List.any_eq_true,Ar,B5,List.mem_map];simp only[Ar]
 have key:=Ur (c:=Ja) (f:=Kd x) (p:=Wf x) (x0:=(1,[]))
  (fun st=>1≤st.1∧st.1≤57∧(st.2.length:Int)<st.1∧st.2.Pairwise (· < ·)∧∀ z,z∈st.2↔(z∈B5 x∧1≤z∧z<st.1)) (fun st=>57-st.1.toNat) (by
  rintro⟨c,l⟩ ⟨h1,h2,h3,h4,h5⟩
  simp only at h1 h2 h3 h4 h5
  obtain⟨i1,i2⟩:=inner c l (by omega)
  refine⟨⟨fun _=>i1,fun _=>trivial⟩,fun h=>?_⟩
  simp only[Ja,B6,Ar] at h
  have s1:iAdd .i64 c 1=c+1:=AQ (by unfold As;omega)
  simp only[Kd,s1,i2,AR,BW,Ar]
  refine⟨⟨by omega,by omega,?_,?_,fun z=>?_⟩,by omega⟩
  · split
    · simp only[BM,AB,AD];omega
    · omega
  · split
    · refine List.pairwise_append.2 ⟨h4,List.pairwise_singleton _ _,fun a ha b hb=>?_⟩;rw[List.mem_singleton] at hb;have:=((h5 a).1 ha).2.2;omega
    · exact h4
  · split
    · next hb=>
      rw[B0,List.mem_singleton,h5];constructor
      · rintro(⟨a1,a2,a3⟩|e)
        · exact⟨a1,a2,by omega⟩
        · subst e;exact⟨hb,by omega,by omega⟩
      · rintro⟨a1,a2,a3⟩;by_cases e:z=c
        · exact .inr e
        · exact .inl ⟨a1,a2,by omega⟩
    · next hb=>
      rw[h5];constructor
      · rintro⟨a1,a2,a3⟩;exact⟨a1,a2,by omega⟩
      · rintro⟨a1,a2,a3⟩
        have:z≠c:=fun e=>hb (e▸a1)
        exact⟨a1,a2,by omega⟩) ⟨by simp,by simp,by simp,List.Pairwise.nil,by simp⟩
 obtain⟨k1,⟨k2,k3,k4,k5,k6⟩,k7⟩:=key
 simp only[Ja,B6,Bt] at k7
 refine⟨k1,k5,fun z=>?_⟩
 rw[k6]
 constructor
 · rintro⟨a,b,c⟩;exact⟨a,b,by omega⟩
 · rintro⟨a,b,c⟩;exact⟨a,b,by omega⟩
theorem jU(x:BI)(hl:x.length≤1048576) :
 LoopOk (Jd x) (Kf x) (Sb x) (0,0)∧LoopOk (Jc x) (Je x) (RX x) ([],0,0) ∧
 (Al (Jc x) (Je x) ([],0,0)).2.2=(Al (Jd x) (Kf x) (0,0)).2∧(Al (Jc x) (Je x) ([],0,0)).1=B5 x:=by
 obtain⟨a1,a2,⟨i,h1,h2,h3⟩,a4⟩:=iM (c:=Jd x) (f:=Kf x) (p:=Sb x) (d:=Jc x) (g:=Je x) (q:=RX x) (x0:=(0,0)) (y0:=([],0,0))
  (fun s t=>∃ i:Nat,i≤x.length∧s.1=(i:Int)∧t=((B5 x).take i,s.1,s.2)) (fun s=>x.length-s.1.toNat) (by
   rintro⟨n,m⟩ t ⟨i,hi,h1,rfl⟩
   simp only at h1
   subst h1
   have hcl:(B5 x).length=x.length:=by simp[B5]
   have hlen:((B5 x).take i).length=i:=by rw[F3];omega
   have s1:iAdd .i64 (i:Int) 1=(i:Int)+1:=AQ (by unfold As;omega)
   simp only[Jd,Kf,Sb,Jc,Je,RX,An,Am,Ay,AK,Ar,s1,hlen,AB,AD,BW,BB]
   refine⟨⟨fun h=>⟨⟨⟨by omega,by omega⟩,by omega,fun _=>trivial,fun _=>⟨⟨by omega,by omega⟩,by omega⟩⟩,fun _=>⟨⟨by omega,by omega⟩,by omega⟩,fun _=>trivial⟩,fun _=>trivial⟩,⟨fun h=>⟨⟨by omega,by omega⟩,by omega,by unfold AA;omega⟩,fun _=>trivial⟩,trivial,fun h=>⟨⟨i+1,by omega,by omega,?_⟩,by omega⟩⟩
   have hi':i<x.length:=by omega
   rw[← Il (B5 x) 0 (by omega),fE x hi']) ⟨0,by omega,rfl,rfl⟩
 refine⟨a1,a2,by rw[h3],?_⟩
 rw[h3]
 simp only[Jd,h2,An,Am,Bt] at a4
 rw[JT]
 simp only[B5,AL];omega
theorem TG(x:BI)(hl:x.length≤1048576):Wr x∧Pk x∧AG x=FJ x∧(AG x).2.length≤1048576:=by
 rw[Wr,nH,FJ,bK,XB];have o1:=bL x hl;have o2:=bC x hl;by_cases h:CW x=true
 · obtain⟨m1,m2,m3,m4⟩:=jU x hl;obtain⟨s1,s2,s3⟩:=iD x hl
   have hcl:(B5 x).length=x.length:=by simp[B5]
   obtain⟨c1,⟨c2,c3⟩,c4⟩:=fv (B5 x) (by omega);have hh:=tC hl h
   have e:Js (B5 x)=(Al Ja (Kd x) (1,[])).2:=YD c2 s2 fun z=>by
    rw[c3,s3];constructor
    · rintro⟨a,b⟩;refine⟨a,?_⟩;obtain⟨k,hk,rfl⟩:=List.mem_map.1 a;have:=WW (hh k hk).2.2.1;omega
    · rintro⟨a,b,c⟩;exact⟨a,by omega⟩
   rw[m3,m4,← e];refine⟨⟨o1,fun _=>trivial,fun _=>⟨m1,s1⟩⟩,⟨o2,fun _=>trivial,fun _=>⟨m2,c1⟩⟩,rfl,?_⟩;rw[AR];split
   · simp
   · simp only;omega
 · have hb:bNot (CW x)=true:=by rw[AH];simpa using h
   rw[hb];simp[Ch,o1,o2]
theorem gA {α S:Type} {c:S×Int→Bool} {f:S×Int→S×Int} {p:S×Int→Prop} (x:List α) (d:α) (g:S→α→S) (s0:S) (hl:x.length≤1048576)
 (hc:∀ (s:S) (i:Nat),i≤x.length→c (s,(i:Int))=decide (i<x.length)) (hf:∀ (s:S) (i:Nat),i<x.length→f (s,(i:Int))=(g s (x.getD i d),iAdd .i64 (i:Int) 1)) (hp:∀ (s:S) (i:Nat),i≤x.length→p (s,(i:Int))) :
 LoopOk c f p (s0,0)∧Al c f (s0,0)=(x.foldl g s0,(x.length:Int)):=by
 have:=DE (c:=c) (f:=f) (p:=p) x.length (fun i=>((x.take i).foldl g s0,(i:Int))) (x0:=(s0,0)) rfl (fun k hk=>by
  refine⟨hp _ k (by omega),by rw[hc _ k (by omega)];simpa using hk,?_⟩;rw[hf _ k hk,AQ (by unfold As;omega),← Il x d hk,List.foldl_append]
  simp) ⟨hp _ _ (by omega),by rw[hc _ _ (by omega)];simp⟩
 refine⟨this.1,?_⟩
 rw[this.2,F1]
theorem fN {α S:Type} {c:Int×S→Bool} {f:Int×S→Int×S} {p:Int×S→Prop} (x:List α) (d:α) (g:S→α→S) (s0:S) (hl:x.length≤1048576)
 (hc:∀ (s:S) (i:Nat),i≤x.length→c ((i:Int),s)=decide (i<x.length)) (hf:∀ (s:S) (i:Nat),i<x.length→f ((i:Int),s)=(iAdd .i64 (i:Int) 1,g s (x.getD i d))) (hp:∀ (s:S) (i:Nat),i≤x.length→p ((i:Int),s)) :
 LoopOk c f p (0,s0)∧Al c f (0,s0)=((x.length:Int),x.foldl g s0):=by
 have:=DE (c:=c) (f:=f) (p:=p) x.length (fun i=>((i:Int),(x.take i).foldl g s0)) (x0:=(0,s0)) rfl (fun k hk=>by
  refine⟨hp _ k (by omega),by rw[hc _ k (by omega)];simpa using hk,?_⟩;rw[hf _ k hk,AQ (by unfold As;omega),← Il x d hk,List.foldl_append]
  simp) ⟨hp _ _ (by omega),by rw[hc _ _ (by omega)];simp⟩
 refine⟨this.1,?_⟩
 rw[this.2,F1]
theorem gT(c:Int)(x:List Int)(s:Bool):x.foldl (fun s a=>bOr s (iEq a c)) s=(s||decide (c∈x)):=by
 induction x generalizing s with
 |nil=>simp
 | cons a x ih=>
   rw[List.foldl_cons,ih,BC,Bc,Bool.or_assoc];congr 1;rw[OD];simp only[BL,Ar,BE];constructor
   · rintro(h|h)
     · exact .inl h.symm
     · exact .inr h
   · rintro(h|h)
     · exact .inl h.symm
     · exact .inr h
theorem YB:∀ (l:List Int) (lo hi:Int),l.Pairwise (· < ·)→(∀ z∈l,lo≤z∧z≤hi)→lo≤hi+1→(l.length:Int)≤hi-lo+1
 |[],lo,hi,_,_,h=>by simp;omega
 | a::l,lo,hi,hp,hm,h=>by
   rw[List.pairwise_cons] at hp
   have ha:=hm a (by simp)
   have:=YB l (a+1) hi hp.2 (fun z hz=>⟨by have:=hp.1 z hz;omega,(hm z (by simp[hz])).2⟩) (by omega)
   rw[AB]
   omega
section
set_option maxRecDepth 20000
theorem Uj(l:BI)(hl:l.length≤1048576)(hh:CW l=true):(AG l).2.Pairwise (· < ·)∧∀ z∈(AG l).2,1≤z∧z≤56:=by
 obtain⟨_,_,r3,_⟩:=TG l hl;obtain⟨_,s2,s3⟩:=iD l hl;rw[r3,FJ,XB,hh]
 have hb:bNot true=false:=by rw[AH];rfl
 rw[hb,BQ];exact⟨s2,fun z hz=>((s3 z).1 hz).2⟩
def Rz(m:Int)(a:Int×Int×Int×Int×Int):Int:=iOr .i64 m a.2.2.2.1
theorem Xk(l dn:BI)(hl:l.length≤1048576)(hh:CW l=true)(hd:dn.length≤1000)(hc:∀ a∈dn,0≤a.2.2.1∧a.2.2.1≤56) :
 Pg (l,dn)∧M7 (AG l,dn.map A9)∧Jm (AG l,dn.map A9)=DB (l,dn)∧(DB (l,dn)).2.Pairwise (· < ·)∧(∀ z,z∈(DB (l,dn)).2↔(z∈(AG l).2∨z∈B5 dn∧z≠0))∧(DB (l,dn)).1=dn.foldl Rz (AG l).1:=by
 obtain⟨o1,_,r3,_⟩:=TG l hl
 obtain⟨b1,b2⟩:=Uj l hl hh
 have b3:=YB _ 1 56 b1 b2 (by omega)
 have hcd:(B5 dn).length=dn.length:=by simp[B5]
 obtain⟨m1,m2⟩:=fN (c:=Sd (l,dn)) (f:=RV (l,dn)) (p:=Wd (l,dn)) dn (0,0,0,0,0) Rz (FJ l).1 (by omega)
  (fun s i hi=>by simp only[Sd,An,Am,GM])
  (fun s i hi=>by simp only[RV,Rz,BB,Ay,AK])
  (fun s i hi=>by
   simp only[Wd,An,Am,Ay,AK,Ar]
   exact⟨fun h=>⟨⟨by omega,by omega⟩,by omega⟩,fun _=>trivial⟩)
 have in4:∀ (st:List Int×Int),LoopOk (H8 (l,dn)) (H7 (l,dn) st) (Sg (l,dn)) (false,0)∧(Al (H8 (l,dn)) (H7 (l,dn) st) (false,0)).1=decide (st.2∈(AG l).2):=by
  intro st;rw[r3] at b3
  obtain⟨k1,k2⟩:=gA (c:=H8 (l,dn)) (f:=H7 (l,dn) st) (p:=Sg (l,dn)) (FJ l).2 0 (fun s a=>bOr s (iEq a st.2)) false (by omega)
   (fun s i hi=>by simp only[H8,An,Am,GM])
   (fun s i hi=>by simp only[H7,BB,Ay,AK])
   (fun s i hi=>by
    simp only[Sg,An,Am,Ay,AK,Ar]
    exact⟨fun h=>⟨fun _=>trivial,fun _=>⟨⟨by omega,by omega⟩,by omega⟩⟩,fun _=>trivial⟩)
  refine⟨k1,?_⟩;rw[k2,gT,r3,Bool.false_or]
 have in3:∀ (st:List Int×Int) (b:Bool),LoopOk (Kg (l,dn)) (Kh (l,dn) st) (RW (l,dn)) (b,0)∧(Al (Kg (l,dn)) (Kh (l,dn) st) (b,0)).1=(b||decide (st.2∈B5 dn)):=by
  intro st b
  obtain⟨k1,k2⟩:=gA (c:=Kg (l,dn)) (f:=Kh (l,dn) st) (p:=RW (l,dn)) dn (0,0,0,0,0) (fun s a=>bOr s (iEq a.2.2.1 st.2)) b (by omega)
   (fun s i hi=>by simp only[Kg,An,Am,GM])
   (fun s i hi=>by simp only[Kh,BB,Ay,AK])
   (fun s i hi=>by
    simp only[RW,An,Am,Ay,AK,Ar]
    exact⟨fun h=>⟨fun _=>trivial,fun _=>⟨⟨by omega,by omega⟩,by omega⟩⟩,fun _=>trivial⟩)
  refine⟨k1,?_⟩;rw[k2];have:=gT st.2 (B5 dn) b;rw[B5,List.foldl_map] at this;exact this
 have key:=Ur (c:=M6) (f:=O8 (l,dn)) (p:=bh (l,dn)) (x0:=([],1))
  (fun st=>1≤st.2∧st.2≤57∧(st.1.length:Int)<st.2∧st.1.Pairwise (· < ·)∧∀ z,z∈st.1↔((z∈(AG l).2∨z∈B5 dn)∧1≤z∧z<st.2)) (fun st=>57-st.2.toNat) (by
  rintro⟨ks,c⟩ ⟨h1,h2,h3,h4,h5⟩
  simp only at h1 h2 h3 h4 h5
  obtain⟨i1,i2⟩:=in4 (ks,c)
  obtain⟨j1,j2⟩:=in3 (ks,c) (Al (H8 (l,dn)) (H7 (l,dn) (ks,c)) (false,0)).1
  rw[i2] at j2
  have r1:AA ((ks.length+[c].length)*1):=by unfold AA;simp only[AB,AD];omega
  refine⟨⟨fun _=>⟨i1,j1,fun _=>r1,fun _=>trivial⟩,fun _=>trivial⟩,fun h=>?_⟩
  simp only[M6,B6,Ar] at h
  have s1:iAdd .i64 c 1=c+1:=AQ (by unfold As;omega)
  simp only[O8,s1,i2,j2,AR,BW,BL,Ar]
  refine⟨⟨by omega,by omega,?_,?_,fun z=>?_⟩,by omega⟩
  · split
    · simp only[BM,AB,AD];omega
    · omega
  · split
    · refine List.pairwise_append.2 ⟨h4,List.pairwise_singleton _ _,fun a ha b hb=>?_⟩;rw[List.mem_singleton] at hb;have:=((h5 a).1 ha).2.2;omega
    · exact h4
  · split
    · next hb=>
      rw[B0,List.mem_singleton,h5];constructor
      · rintro(⟨a1,a2,a3⟩|e)
        · exact⟨a1,a2,by omega⟩
        · subst e;exact⟨hb,by omega,by omega⟩
      · rintro⟨a1,a2,a3⟩;by_cases e:z=c
        · exact .inr e
        · exact .inl ⟨a1,a2,by omega⟩
    · next hb=>
      rw[h5];constructor
      · rintro⟨a1,a2,a3⟩;exact⟨a1,a2,by omega⟩
      · rintro⟨a1,a2,a3⟩
        have:z≠c:=fun e=>hb (e▸a1)
        exact⟨a1,a2,by omega⟩) ⟨by simp,by simp,by simp,List.Pairwise.nil,by simp⟩
 obtain⟨k1,⟨k2,k3,k4,k5,k6⟩,k7⟩:=key
 simp only[M6,B6,Bt] at k7
 generalize hK:Al M6 (O8 (l,dn)) ([],1)=K at k2 k3 k4 k5 k6 k7
 have kmem:∀ z,z∈K.1↔(z∈(AG l).2∨z∈B5 dn∧z≠0):=by
  intro z;rw[k6];constructor
  · rintro⟨a|a,b,c⟩
    · exact .inl a
    · exact .inr ⟨a,by omega⟩
  · rintro(a|⟨a,b⟩)
    · have:=b2 z a;exact⟨.inl a,by omega,by omega⟩
    · obtain⟨q,hq,rfl⟩:=List.mem_map.1 a;have:=hc q hq;exact⟨.inr a,by omega,by omega⟩
 have hp5:(dn.map A9).length=dn.length:=AL ..
 have cp:CA (AG l).2=(AG l).2:=by rw[Sx];try rfl
 have okc:Pe (AG l).2:=by rw[bO];unfold AA;omega
 have W:=DE (c:=Lu (AG l,dn.map A9)) (f:=MX (AG l,dn.map A9)) (p:=RQ (AG l,dn.map A9)) dn.length
  (fun i=>((AG l).2++(B5 dn).take i,(i:Int),(dn.take i).foldl Rz (AG l).1)) (x0:=((AG l).2,0,(AG l).1)) (by simp) (fun i hi=>by
   have g1:(lGet (dn.map A9) (iNat (i:Int)) (0,0))=A9 (dn.getD i (0,0,0,0,0)):=by rw[BB,Ay,AK,gq]
   refine⟨?_,?_,?_⟩
   · simp only[RQ,An,Am,hp5,Ay,AK,Ar,BM,F3,AB,AD];exact⟨fun _=>⟨⟨by omega,by omega⟩,by omega,by unfold AA;omega⟩,fun _=>trivial⟩
   · simp only[Lu,An,Am,hp5,Ar];omega
   · simp only[MX,g1,BW,B1];rw[AQ (by unfold As;omega),← Il (B5 dn) 0 (by omega),fE dn hi,← Il dn (0,0,0,0,0) hi,List.foldl_append]
     rfl) (by
   refine⟨?_,?_⟩
   · simp only[RQ,An,Am,hp5,Ar];exact⟨fun h=>absurd h (by omega),fun _=>trivial⟩
   · simp only[Lu,An,Am,hp5];simp)
 have tk:(B5 dn).take dn.length=B5 dn:=by rw[← hcd];exact F1 ..
 obtain⟨w1,w2⟩:=W
 simp only[tk,F1] at w2
 obtain⟨c1,⟨c2,c3⟩,c4⟩:=fv ((AG l).2++B5 dn) (by rw[BM];omega)
 have e:Js ((AG l).2++B5 dn)=K.1:=YD c2 k5 fun z=>by
  rw[c3,kmem,B0];constructor
  · rintro⟨a|a,b⟩
    · exact .inl a
    · exact .inr ⟨a,b⟩
  · rintro(a|⟨a,b⟩)
    · have:=b2 z a;exact⟨.inl a,by omega⟩
    · exact⟨.inr a,b⟩
 rw[Pg,m0,DB,nb]
 simp only[cp,w2,m2,hK]
 refine⟨⟨o1,m1,k1⟩,⟨okc,w1,c1⟩,?_,k5,kmem,by rw[r3]⟩
 rw[e,r3]
end
section
set_option maxRecDepth 20000
theorem rH(dn:BI)(p:Int){a:Int×Int×Int×Int×Int}(h:a∈Dy (dn,p)):a∈dn:=by
 rw[Dy] at h;simp only[BW,DX,Gb,Cq,B0] at h;rcases h with h|h
 · exact List.mem_of_mem_drop (JV h)
 · exact List.mem_of_mem_drop (JV h)
theorem Uo(dn:BI)(s:Int×Int×Int)(h:dn.length≤1048576):BO (dn,s)=-1∨(0≤BO (dn,s)∧BO (dn,s)<dn.length):=by
 have:=UD (dn.map A9) (s.2.1,s.2.2) (by rw[AL];exact h);rw[AL] at this;have e:=L8 dn s.1 s.2.1 s.2.2;rw[show (s.1,s.2.1,s.2.2)=s from rfl] at e;rw[e];exact this
theorem dw{a:Int×Int×Int×Int}(h:B8 a=true):0≤a.2.2.1∧a.2.2.1≤15:=by
 rw[Sv] at h;simp only[AR,BC,Ax,Bc,Cm,WJ,CE,B6] at h
 repeat' split at h
 all_goals simp only[Af,BL,B9,Ee,HN,Cy,Ar,Bt,Iw,ID,AY,Hw] at *
 all_goals omega
def VV(a:Int×Int×Int×Int×Int):Prop:=(0≤a.2.2.1∧a.2.2.1≤56)∧0≤a.2.2.2.1∧a.2.2.2.1≤15
theorem xZ(x:List (Int×Int×Int))(hl:x.length≤8)(hok:∀ i,i<x.length→Ka (Bu x i) (x.getD i (0,0,0))):∀ i,i≤x.length→(Bu x i).length≤i∧∀ a∈Bu x i,VV a:=by
 intro i
 induction i with
 |zero=>intro _;exact⟨by simp[Bu],by simp[Bu]⟩
 | succ i ih=>
   intro hi;obtain⟨h1,h2⟩:=ih (by omega);obtain⟨k1,k2,k3,k4⟩:=hok i (by omega);rw[N1 x (by omega)];generalize hs:x.getD i (0,0,0)=s at k1 k2 k3 k4 ⊢;unfold DN;split
   · refine⟨by simp only[BM,AB,AD];omega,fun a ha=>?_⟩;rw[B0,List.mem_singleton] at ha;rcases ha with ha|rfl
     · exact h2 a ha
     · exact⟨WW k3,dw k3⟩
   · split
     · rename_i e2;have:=Uo (Bu x i) s (by omega);have hp:0≤BO (Bu x i,s):=k4.1 e2;have hw:=eR (Bu x i) (BO (Bu x i,s)) hp (by omega) (by omega);exact⟨by omega,fun a ha=>h2 a (rH _ _ ha)⟩
     · exact⟨by omega,h2⟩
theorem W2(dm:List (Int×Int))(q:Int×Int)(h:dm.length≤1048576):A7 (dm,q)=if CD (fun i=>decide (dm.getD i (0,0)=q)) dm.length 0<dm.length then ((CD (fun i=>decide (dm.getD i (0,0)=q)) dm.length 0:Nat):Int) else -1:=by
 rw[WI]
 have e:=yO (c:=fun x0:Int=>(bAnd (iLt x0 (lLen dm)) (bNot (bAnd (iEq (lGet dm (iNat x0) (0,0)).1 q.1) (iEq (lGet dm (iNat x0) (0,0)).2 q.2))))) (f:=fun x0=>iAdd .i64 x0 1) dm.length (fun i=>decide (dm.getD i (0,0)=q)) (by omega)
  (fun i hi=>by
   simp only[Ax,An,Am,AH,Bc,BB,Ay,AK,GM];congr 2;rw[← Bool.decide_and]
   simp only[Prod.ext_iff]) (fun i hi=>rfl)
 simp only[e];rw[AR,An,Am];simp only[Ar,GM]
theorem rF(dm:List (Int×Int))(q:Int×Int)(h:dm.length≤1000)(hp:A7 (dm,q)<0):A7 (dm++[q],q)=dm.length:=by
 rw[W2 _ _ (by omega)] at hp
 have hall:∀ i,i<dm.length→decide (dm.getD i (0,0)=q)=false:=by
  refine eM.1 ?_;have:=NM (fun i=>decide (dm.getD i (0,0)=q)) dm.length 0;split at hp
  · omega
  · omega
 rw[W2 _ _ (by rw[BM,AB,AD];omega)]
 have hl:(dm++[q]).length=dm.length+1:=by simp
 rw[hl]
 have hlast:(dm++[q]).getD dm.length (0,0)=q:=by rw[Ck];simp
 have hold:∀ i,i<dm.length→(dm++[q]).getD i (0,0)=dm.getD i (0,0):=fun i hi=>by rw[Ck,Ck,Bm hi]
 generalize hk:CD (fun i=>decide ((dm++[q]).getD i (0,0)=q)) (dm.length+1) 0=k;have a1:=NM (fun i=>decide ((dm++[q]).getD i (0,0)=q)) (dm.length+1) 0;have a2:=PY (fun i=>decide ((dm++[q]).getD i (0,0)=q)) (dm.length+1) 0 dm.length (by omega);have a3:=PZ (fun i=>decide ((dm++[q]).getD i (0,0)=q)) (dm.length+1) 0;rw[hk] at a1 a2 a3
 have b1:¬ dm.length<k:=fun h=>by have:=a2 h;rw[hlast] at this;simp at this
 have b2:¬ k<dm.length:=fun h=>by
  have:=a3 (by omega);rw[hold k h,hall k h] at this;cases this
 have:k=dm.length:=by omega
 rw[Ab (by omega),this]
theorem ed(dn:BI)(a:Int×Int×Int×Int×Int)(h:dn.length≤1000):Dy (dn++[a],(dn.length:Int))=dn:=by
 rw[Dy];have e:iAdd .i64 (dn.length:Int) 1=dn.length+1:=AQ (by unfold As;omega);simp only[e,BW,DX,Gb,Ay,Cq,AK,GN,Mc]
 have e2:((dn.length:Int)+1).toNat=dn.length+1:=by omega
 rw[e2,List.take_left',List.drop_eq_nil_of_le (by simp)]
 · simp
 · rfl
theorem gP(dn:BI)(s:Int×Int×Int)(h:dn.length≤1000)(hp:BO (dn,s)<0):BO (dn++[mA s],s)=dn.length:=by
 have e:=L8 dn s.1 s.2.1 s.2.2;have e':=L8 (dn++[mA s]) s.1 s.2.1 s.2.2;rw[show (s.1,s.2.1,s.2.2)=s from rfl] at e e';rw[e] at hp;rw[e',Ez,Cd,Mt];have:=rF (dn.map A9) (s.2.1,s.2.2) (by rw[AL];exact h) hp;rw[AL] at this;exact this
def VT(l:BI)(r:Int×List Int):Prop:=r.2.length≤1048576∧∃ dn:BI,dn.length≤1000∧(∀ a∈dn,VV a)∧r=DB (l,dn)
def kN(l:BI)(x:List (Int×Int×Int))(i:Nat)(out:List (Int×List Int)):Prop:=(∀ r∈out,VT l r)∧(i=0→out=[])∧(0<i→∃ o,out=o++[DB (l,Bu x i)])
theorem ov(l:BI)(x:List (Int×Int×Int))(hl:l.length≤1048576)(hx:x.length≤1048576) :
 aQ (l,x)∧RN (l,x)∧A0 (l,x)=O5 (l,x)∧((O5 (l,x)).length≤1048576∧∀ r∈O5 (l,x),r.2.length≤1048576)∧(CW l=true→Dc x=true→kN l x x.length (O5 (l,x))):=by
 have o1:=bL l hl
 have o2:=bC l hl
 have o3:=cx x hx
 have o4:=SP x hx
 rw[aQ,me,O5,ma]
 simp only[XB,← TY x hx]
 by_cases hg:CW l=true∧Dc x=true
 case neg=>
  have hb:bOr (bNot (CW l)) (bNot (Dc x))=true:=by
   rw[BC,AH,AH];cases h1:CW l<;>cases h2:Dc x<;>simp_all
  rw[hb];simp only[Ch];refine⟨⟨⟨o1,fun _=>trivial,fun _=>o3⟩,fun _=>trivial,fun h=>by cases h⟩,⟨⟨o2,fun _=>trivial,fun _=>o4⟩,fun _=>trivial,fun h=>by cases h⟩,trivial,⟨by simp,by simp⟩,fun h1 h2=>absurd ⟨h1,h2⟩ hg⟩
 case pos=>
  obtain⟨hh,hm⟩:=hg
  have hb:bOr (bNot (CW l)) (bNot (Dc x))=false:=by rw[BC,AH,AH,hh,hm];rfl
  rw[hb];simp only[BQ];obtain⟨x8,_,hok⟩:=TR x hx hm;have inv:=xZ x x8 hok;obtain⟨_,or2,_,_⟩:=TG l hl
  have CZ:∀ dn:BI,dn.length≤1000→(∀ a∈dn,VV a)→Pg (l,dn)∧M7 (AG l,dn.map A9)∧Jm (AG l,dn.map A9)=DB (l,dn)∧VT l (DB (l,dn)):=by
   intro dn h1 h2;obtain⟨a1,a2,a3,a4,a5,_⟩:=Xk l dn hl hh h1 (fun a ha=>(h2 a ha).1)
   have:=YB _ 1 56 a4 (fun z hz=>by
    rcases (a5 z).1 hz with h|⟨h,hz⟩
    · exact(Uj l hl hh).2 z h
    · obtain⟨q,hq,rfl⟩:=List.mem_map.1 h;have:=(h2 q hq).1
      omega) (by omega)
   exact⟨a1,a2,a3,by omega,dn,h1,h2,rfl⟩
  obtain⟨a1,a2,⟨i,hi,out,e1,e2,e3,e4⟩,a4⟩:=iM (c:=MR (l,x)) (f:=RG (l,x)) (p:=RF (l,x)) (d:=RD (l,x)) (g:=RE (l,x)) (q:=RH (l,x)) (x0:=([],[],0)) (y0:=([],[],0))
   (fun s t=>∃ i:Nat,i≤x.length∧∃ out:List (Int×List Int),s=(out,Bu x i,(i:Int))∧t=(out,(Bu x i).map A9,(i:Int))∧out.length≤2*i∧kN l x i out) (fun s=>x.length-s.2.2.toNat) (by
    rintro s t ⟨i,hi,out,rfl,rfl,ho,hr⟩
    obtain⟨d1,d2⟩:=inv i hi
    have s1:iAdd .i64 (i:Int) 1=((i+1:Nat):Int):=by rw[AQ (by unfold As;omega)];simp
    by_cases hlt:i<x.length
    case neg=>
     have hn:iLt (i:Int) (lLen x)=false:=by rw[An,Am];simp;omega
     refine⟨?_,?_,rfl,fun h=>?_⟩
     · simp only[RF,hn];exact⟨fun h=>(by cases h),fun _=>trivial⟩
     · simp only[RH,hn];exact⟨fun h=>(by cases h),fun _=>trivial⟩
     · simp only[MR,hn] at h;cases h
    case pos=>
    have ht:iLt (i:Int) (lLen x)=true:=by rw[An,Am];simp;omega
    have hk:=hok i hlt
    have hsucc:=N1 x hlt
    obtain⟨d1',d2'⟩:=inv (i+1) hlt
    have hget:lGet x (iNat (i:Int)) (0,0,0)=x.getD i (0,0,0):=by rw[BB,Ay,AK]
    have hin:iNat (i:Int)<x.length:=by rw[Ay];simpa using hlt
    simp only[MR,RG,RF,RD,RE,RH,hget,ht,s1,AF,LA]
    generalize hs:x.getD i (0,0,0)=s at hk hsucc
    generalize hdn:Bu x i=dn at hk hsucc d1 d2
    obtain⟨K,c,m⟩:=s
    obtain⟨k1,k2,k3,k4⟩:=hk
    simp only at k1 k2 k3 k4
    have hcode:=WW k3
    simp only at hcode
    have Ln:∀ a∈dn++[mA (K,c,m)],VV a:=fun a ha=>by
     rw[B0,List.mem_singleton] at ha;rcases ha with ha|rfl
     · exact d2 a ha
     · exact⟨hcode,dw k3⟩
    have mapp:(dn++[mA (K,c,m)]).map A9=lApp (dn.map A9) [(c,m)]:=by rw[BW,Ez];rfl
    have lapp:lApp dn [(0,2,c,m,0)]=dn++[mA (K,c,m)]:=by rw[BW];rfl
    have hml:(dn.map A9).length=dn.length:=AL ..
    have len1:(lApp (dn.map A9) [(c,m)]).length=dn.length+1:=by rw[← mapp,AL];simp
    obtain⟨p1,p2,p3,p4⟩:=CZ (dn++[mA (K,c,m)]) (by rw[BM,AB,AD];omega) Ln
    obtain⟨q1,q2,q3,q4⟩:=CZ dn (by omega) d2
    rw[mapp] at p2 p3
    have lo:∀ r:Int×List Int,(lApp out [r]).length=out.length+1:=fun r=>by rw[BW];simp
    have lo2:∀ r r':Int×List Int,(lApp (lApp out [r]) [r']).length=out.length+2:=fun r r'=>by rw[BW,BW];simp
    have hlr:∀ r:Int×List Int,([r]:List (Int×List Int)).length=1:=fun _=>rfl
    have ro:∀ n:Nat,n≤1000→∀ w:Nat,w≤5→AA (n*w):=fun n hn w hw=>LY (by omega) (by omega)
    rcases (show K=0∨K=1∨K=2 by omega) with rfl|rfl|rfl
    ·
     have e01:iNe 0 1=true:=by rw[Cm];rfl
     have e02:iNe 0 2=true:=by rw[Cm];rfl
     have e00:iEq 0 0=true:=by rw[Bc];rfl
     have hneg:BO (dn,0,c,m)<0:=by
      rcases Uo dn (0,c,m) (by omega) with h|h
      · omega
      · exact absurd (k4.2 h.1) (by decide)
     have fl:=gP dn (0,c,m) (by omega) hneg;have wl:=ed dn (mA (0,c,m)) (by omega);have okf:Np (dn++[mA (0,c,m)],0,c,m):=YN _ _ (by rw[BM,AB,AD];omega);have okw:Pa (dn++[mA (0,c,m)],(dn.length:Int)):=Xh _ _ (by omega) (by rw[BM,AB,AD];omega) (by rw[BM,AB,AD];omega)
     have hst:DN dn (0,c,m)=dn:=by unfold DN;simp
     rw[hst] at hsucc;simp only[e01,e02,e00,Ch,lapp,fl,wl,p3,q3]
     refine⟨⟨fun _=>⟨⟨by omega,by omega⟩,hin,⟨fun _=>⟨trivial,ro _ (by simp only[AB,AD];omega) _ (by omega),p1,ro _ (by rw[hlr];omega) _ (by omega)⟩,fun _=>trivial⟩,⟨fun _=>⟨okf,okw,q1,ro _ (by rw[lo,hlr];omega) _ (by omega)⟩,fun _=>trivial⟩⟩,fun _=>trivial⟩,
      ⟨fun _=>⟨⟨by omega,by omega⟩,hin,⟨fun _=>⟨ro _ (by omega) _ (by omega),ro _ (by rw[hml];simp only[AB,AD];omega) _ (by omega),p2,ro _ (by rw[hlr];omega) _ (by omega)⟩,fun h=>by cases h⟩,q2,ro _ (by rw[lo,hlr];omega) _ (by omega)⟩,fun _=>trivial⟩,trivial,fun _=>⟨⟨i+1,hlt,_,by rw[hsucc],by rw[hsucc],by rw[lo2];omega,⟨fun r hr'=>?_,fun h=>absurd h (Nat.succ_ne_zero i),fun _=>⟨_,by rw[hsucc,BW]⟩⟩⟩,by omega⟩⟩
     simp only[BW,B0,List.mem_singleton] at hr';rcases hr' with(h|rfl)|rfl
     · exact hr.1 r h
     · exact p4
     · exact q4
    ·
     have e01:iNe 1 1=false:=by rw[Cm];rfl
     have e02:iNe 1 2=true:=by rw[Cm];rfl
     have e00:iEq 1 0=false:=by rw[Bc];rfl
     have e11:iEq 1 1=true:=by rw[Bc];rfl
     have hst:DN dn (1,c,m)=dn++[mA (1,c,m)]:=by unfold DN;simp
     rw[hst] at hsucc;simp only[e01,e02,e00,e11,Ch,BQ,lapp,p3]
     refine⟨⟨fun _=>⟨⟨by omega,by omega⟩,hin,⟨fun _=>⟨trivial,ro _ (by simp only[AB,AD];omega) _ (by omega),p1,ro _ (by rw[hlr];omega) _ (by omega)⟩,fun _=>trivial⟩,⟨fun h=>(by cases h),fun _=>trivial⟩⟩,fun _=>trivial⟩,
      ⟨fun _=>⟨⟨by omega,by omega⟩,hin,⟨fun h=>(by cases h),fun _=>⟨fun _=>ro _ (by rw[hml];simp only[AB,AD];omega) _ (by omega),fun h=>by cases h⟩⟩,p2,ro _ (by rw[hlr];omega) _ (by omega)⟩,fun _=>trivial⟩,trivial,fun _=>⟨⟨i+1,hlt,_,by rw[hsucc],by rw[hsucc,mapp],by rw[lo];omega,⟨fun r hr'=>?_,fun h=>absurd h (Nat.succ_ne_zero i),fun _=>⟨_,by rw[hsucc,BW]⟩⟩⟩,by omega⟩⟩
     simp only[BW,B0,List.mem_singleton] at hr';rcases hr' with h|rfl
     · exact hr.1 r h
     · exact p4
    ·
     have e01:iNe 2 1=true:=by rw[Cm];rfl
     have e02:iNe 2 2=false:=by rw[Cm];rfl
     have e00:iEq 2 0=false:=by rw[Bc];rfl
     have e11:iEq 2 1=false:=by rw[Bc];rfl
     have e22:iEq 2 2=true:=by rw[Bc];rfl
     have hp:0≤BO (dn,2,c,m):=k4.1 rfl
     have hp2:BO (dn,2,c,m)<dn.length:=by
      rcases Uo dn (2,c,m) (by omega) with h|h
      · omega
      · exact h.2
     have hst:DN dn (2,c,m)=Dy (dn,BO (dn,2,c,m)):=by unfold DN;simp
     rw[hst] at hsucc;have hfe:=L8 dn 2 c m;have wm:=eQ dn _ hp hp2;have okf:Np (dn,2,c,m):=YN _ _ (by omega);have okw:=Xh dn _ hp hp2 (by omega);have okp:Nt (dn.map A9,c,m):=jN _ _ (by omega);rw[hsucc] at d1' d2';obtain⟨w1,w2,w3,w4⟩:=CZ _ (by omega) d2';rw[hfe] at hp hp2 okw w1 w2 w3 w4 wm hsucc;rw[wm] at w2 w3;generalize A7 (dn.map A9,c,m)=p at hp hp2 okw w1 w2 w3 w4 wm hsucc hfe ⊢;have sp:iAdd .i64 p 1=p+1:=AQ (by unfold As;omega);simp only[e01,e02,e00,e11,e22,Ch,BQ,hfe,w3]
     refine⟨⟨fun _=>⟨⟨by omega,by omega⟩,hin,⟨fun h=>(by cases h),fun _=>trivial⟩,⟨fun _=>⟨okf,okw,w1,ro _ (by rw[hlr];omega) _ (by omega)⟩,fun _=>trivial⟩⟩,fun _=>trivial⟩,
      ⟨fun _=>⟨⟨by omega,by omega⟩,hin,⟨fun h=>(by cases h),fun _=>⟨fun h=>(by cases h),fun _=>⟨fun _=>⟨okp,?_⟩,fun h=>by cases h⟩⟩⟩,w2,ro _ (by rw[hlr];omega) _ (by omega)⟩,fun _=>trivial⟩,trivial,fun _=>⟨⟨i+1,hlt,_,by rw[hsucc],by rw[hsucc,wm],by rw[lo];omega,⟨fun r hr'=>?_,fun h=>absurd h (Nat.succ_ne_zero i),fun _=>⟨_,by rw[hsucc,BW]⟩⟩⟩,by omega⟩⟩
     · rw[sp];simp only[Ay,Gb,DX,GN,Mc,F3,Mq,hml];exact⟨⟨hp,by omega,by omega,by omega⟩,⟨by omega,by omega,by omega,by omega⟩,by omega,by omega,LY (by omega) (by omega)⟩
     · simp only[BW,B0,List.mem_singleton] at hr';rcases hr' with h|rfl
       · exact hr.1 r h
       · exact w4) ⟨0,ED _,[],rfl,rfl,by simp,⟨by simp,fun _=>rfl,fun h=>absurd h (by omega)⟩⟩
  refine⟨⟨⟨o1,fun _=>trivial,fun _=>o3⟩,fun h=>(by cases h),fun _=>a1⟩,⟨⟨o2,fun _=>trivial,fun _=>o4⟩,fun h=>(by cases h),fun _=>⟨or2,a2⟩⟩,by rw[e1,e2],?_⟩;rw[e1] at a4 ⊢;simp only[MR,An,Am,Bt] at a4
  have hix:i=x.length:=by omega
  subst hix;exact⟨⟨by simp only;omega,fun r hr=>(e4.1 r hr).1⟩,fun _ _=>e4⟩
end
section
set_option maxRecDepth 8000
def pU:DCode:=(.seq [2,1] (.region [oa 0 1 (.boxB 0 4 (.t 0)),oa 1 2 (.allocB 1 [(.int .i64 0),(.int .i64 0),(.int .i64 0),(.int .i64 0)])]) (.seq [2,1] (.seq [5,2,1] (.region [oa 0 3 (.loadB 0 (some 4) (.t 1)),oF 1 4 G0 [(.t 3)],oa 2 5 (.un .not (.t 4))]) (.cond (.t 5) (.seq [2] (.region [ob 0 6 (.loadB 0 (some 4) (.t 1)),os 1 (.storeB 1 4 (.t 2) (.t 6))]) .ret) .skip)) (.seq [2,1] (.seq [9,2,1] (.region [oa 0 7 (.fieldA 0 (.t 1)),oa 1 8 (.loadB 0 none (.t 7)),oa 2 9 (.bin .eql (.t 8) (.c (.int .i64 6)))]) (.cond (.t 9) (.seq [2] (.region [oa 0 10 (.fieldA 2 (.t 1)),ob 1 11 (.loadB 0 none (.t 10)),oa 2 12 (.build [(.int .i64 0),(.int .i64 0),(.int .i64 0),(.int .i64 0)] [(0,1,(.c (.int .i64 2))),(2,1,(.t 11))]),os 3 (.storeB 1 4 (.t 2) (.t 12))]) .ret) .skip)) (.seq [2] (.region [oa 0 13 (.fieldA 3 (.t 1)),ob 1 14 (.loadB 0 none (.t 13)),oa 2 15 (.build [(.int .i64 0),(.int .i64 0),(.int .i64 0),(.int .i64 0)] [(0,1,(.c (.int .i64 3))),(3,1,(.t 14))]),os 3 (.storeB 1 4 (.t 2) (.t 15))]) .ret))))
def Jv:Fn:=⟨⟨1,16,2,true,[.cell 2 (some 4)],pU⟩,[.agg [(.frz,.int .i64),(.frz,.int .i64),(.frz,.int .i64),(.frz,.int .i64)]],.one (.agg [(.own,.int .i64),(.own,.int .i64),(.own,.int .i64),(.own,.int .i64)])⟩
theorem pF:Jv.A:=Bp ⟨bn,trivial⟩
def He:Int×Int×Int×Int→Int×Int×Int×Int:=Jv.V
def WL:Int×Int×Int×Int→Prop:=Jv.O
theorem pA:Jv.B:=Bq ⟨bt,trivial⟩ (by kernel_rfl) (fun x=>by kernel_rfl)
def qQ:DCode:=(.seq [2,1] (.region [oa 0 1 (.boxB 0 4 (.t 0)),oa 1 2 (.allocB 1 [(.int .i64 0),(.int .i64 0),(.int .i64 0),(.int .i64 0)])]) (.seq [2,1] (.seq [5,2,1] (.region [oa 0 3 (.loadB 0 (some 4) (.t 1)),oF 1 4 G0 [(.t 3)],oa 2 5 (.un .not (.t 4))]) (.cond (.t 5) (.seq [2] (.region [ob 0 6 (.loadB 0 (some 4) (.t 1)),os 1 (.storeB 1 4 (.t 2) (.t 6))]) .ret) .skip)) (.seq [2] (.region [oa 0 7 (.fieldA 1 (.t 1)),ob 1 8 (.loadB 0 none (.t 7)),oa 2 9 (.build [(.int .i64 0),(.int .i64 0),(.int .i64 0),(.int .i64 0)] [(0,1,(.c (.int .i64 2))),(1,1,(.t 8))]),os 3 (.storeB 1 4 (.t 2) (.t 9))]) .ret)))
def Jy:Fn:=⟨⟨1,10,2,true,[.cell 2 (some 4)],qQ⟩,[.agg [(.frz,.int .i64),(.frz,.int .i64),(.frz,.int .i64),(.frz,.int .i64)]],.one (.agg [(.own,.int .i64),(.own,.int .i64),(.own,.int .i64),(.own,.int .i64)])⟩
theorem qR:Jy.A:=Bp ⟨bn,trivial⟩
def Tz:Int×Int×Int×Int→Int×Int×Int×Int:=Jy.V
def WZ:Int×Int×Int×Int→Prop:=Jy.O
theorem qG:Jy.B:=Bq ⟨bt,trivial⟩ (by kernel_rfl) (fun x=>by kernel_rfl)
def qf:DCode:=(.seq [1,0] (.region [oa 0 4 (.mv (.c .nils))]) (.seq [5,1,0] (.region [⟨0,some 8,.a false (.litSlice 5 0 [] []) (some MM),none,[]⟩,om 1 5 8]) (.seq [5] (.seq [6,5,1,0] (.region [oi 0 6 0]) (.block 0 (.loop [0,1,5,6] 1 (.seq [6,5,1,0] (.seq [11,6,5,1,0] (.region [om 0 9 6,om 1 10 1,oa 2 11 (.bin .lss (.t 9) (.t 10))]) (.cond (.t 11) .skip (.exit 0))) (.seq [6,5,1,0] (.block 1 (.seq [6,5,1,0] (.seq [15,6,5,1,0] (.region [om 0 14 0,op 1 15 Gx KB PH [(.t 14),(.c (.int .i64 2))]]) (.cond (.t 15) (.exit 1) .skip)) (.seq [7,6,5,1,0] (.region [om 0 16 0,op 1 17 Nz PE dz [(.t 16),(.c (.int .i64 4))],oa 2 7 (.allocB 0 [(.int .i64 0),(.int .i64 0),(.int .i64 0),(.int .i64 0)]),os 3 (.storeB 0 4 (.t 7) (.t 17))]) (.seq [7,6,5,1,0] (.seq [19,7,6,5,1,0] (.region [om 0 18 0,op 1 19 Gx KB PH [(.t 18),(.c (.int .i64 2))]]) (.cond (.t 19) (.region [oa 0 20 (.loadB 0 (some 4) (.t 7)),oF 1 21 Jv [(.t 20)],os 2 (.storeB 0 4 (.t 7) (.t 21))]) .skip)) (.region [om 0 22 5,om 1 23 6,oa 2 24 (.loadB 0 (some 4) (.t 7)),oF 3 25 Jy [(.t 24)],oa 4 26 (.build [(.int .i64 0),(.int .i64 0),(.int .i64 0),(.int .i64 0),(.int .i64 0)] [(0,1,(.t 23)),(1,4,(.t 25))]),⟨5,some 27,.a false (.litSlice 5 1 [(.int .i64 0),(.int .i64 0),(.int .i64 0),(.int .i64 0),(.int .i64 0)] [(0,5,(.t 26))]) (some MM),none,[]⟩,oa 6 28 (.app 5 (.t 22) (.t 27)),om 7 5 28]))))) (.region [om 0 12 6,oa 1 13 (.bin .add (.t 12) (.c (.int .i64 1))),om 2 6 13])))))) (.seq [4] (.region [om 0 29 5,om 1 4 29]) .ret))))
def Kx:DFun:=⟨2,30,1,false,[.tmp 4],qf⟩
@[irreducible] def Ny:A8:=F4 Kx.er.er
@[irreducible] def PF:B3:=DH Kx.er
theorem pQ:Dh Ny PF:=by unfold Ny PF;exact Ii (f:=Kx.er) ⟨SY,pN,SY,pF,qR,trivial⟩
def Tf:List HT:=[.one .frz (.int .i64)]
def Tm:List (Ql×CT):=[(.frz,.sl (.one (.int .u8))),(.own,.int .i64),(.own,.int .i64)]
def S9:QT:=.one (.one .own (.sl MM))
@[irreducible] def LL(x:(List (Int)×Int×Int)×Int):(List (Int×Int×Int×Int×Int))×(Int×Int):=(shut fun x=>IP Kx Tf Tm S9 x).1 x
@[irreducible] def Nn(x:(List (Int)×Int×Int)×Int):Prop:=(shut fun x=>II Kx Tf Tm S9 x).1 x
def dE:D6:=JO Tf Tm S9 Nn LL
theorem pP:FY PF dE:=by unfold PF;exact LQ (f:=Kx) (hs:=Tf) (cs:=Tm) (q:=S9) ⟨SW,pG,SW,pA,qG,trivial⟩ (by kernel_rfl) (fun x=>by kernel_rfl) (fun x h=>by unfold Nn at h;exact Eq.mp (congrFun (shut _).2 x) h) (fun x=>by unfold LL;exact(congrFun (shut _).2 x).symm)
def nD:DCode:=(.seq [0] (.region [oa 0 2 (.mv (.c .nils))]) (.seq [2] (.region [on 0 3 0,op 1 4 Kz Nw WY [(.t 3),(.c (.int .i64 4))],op 2 5 Ny PF dE [(.t 4),(.c (.int .i64 6))],om 3 2 5]) .ret))
def Jn:Fn:=⟨⟨1,6,0,false,[.tmp 2],nD⟩,[.one .frz (.sl (.one (.int .u8)))],.one (.one .own (.sl MM))⟩
theorem nX:Jn.A:=Bp ⟨cw,pQ,trivial⟩
def Av:List (Int)→List (Int×Int×Int×Int×Int):=Jn.V
def SA:List (Int)→Prop:=Jn.O
theorem oh:Jn.B:=Bq ⟨cD,pP,trivial⟩ (by kernel_rfl) (fun x=>by kernel_rfl)
end
section
set_option maxRecDepth 100000
theorem pM (x):He x=(bSel (bNot (Jh x)) x (bSel (iEq x.1 6) (2,0,x.2.2.1,0) (3,0,0,x.2.2.2))):=(Jv.v x).trans (by kernel_rfl)
theorem pq (x):WL x=(M8 x):=(Jv.o x).trans (by kernel_rfl)
theorem qy (x):Tz x=(bSel (bNot (Jh x)) x (2,x.2.1,0,0)):=(Jy.v x).trans (by kernel_rfl)
theorem qP (x):WZ x=(M8 x):=(Jy.o x).trans (by kernel_rfl)
def C0(x:(List (Int)×Int×Int)×Int)(x0:((List (Int×(Int×(Int×(Int×Int)))))×(Int×(Int×Int)))):=KA ((x.1.1,(Cn ((x.1.1,x0.2.2),2)).2),4)
def DA(x:(List (Int)×Int×Int)×Int)(x0:((List (Int×(Int×(Int×(Int×Int)))))×(Int×(Int×Int)))):=Cn ((x.1.1,(C0 x x0).2),2)
def Pc(x:(List (Int)×Int×Int)×Int)(x0:((List (Int×(Int×(Int×(Int×Int)))))×(Int×(Int×Int)))):=Tz ((bSel (DA x x0).1 (He (C0 x x0).1).1 (C0 x x0).1.1),(bSel (DA x x0).1 (He (C0 x x0).1).2.1 (C0 x x0).1.2.1),(bSel (DA x x0).1 (He (C0 x x0).1).2.2.1 (C0 x x0).1.2.2.1),(bSel (DA x x0).1 (He (C0 x x0).1).2.2.2 (C0 x x0).1.2.2.2))
def Pf(x:(List (Int)×Int×Int)×Int)(x0:((List (Int×(Int×(Int×(Int×Int)))))×(Int×(Int×Int)))):Bool:=(iLt x0.2.1 x.2)
def Ph(x:(List (Int)×Int×Int)×Int)(x0:((List (Int×(Int×(Int×(Int×Int)))))×(Int×(Int×Int)))):((List (Int×(Int×(Int×(Int×Int)))))×(Int×(Int×Int))):=((bSel (Cn ((x.1.1,x0.2.2),2)).1 x0.1 (lApp x0.1 [(x0.2.1,(Pc x x0))])),(iAdd .i64 x0.2.1 1),(bSel (Cn ((x.1.1,x0.2.2),2)).1 (Cn ((x.1.1,x0.2.2),2)).2.1 (bSel (DA x x0).1 (DA x x0).2.1 (DA x x0).2.1)),(bSel (Cn ((x.1.1,x0.2.2),2)).1 (Cn ((x.1.1,x0.2.2),2)).2.2 (bSel (DA x x0).1 (DA x x0).2.2 (DA x x0).2.2)))
def Wz(x:(List (Int)×Int×Int)×Int)(x0:((List (Int×(Int×(Int×(Int×Int)))))×(Int×(Int×Int)))):Prop:=(((iLt x0.2.1 x.2)=true→((Jr ((x.1.1,x0.2.2),2))∧(((Cn ((x.1.1,x0.2.2),2)).1=true→True)∧((Cn ((x.1.1,x0.2.2),2)).1=false→((Nl ((x.1.1,(Cn ((x.1.1,x0.2.2),2)).2),4))∧(((Jr ((x.1.1,(C0 x x0).2),2))∧(((DA x x0).1=true→(WL (C0 x x0).1))∧((DA x x0).1=false→True)))∧((WZ ((bSel (DA x x0).1 (He (C0 x x0).1).1 (C0 x x0).1.1),(bSel (DA x x0).1 (He (C0 x x0).1).2.1 (C0 x x0).1.2.1),(bSel (DA x x0).1 (He (C0 x x0).1).2.2.1 (C0 x x0).1.2.2.1),(bSel (DA x x0).1 (He (C0 x x0).1).2.2.2 (C0 x x0).1.2.2.2)))∧(AA (((List.length x0.1)+(List.length [(x0.2.1,(Pc x x0))]))*5)))))))))∧((iLt x0.2.1 x.2)=false→True))
theorem px (x):LL x=((Al (Pf x) (Ph x) ([],0,x.1.2)).1,(Al (Pf x) (Ph x) ([],0,x.1.2)).2.2):=by unfold LL;exact(congrFun (shut _).2 x).trans (by kernel_rfl)
theorem pk (x):Nn x=(LoopOk (Pf x) (Ph x) (Wz x) ([],0,x.1.2)):=by unfold Nn;exact(congrFun (shut _).2 x).trans (by kernel_rfl)
theorem nP (x):Av x=(LL ((Jt (x,4)),6)).1:=(Jn.v x).trans (by kernel_rfl)
theorem oz (x):SA x=((LI (x,4))∧(Nn ((Jt (x,4)),6))):=(Jn.o x).trans (by kernel_rfl)
attribute [irreducible] He WL Tz WZ Av SA
end
def Co(c:List Int×Int×Int):Prop:=0≤c.2.1∧c.2.1≤c.1.length∧c.1.length≤1048576
theorem Vz(x:Int):0≤iAnd .i64 x 255∧iAnd .i64 x 255≤255:=by
 rw[Zg]
 have h:(BitVec.ofInt IntKind.i64.bits x &&& BitVec.ofInt IntKind.i64.bits 255).toNat≤255:=by
  rw[BitVec.toNat_and];exact Nat.and_le_right
 have:IntKind.i64.wrap ((BitVec.ofInt IntKind.i64.bits x &&& BitVec.ofInt IntKind.i64.bits 255).toNat:Int)=((BitVec.ofInt IntKind.i64.bits x &&& BitVec.ofInt IntKind.i64.bits 255).toNat:Int):=Gz (by unfold As;omega);rw[this];omega
theorem U1(c:List Int×Int×Int)(h:Co c):Ia c∧0≤(BG c).1∧(BG c).1≤255∧Co (c.1,(BG c).2):=by
 obtain⟨h1,h2,h3⟩:=h;rw[qi,pe];simp only[AR,An,Am,Ay,Ar,Bt];refine⟨⟨by omega,by omega,fun _=>by omega,fun _=>trivial⟩,?_,?_,?_⟩
 · split
   · exact(Vz _).1
   · exact(Vz _).1
 · split
   · exact(Vz _).2
   · exact(Vz _).2
 · unfold Co;simp only;split
   · rw[AQ (by unfold As;omega)];omega
   · omega
theorem Hp(c:List Int×Int×Int)(n:Int)(h:Co c):Eo (c,n)∧Co (c.1,(AO (c,n)).2)∧(n≤0→(AO (c,n)).1=0)∧(0<n→0≤(AO (c,n)).1∧(AO (c,n)).1<n):=by
 rw[oP,oO];obtain⟨a1,a2,a3,a4⟩:=U1 c h;obtain⟨b1,b2,b3,b4⟩:=U1 _ a4;obtain⟨c1,c2,c3,c4⟩:=U1 _ b4;obtain⟨d1,d2,d3,d4⟩:=U1 _ c4;simp only at b1 b2 b3 b4 c1 c2 c3 c4 d1 d2 d3 d4 ⊢;simp only[AR,B6,Ar,Bt];by_cases hn:n≤0
 · simp only[Ab hn];exact⟨⟨fun _=>trivial,fun h=>absurd hn h⟩,h,fun _=>trivial,fun h=>by omega⟩
 · simp only[Ad hn];by_cases hm:n≤256
   · simp only[Ab hm];refine⟨⟨fun h=>absurd h hn,fun _=>⟨fun _=>⟨a1,by omega⟩,fun h=>absurd hm h⟩⟩,a4,fun h=>absurd h hn,fun _=>?_⟩;rw[YZ a2];exact⟨Int.emod_nonneg _ (by omega),Int.emod_lt_of_pos _ (by omega)⟩
   · simp only[Ad hm];refine⟨⟨fun h=>absurd h hn,fun _=>⟨fun h=>absurd h hm,fun _=>⟨a1,b1,c1,d1,by omega⟩⟩⟩,d4,fun h=>absurd h hn,fun _=>?_⟩;generalize (BG c).1=p at a2 a3;generalize (BG (c.1,(BG c).2)).1=q at b2 b3;generalize (BG (c.1,(BG (c.1,(BG c).2)).2)).1=r at c2 c3;generalize (BG (c.1,(BG (c.1,(BG (c.1,(BG c).2)).2)).2)).1=s at d2 d3;rw[UE (a:=p) (by unfold As;omega),UE (a:=q) (by unfold As;omega),UE (a:=r) (by unfold As;omega),AQ (a:=p*16777216) (by unfold As;omega),AQ (a:=p*16777216+q*65536) (by unfold As;omega),AQ (a:=p*16777216+q*65536+r*256) (by unfold As;omega),YZ (by omega)];exact⟨Int.emod_nonneg _ (by omega),Int.emod_lt_of_pos _ (by omega)⟩
theorem UZ(c:List Int×Int×Int)(n:Int)(h:Co c):Jr (c,n)∧Co (c.1,(Cn (c,n)).2):=by
 obtain⟨a1,a2,_⟩:=Hp c n h;rw[pZ,pV];exact⟨a1,a2⟩
theorem x7(c:List Int×Int×Int)(l:List Int)(hl:0<l.length)(h:Co c):M9 (c,l)∧Co (c.1,(CP (c,l)).2)∧(CP (c,l)).1∈l:=by
 obtain⟨a1,a2,_,a4⟩:=Hp c (lLen l) h;rw[nr,ny];have a4:=a4 (by rw[Am];omega);simp only;generalize (AO (c,lLen l)).1=i at a4 ⊢;rw[Am] at a4;refine⟨⟨a1,a4,by rw[Ay];omega⟩,a2,?_⟩;rw[BB,Ay];exact KL l _ _ (by omega)
theorem yQ(x:List Int)(h:x.length≤1048576):NC x∧Co (Jw x)∧(Jw x).1=x:=by
 rw[ql,qD];refine⟨?_,⟨by simp,by simp,h⟩,rfl⟩;refine Ov (fun st=>st.2) x.length (by omega) (fun st _ _ hc=>?_) (fun _=>rfl) (fun st h0 h1=>?_) (by simp) (by simp)
 · unfold WC at hc;simp only[Ax,An,Am,Af,Ar] at hc;exact hc.1
 · unfold ca;refine⟨fun hc=>?_,fun _=>trivial⟩;simp only[Ax,An,Am,Af,Ar] at hc;rw[Ay];omega
theorem yn(x:List Int):KF x=decide (1048576<x.length)∧TK x:=by
 rw[su,rW];refine⟨?_,trivial⟩;rw[C4,Am];congr 1;exact propext (by omega)
def J1(a:Int×Int×Int×Int):Prop:=B8 a=true∧a.1≠1
def kT(a:Int×Int×Int×Int):Prop:=J1 a∧a.1≠6∧a.1≠7
theorem Du(k c m n:Int):B8 (k,c,m,n)=true ↔
 ((k=0∨k=1∨k=10)∧c=0∧m=0∧n=0)∨(k=2∧n=0∧0≤c∧c≤56∧0≤m∧m≤15∧(c≠0∨m≠0))∨((k=3∨k=4)∧c=0∧m=0∧1≤n∧n≤3)∨((k=5∨k=9)∧c=0∧m=0∧0≤n∧n≤3) ∨
 (k=6∧1≤c∧c≤56∧1≤m∧m≤15∧n=0)∨(k=7∧1≤c∧c≤56∧m=0∧1≤n∧n≤3)∨(k=8∧c=0∧1≤m∧m≤15∧n=0):=by
 rw[Sv]
 simp only[AR,BC,Ax,Bc,Cm,SV,WJ,bS,CE,B6]
 repeat' split
 all_goals simp only[Af,BL,B9,Ee,HN,Cy,Ar,Bt,Iw,ID,AY,Hw,GF,Iw,decide_not] at *
 all_goals omega
theorem dY(a:Int×Int×Int×Int):Jh a=(B8 a&&(decide (a.1=6)||decide (a.1=7))):=by
 rw[bp,Jz,Ax,BC,Bc,Bc]
theorem rM{a:Int×Int×Int×Int}(h:J1 a):J1 (He a):=by
 obtain⟨k,c,m,n⟩:=a;obtain⟨h1,h2⟩:=h;rw[pM,dY,h1];simp only[AH,AR,Bc,QU] at h2 ⊢;have h3:=(Du k c m n).1 h1;split
 · exact⟨h1,h2⟩
 · next hb=>
   simp only[B9,ID,BL,Ar] at hb;split
   · next hk=>
     rw[Ar] at hk;exact⟨(Du _ _ _ _).2 (by omega),by simp⟩
   · next hk=>
     rw[Ar] at hk;exact⟨(Du _ _ _ _).2 (by omega),by simp⟩
theorem eY{a:Int×Int×Int×Int}(h:J1 a):kT (Tz a):=by
 obtain⟨k,c,m,n⟩:=a;obtain⟨h1,h2⟩:=h;rw[qy,dY,h1];simp only[AH,AR,Bc,QU] at h2 ⊢;have h3:=(Du k c m n).1 h1;split
 · next hb=>
   simp only[B9,Cy,Bt] at hb;exact⟨⟨h1,h2⟩,hb⟩
 · next hb=>
   simp only[B9,ID,BL,Ar] at hb;exact⟨⟨(Du _ _ _ _).2 (by omega),by simp⟩,by simp⟩
theorem wV(c:List Int×Int×Int)(h:Co c):Nl (c,4)∧Co (c.1,(KA (c,4)).2)∧J1 (KA (c,4)).1:=by
 rw[p6,pO]
 have em:iMax 1 (iSub .i64 4 1)=3:=by rw[Hq (by unfold As;omega),ZK];decide
 have em':iMax 1 4=4:=by rw[ZK];decide
 obtain⟨a1,a2,_,a4⟩:=Hp c 56 h;have a4:=a4 (by omega);obtain⟨b1,b2,_,b4⟩:=Hp _ 15 a2;have b4:=b4 (by omega);change Co (c.1,(Gt (c,4)).2) at b2;change 0≤(Gt (c,4)).1∧(Gt (c,4)).1<15 at b4;obtain⟨c1,c2⟩:=UZ _ 2 b2;change Co (c.1,(Cg (c,4)).2) at c2
 have hc2:Co (c.1,(bSel (Cg (c,4)).1 (Cg (c,4)).2.1 (Cg (c,4)).2.1),(bSel (Cg (c,4)).1 (Cg (c,4)).2.2 (Cg (c,4)).2.2)):=by
  simp only[AR,ite_self];exact c2
 obtain⟨d1,d2,_,d4⟩:=Hp _ (iMax 1 (iSub .i64 4 1)) hc2;change Co (c.1,(Dz (c,4)).2) at d2
 have d4:0≤(Dz (c,4)).1∧(Dz (c,4)).1<3:=by
  have:=d4 (by rw[em];omega);rw[em] at this
  have e:Dz (c,4)=AO ((c.1,(bSel (Cg (c,4)).1 (Cg (c,4)).2.1 (Cg (c,4)).2.1),(bSel (Cg (c,4)).1 (Cg (c,4)).2.2 (Cg (c,4)).2.2)),3):=by unfold Dz;rw[em]
  rw[e];exact this
 obtain⟨e1,e2,_,e4⟩:=Hp _ 16 d2;have e4:=e4 (by omega);change Co (c.1,(AM (c,4)).2) at e2;change 0≤(AM (c,4)).1∧(AM (c,4)).1<16 at e4;obtain⟨f1,f2,_,f4⟩:=Hp _ 4 e2;have f4:=f4 (by omega);change Co (c.1,(Na (c,4)).2) at f2;change 0≤(Na (c,4)).1∧(Na (c,4)).1<4 at f4;obtain⟨g1,g2,_,g4⟩:=Hp _ 3 e2;have g4:=g4 (by omega);change Co (c.1,(Jl (c,4)).2) at g2;change 0≤(Jl (c,4)).1∧(Jl (c,4)).1<3 at g4;obtain⟨i1,i2,_,i4⟩:=Hp _ (iMax 1 4) e2;have i4:=i4 (by rw[em'];omega);change Co (c.1,(Nc (c,4)).2) at i2;change 0≤(Nc (c,4)).1∧(Nc (c,4)).1<iMax 1 4 at i4;rw[em'] at i4
 have hM:1≤bSel (Cg (c,4)).1 2 (iAdd .i64 1 (Gt (c,4)).1)∧bSel (Cg (c,4)).1 2 (iAdd .i64 1 (Gt (c,4)).1)≤15:=by
  rw[AR,AQ (by unfold As;omega)];split<;>omega
 have hC:1≤iAdd .i64 1 (AO (c,56)).1∧iAdd .i64 1 (AO (c,56)).1≤56:=by rw[AQ (by unfold As;omega)];omega
 have hN:1≤iAdd .i64 1 (Dz (c,4)).1∧iAdd .i64 1 (Dz (c,4)).1≤3:=by rw[AQ (by unfold As;omega)];omega
 refine⟨?_,?_⟩
 · refine⟨a1,b1,c1,d1,e1,fun _=>trivial,fun _=>⟨fun _=>trivial,fun _=>⟨fun _=>trivial,fun _=>⟨fun _=>trivial,fun _=>⟨fun _=>f1,fun _=>⟨fun _=>trivial,fun _=>⟨fun _=>i1,fun _=>⟨fun _=>⟨fun _=>⟨g1,?_,?_⟩,fun _=>trivial⟩,fun _=>trivial⟩⟩⟩⟩⟩⟩⟩⟩
   · simp only[AB,AD];omega
   · simp only[AB,AD,Ay];omega
 generalize bSel (Cg (c,4)).1 2 (iAdd .i64 1 (Gt (c,4)).1)=M at hM ⊢;generalize iAdd .i64 1 (AO (c,56)).1=C at hC ⊢;generalize iAdd .i64 1 (Dz (c,4)).1=N at hN ⊢;generalize Nc (c,4)=s7 at i2 i4 ⊢;generalize Jl (c,4)=s6 at g2 g4 ⊢;generalize Na (c,4)=s5 at f2 f4 ⊢;generalize AM (c,4)=s4 at e2 e4 ⊢
 have hL:J1 (lGet [(3,0,0,N),(4,0,0,N),(7,C,0,N)] (iNat s6.1) (0,0,0,0)):=by
  rw[BB,Ay]
  have:s6.1=0∨s6.1=1∨s6.1=2:=by omega
  rcases this with e|e|e
  · rw[e];exact⟨(Du 3 0 0 N).2 (by omega),by simp⟩
  · rw[e];exact⟨(Du 4 0 0 N).2 (by omega),by simp⟩
  · rw[e];exact⟨(Du 7 C 0 N).2 (by omega),by simp⟩
 generalize lGet [(3,0,0,N),(4,0,0,N),(7,C,0,N)] (iNat s6.1) (0,0,0,0)=L at hL ⊢
 have g:∀ (b:Bool) (p q:(Int×Int×Int×Int)×Int×Int),(Co (c.1,p.2)∧J1 p.1)→(Co (c.1,q.2)∧J1 q.1)→Co (c.1,(bSel b p q).2)∧J1 (bSel b p q).1:=fun b p q hp hq=>by
  rw[AR];cases b
  · exact hq
  · exact hp
 refine g _ _ _ ⟨?_,(Du _ _ _ _).2 (by omega),by simp⟩ (g _ _ _ ⟨e2,(Du _ _ _ _).2 (by omega),by simp⟩ (g _ _ _ ⟨e2,(Du _ _ _ _).2 (by omega),by simp⟩ (g _ _ _ ⟨e2,(Du _ _ _ _).2 (by omega),by simp⟩ (g _ _ _ ⟨e2,(Du _ _ _ _).2 (by omega),by simp⟩ (g _ _ _ ⟨f2,(Du _ _ _ _).2 (by omega),by simp⟩ (g _ _ _ ⟨e2,(Du _ _ _ _).2 (by omega),by simp⟩ (g _ _ _ ⟨i2,(Du _ _ _ _).2 (by omega),by simp⟩ ⟨g2,hL⟩)))))));simp only[AR,ite_self];exact e2
def UQ(n:Int)(l:List (Int×Int×Int×Int×Int)):Prop:=(∀ a∈l,KZ a)∧l.Pairwise (fun a b=>a.1<b.1)∧(l.length:Int)≤n
theorem wS(c:List Int×Int×Int)(n:Int)(h:Co c)(h0:0≤n)(h1:n≤32):Nn (c,n)∧Co (c.1,(LL (c,n)).2)∧UQ n (LL (c,n)).1:=by
 rw[pk,px]
 have key:=Hn (c:=Pf (c,n)) (f:=Ph (c,n)) (p:=Wz (c,n)) (fun st=>Co (c.1,st.2.2)∧0≤st.2.1∧st.2.1≤n∧UQ st.2.1 st.1∧∀ a∈st.1,a.1<st.2.1) (fun st=>(n-st.2.1).toNat) (fun st hI=>by
  obtain⟨l,k,cu⟩:=st;obtain⟨i0,i1,i2,⟨i3,i4,i5⟩,i6⟩:=hI;simp only at i0 i1 i2 i3 i4 i5 i6;have s1:iAdd .i64 k 1=k+1:=AQ (by unfold As;omega);obtain⟨b1,b2⟩:=UZ (c.1,cu) 2 i0;obtain⟨d1,d2,d3⟩:=wV _ b2;have eD:C0 (c,n) (l,k,cu)=KA ((c.1,(Cn ((c.1,cu),2)).2),4):=rfl;have eO:DA (c,n) (l,k,cu)=Cn ((c.1,(C0 (c,n) (l,k,cu)).2),2):=rfl;obtain⟨e1,e2⟩:=UZ _ 2 d2;simp only at e1 e2;rw[← eD] at d2 d3 e1 e2;rw[← eO] at e2
  have hT:kT (Pc (c,n) (l,k,cu)):=by
   unfold Pc;generalize DA (c,n) (l,k,cu)=O;generalize (C0 (c,n) (l,k,cu)).1=D at d3 ⊢;have hh:=rM d3;simp only[AR];cases O.1
   · exact eY d3
   · exact eY hh
  refine⟨?_,fun hc=>?_⟩
  · unfold Wz;simp only;refine⟨fun hc=>⟨b1,fun _=>trivial,fun _=>⟨?_,⟨e1,fun _=>by rw[pq];exact Xo _,fun _=>trivial⟩,by rw[qP];exact Xo _,?_⟩⟩,fun _=>trivial⟩
    · exact d1
    · unfold AA;simp only[AB,AD];omega
  · unfold Pf at hc;simp only[An,Ar] at hc;unfold Ph;simp only[s1,BW];generalize Pc (c,n) (l,k,cu)=T at hT ⊢;generalize DA (c,n) (l,k,cu)=O at e2 ⊢;generalize Cn ((c.1,cu),2)=B at b2 ⊢;have hT':KZ (k,T):=⟨i1,by simp only;omega,hT.1.1,hT.1.2,hT.2⟩;refine⟨⟨?_,by omega,by omega,?_,?_⟩,by omega⟩
    · simp only[AR,ite_self];cases B.1
      · exact e2
      · exact b2
    · rw[AR];split
      · exact⟨i3,i4,by omega⟩
      · refine⟨fun a ha=>?_,List.pairwise_append.2 ⟨i4,List.pairwise_singleton _ _,fun a ha b hb=>?_⟩,by simp only[BM,AB,AD];omega⟩
        · rw[B0,List.mem_singleton] at ha;rcases ha with ha|rfl
          · exact i3 a ha
          · exact hT'
        · rw[List.mem_singleton] at hb;subst hb;exact i6 a ha
    · intro a ha;rw[AR] at ha;split at ha
      · have:=i6 a ha;omega
      · rw[B0,List.mem_singleton] at ha;rcases ha with ha|rfl
        · have:=i6 a ha;omega
        · simp only;omega) (x0:=([],0,c.2)) ⟨h,by simp,h0,⟨by simp,List.Pairwise.nil,by simp⟩,by simp⟩
 obtain⟨k1,⟨k2,k3,k4,⟨k5,k6,k7⟩,k8⟩,_⟩:=key;exact⟨k1,k2,k5,k6,by simp only;omega⟩
theorem iT(x:List Int)(k:Int)(h:x.length≤1048576):LI (x,k)∧Co (Jt (x,k)):=by
 rw[pn,pD];obtain⟨a1,a2,_⟩:=yQ x h;exact⟨a1,a2⟩
theorem rU(x:List Int)(h:x.length≤1048576):SA x∧UQ 6 (Av x):=by
 rw[oz,nP];obtain⟨a1,a2⟩:=iT x 4 h;obtain⟨b1,_,b3⟩:=wS _ 6 a2 (by omega) (by omega);exact⟨⟨a1,b1⟩,b3⟩
theorem qS(a b:Int×List Int)(h:a.2.length≤1048576):bc (a,b)∧O7 (a,b):=by
 obtain⟨m,a⟩:=a;obtain⟨n,b⟩:=b;rw[bc,mO,ox];have h:a.length≤1048576:=h
 have lp:∀ {c:Int→Bool} {f:Int→Int} {p:Int→Prop},(∀ st,c st=true→st<a.length)→(∀ st,f st=iAdd .i64 st 1)→(∀ st:Int,0≤st→st≤a.length→p st)→LoopOk c f p 0:=fun hc hf hp=>
  Ov (fun st=>st) a.length (by omega) (fun st _ _ h=>hc st h) hf hp (by simp) (by simp)
 have cc:∀ {st:Int} {t:Bool},bAnd (iLt st (lLen a)) t=true→st<a.length:=fun {st t} h=>by
  rw[Ax,An,Am,Af,Ar] at h;exact h.1
 have pp:a.length=b.length→∀ st:Int,0≤st→iLt st (lLen a)=true→(((0:Int)≤st∧st<(a.length:Int))∧iNat st<a.length∧((0:Int)≤st∧st<(b.length:Int))∧iNat st<b.length):=fun hl st h0 h1=>by
  rw[An,Am,Ar] at h1;rw[Ay];omega
 refine⟨⟨fun _=>trivial,fun hb=>?_⟩,fun _=>⟨fun _=>trivial,fun hb=>?_⟩,fun _=>trivial⟩
 · simp only[BC,Cm,Am,Cy,Ee,Ar] at hb;exact lp (fun st hc=>cc hc) (fun _=>rfl) (fun st h0 h1=>⟨pp (by omega) st h0,fun _=>trivial⟩)
 · simp only[Cm,Am,Ee,Ar] at hb;exact lp (fun st hc=>cc hc) (fun _=>rfl) (fun st h0 h1=>⟨pp (by omega) st h0,fun _=>trivial⟩)
def IZ{α:Type}(w:α→Nat)(l:List α)(m:Nat):Nat:=l.foldl (fun m a=>m ||| w a) m
theorem Zi{α:Type}(w:α→Nat)(n:Nat):∀ (l:List α) (m:Nat),m<2^n→(∀ a∈l,w a<2^n)→IZ w l m<2^n
 |[],m,h,_=>h
 |a::l,m,h,hl=>Zi w n l _ (Nat.or_lt_two_pow h (hl a Fw)) fun b hb=>hl b (List.mem_cons_of_mem _ hb)
theorem YH{α:Type}(w:α→Nat)(g:Int→α→Int)(n:Nat):∀ (l:List α) (m:Nat),m<2^n→(∀ a∈l,w a<2^n)→(∀ a∈l,∀ m:Nat,m<2^n→g (m:Int) a=((m ||| w a:Nat):Int))→l.foldl g (m:Int)=((IZ w l m:Nat):Int)
 |[],m,_,_,_=>rfl
 | a::l,m,h,hl,hg=>by
   have ha:=hl a Fw
   rw[List.foldl_cons,hg a Fw m h]
   exact YH w g n l _ (Nat.or_lt_two_pow h ha) (fun b hb=>hl b (List.mem_cons_of_mem _ hb)) fun b hb=>hg b (List.mem_cons_of_mem _ hb)
def HS(a:Int×Int×Int×Int×Int):Nat:=if a.2.1=2∨a.2.1=8 then a.2.2.2.1.toNat else 0
theorem jd{a:Int×Int×Int×Int×Int}(h:KZ a):HS a<2^4:=by
 obtain⟨_,_,h,_⟩:=h;obtain⟨q,k,c,m,n⟩:=a;have:=(Du k c m n).1 h;unfold HS;simp only;split
 · have:(2:Nat)^4=16:=by decide
   omega
 · decide
theorem zW{m:Nat}{a:Int×Int×Int×Int×Int}(h:KZ a)(hm:m<2^4):bSel (bOr (iEq a.2.1 2) (iEq a.2.1 8)) (iOr .i64 (m:Int) a.2.2.2.1) (m:Int)=((m ||| HS a:Nat):Int):=by
 obtain⟨_,_,h,_⟩:=h;obtain⟨q,k,c,n,z⟩:=a;have:=(Du k c n z).1 h
 have e4:(2:Nat)^4=16:=by decide
 unfold HS;simp only[AR,BC,Bc,BL,Ar];split
 · obtain⟨p,rfl⟩:=Int.eq_ofNat_of_zero_le (show 0≤n by omega);rw[ZM (by omega) (by omega),AK]
 · rw[Nat.or_zero]
def HeldV(x:BI):Prop:=x.length≤1048576∧(∀ a∈x,KZ a)∧x.Pairwise (fun a b=>a.1≠b.1)
theorem HeldV.is{x:BI}(h:HeldV x):CW x=true:=tT h.1 h.2.1 h.2.2
theorem HeldV.of{n:Int}{x:BI}(h:UQ n x)(hn:n≤1000):HeldV x:=⟨by have:=h.2.2;omega,h.1,h.2.1.imp fun h e=>by omega⟩
def Rm(s:Int)(a:Int×Int×Int×Int×Int):Int:=bSel (bOr (iEq a.2.1 2) (iEq a.2.1 8)) (iOr .i64 s a.2.2.2.1) s
theorem HeldV.mods{x:BI}(h:HeldV x):x.foldl Rm 0=((IZ HS x 0:Nat):Int):=
 YH HS Rm 4 x 0 (by decide) (fun a ha=>jd (h.2.1 a ha)) fun a ha m hm=>zW (h.2.1 a ha) hm
theorem HeldV.report{x:BI}(h:HeldV x):AG x=(x.foldl Rm 0,Js (B5 x)):=by
 rw[bK,h.is];obtain⟨m1,m2,m3,m4⟩:=jU x h.1;rw[m3,m4];obtain⟨_,e⟩:=fN (c:=Jd x) (f:=Kf x) (p:=fun _=>True) x (0,0,0,0,0) Rm 0 h.1 (fun s i hi=>by simp only[Jd,An,Am,GM]) (fun s i hi=>by simp only[Kf,BB,Ay,AK,Rm]) (fun _ _ _=>trivial);rw[e];simp only[AH,HG,BQ]
theorem o7(r:Int×List Int)(h:r.2.length≤1048576):Sn (r,r)=true:=by
 rw[mJ,nY];obtain⟨_,k,hk,h2,h3⟩:=Of (c:=fun(x0:Int)=>(bAnd (iLt x0 (lLen r.2)) (bNot (iNe (lGet r.2 (iNat x0) 0) (lGet r.2 (iNat x0) 0))))) (f:=fun x0=>iAdd .i64 x0 1) (p:=fun _=>True) (x0:=0) r.2.length (fun i=>(i:Int)) (fun _=>true) rfl (fun i hi _=>by simp only[Ax,AH,Cm,An,Am,GM];simp) (fun i hi _=>by rw[AQ (by unfold As;omega)];simp) (fun _ _ _=>trivial)
 have:=h3.2 fun _ _=>rfl
 simp only[h2,this];simp[Ax,AH,Bc,Cm,An,Am]
theorem rO(r:Int×List Int)(hl:r.2.length≤1048576)(h0:0≤r.1)(h1:r.1≤15)(hp:r.2.Pairwise (· < ·))(hc:∀ z∈r.2,1≤z∧z≤56):Po r∧LD r=true:=by
 obtain⟨m,l⟩:=r;simp only at hl h0 h1 hp hc
 have hg:∀ i,i<l.length→E0 (l.getD i 0)=true:=fun i hi=>by
  have:=hc _ (KL l i 0 hi);rw[SV,Ax,CE,B6];simp[-List.getD_eq_getElem?_getD];omega
 have hs:∀ i:Nat,(i:Int) > 0→iSub .i64 (i:Int) 1=((i-1:Nat):Int)∨9223372036854775808≤(i:Int):=fun i hi=>by
  by_cases h:(i:Int)<9223372036854775808
  · left;rw[Hq (by unfold As;omega)];omega
  · right;omega
 obtain⟨g1,k,hk,h2,h3⟩:=Of (c:=R8 (m,l)) (f:=R7) (p:=Wc (m,l)) (x0:=0) l.length (fun i=>(i:Int)) (fun _=>true) rfl (fun i hi _=>by
  simp only[R8,Ax,AH,BC,An,C4,CE,Am,BB,Ay,AK,GM];by_cases h:i<l.length
  · rw[hg i h];by_cases h0:(i:Int) > 0
    · have hi1:i-1<l.length:=by omega
      have hlt:=List.pairwise_iff_getElem.1 hp (i-1) i hi1 h (by omega);rw[← KX l 0 h,← KX l 0 hi1] at hlt;rw[Hq (by unfold As;omega),show ((i:Int)-1).toNat=i-1 by omega];simp[h,-List.getD_eq_getElem?_getD];omega
    · simp[h,h0,-List.getD_eq_getElem?_getD];omega
  · simp[h]) (fun i hi _=>by unfold R7;rw[AQ (by unfold As;omega)];simp) (fun i hi _=>by
  unfold Wc;simp only[An,C4,Am,Ay,AK,Ar,cR];refine⟨fun h=>⟨⟨by omega,by omega⟩,by omega,trivial,fun _=>trivial,fun _=>⟨fun h0=>?_,fun _=>trivial⟩⟩,fun _=>trivial⟩;rw[Hq (by unfold As;omega)]
  exact⟨⟨by omega,by omega⟩,by omega⟩)
 have:=h3.2 fun _ _=>rfl
 rw[nM,nJ];simp only[h2,this];refine⟨⟨fun _=>trivial,fun _=>g1⟩,?_⟩;simp[Ax,AH,BC,An,C4,Am];omega
section
set_option maxRecDepth 8000
def pz:DCode:=(.seq [0] (.region [oa 0 2 (.mv (.c .nils))]) (.seq [3,0] (.region [⟨0,some 7,.a false (.litSlice 3 0 [] []) (some I0),none,[]⟩,om 1 3 7]) (.seq [3] (.seq [4,3,0] (.region [om 0 8 0,op 1 9 CB EY Gw [(.t 8),(.c (.int .i64 3))],om 2 4 9]) (.block 0 (.loop [0,3,4] 1 (.seq [4,3,0] (.seq [11,4,3,0] (.region [om 0 10 4,oa 1 11 (.bin .gtr (.t 10) (.c (.int .i64 0)))]) (.cond (.t 11) .skip (.exit 0))) (.seq [4,3,0] (.block 1 (.seq [5,4,3,0] (.region [om 0 14 0,op 1 15 CB EY Gw [(.t 14),(.c (.int .i64 56))],oa 2 16 (.bin .add (.c (.int .i64 1)) (.t 15)),om 3 17 0,⟨4,some 18,.a false (.litSlice 1 4 [(.int .i64 0),(.int .i64 0),(.int .i64 0),(.int .i64 0)] [(0,1,(.c (.int .i64 0))),(1,1,(.c (.int .i64 0))),(2,1,(.c (.int .i64 2))),(3,1,(.c (.int .i64 1)))]) (some (.one (.int .i64))),none,[]⟩,⟨5,some 19,.callp true Nf Pj bz [(.t 17),(.t 18)],none,[]⟩,oa 6 20 (.build [(.int .i64 0),(.int .i64 0),(.int .i64 0)] [(1,1,(.t 16)),(2,1,(.t 19))]),oa 7 5 (.allocB 0 [(.int .i64 0),(.int .i64 0),(.int .i64 0)]),os 8 (.storeB 0 3 (.t 5) (.t 20))]) (.seq [5,4,3,0] (.seq [22,5,4,3,0] (.region [om 0 21 0,op 1 22 Gx KB PH [(.t 21),(.c (.int .i64 2))]]) (.cond (.t 22) (.seq [4,3,0] (.region [om 0 23 3,ob 1 24 (.loadB 0 (some 3) (.t 5)),⟨2,some 25,.a false (.litSlice 3 1 [(.int .i64 0),(.int .i64 0),(.int .i64 0)] [(0,3,(.t 24))]) (some I0),none,[]⟩,oa 3 26 (.app 3 (.t 23) (.t 25)),om 4 3 26]) (.exit 1)) .skip)) (.seq [5,4,3,0] (.region [oa 0 27 (.fieldA 0 (.t 5)),os 1 (.storeB 0 1 (.t 27) (.c (.int .i64 1)))]) (.seq [6,5,4,3,0] (.region [ob 0 28 (.loadB 0 (some 3) (.t 5)),oa 1 6 (.allocB 1 [(.int .i64 0),(.int .i64 0),(.int .i64 0)]),os 2 (.storeB 1 3 (.t 6) (.t 28))]) (.seq [6,5,4,3,0] (.region [oa 0 29 (.fieldA 0 (.t 6)),os 1 (.storeB 1 1 (.t 29) (.c (.int .i64 2)))]) (.region [ob 1 31 (.loadB 0 (some 3) (.t 5)),on 2 32 3,oa 3 33 (.len (.t 32)),om 0 30 3,oa 4 34 (.bin .sub (.c (.int .i64 60)) (.t 33)),oa 5 35 (.bin .sub (.t 34) (.c (.int .i64 10))),oa 6 36 (.build [(.int .i64 0),(.int .i64 0),(.int .i64 0)] [(1,1,(.t 35)),(2,1,(.c (.int .i64 8)))]),ob 7 37 (.loadB 1 (some 3) (.t 6)),⟨8,some 38,.a false (.litSlice 3 3 [(.int .i64 0),(.int .i64 0),(.int .i64 0),(.int .i64 0),(.int .i64 0),(.int .i64 0),(.int .i64 0),(.int .i64 0),(.int .i64 0)] [(0,3,(.t 31)),(3,3,(.t 36)),(6,3,(.t 37))]) (some I0),none,[]⟩,oa 9 39 (.app 3 (.t 30) (.t 38)),om 10 3 39]))))))) (.region [om 0 12 4,oa 1 13 (.bin .sub (.t 12) (.c (.int .i64 1))),om 2 4 13])))))) (.seq [2] (.region [om 0 40 3,om 1 2 40]) .ret))))
def Ku:DFun:=⟨1,41,2,false,[.tmp 2],pz⟩
@[irreducible] def Nv:A8:=F4 Ku.er.er
@[irreducible] def PG:B3:=DH Ku.er
theorem qk:Dh Nv PG:=by unfold Nv PG;exact Ii (f:=Ku.er) ⟨G8,G8,m9,SY,trivial⟩
def Ts:List HT:=[]
def Tp:List (Ql×CT):=[(.frz,.sl (.one (.int .u8))),(.own,.int .i64),(.own,.int .i64)]
def Th:QT:=.one (.one .own (.sl I0))
@[irreducible] def LK(x:List (Int)×Int×Int):(List (Int×Int×Int))×(Int×Int):=(shut fun x=>IP Ku Ts Tp Th x).1 x
@[irreducible] def Nq(x:List (Int)×Int×Int):Prop:=(shut fun x=>II Ku Ts Tp Th x).1 x
def dt:D6:=JO Ts Tp Th Nq LK
theorem pJ:FY PG dt:=by unfold PG;exact LQ (f:=Ku) (hs:=Ts) (cs:=Tp) (q:=Th) ⟨G3,G3,nu,SW,trivial⟩ (by kernel_rfl) (fun x=>by kernel_rfl) (fun x h=>by unfold Nq at h;exact Eq.mp (congrFun (shut _).2 x) h) (fun x=>by unfold LK;exact(congrFun (shut _).2 x).symm)
def nj:DCode:=(.seq [0] (.region [oa 0 2 (.mv (.c .nils))]) (.seq [2] (.region [on 0 3 0,op 1 4 Kz Nw WY [(.t 3),(.c (.int .i64 6))],op 2 5 Nv PG dt [(.t 4)],om 3 2 5]) .ret))
def Ji:Fn:=⟨⟨1,6,0,false,[.tmp 2],nj⟩,[.one .frz (.sl (.one (.int .u8)))],.one (.one .own (.sl I0))⟩
theorem nw:Ji.A:=Bp ⟨cw,qk,trivial⟩
def Aq:List (Int)→List (Int×Int×Int):=Ji.V
def Sl:List (Int)→Prop:=Ji.O
theorem nt:Ji.B:=Bq ⟨cD,pJ,trivial⟩ (by kernel_rfl) (fun x=>by kernel_rfl)
def sC:DCode:=(.seq [1,0] (.region [oa 0 4 (.mv (.c (.bool false)))]) (.seq [] (.seq [5,1,0] (.region [oi 0 5 0]) (.block 0 (.loop [0,1,5] 1 (.seq [5,1,0] (.seq [9,5,1,0] (.region [om 0 6 5,on 1 7 0,oa 2 8 (.len (.t 7)),oa 3 9 (.bin .lss (.t 6) (.t 8))]) (.cond (.t 9) .skip (.exit 0))) (.seq [5,1,0] (.block 1 (.seq [17,5,1,0] (.region [on 0 12 0,om 1 13 5,oa 2 14 (.indexA 1 (.t 12) (.t 13)),oa 3 15 (.loadH none (.t 14)),om 4 16 1,oa 5 17 (.bin .eql (.t 15) (.t 16))]) (.cond (.t 17) (.seq [4] (.region [oa 0 4 (.mv (.c (.bool true)))]) .ret) .skip))) (.region [om 0 10 5,oa 1 11 (.bin .add (.t 10) (.c (.int .i64 1))),om 2 5 11])))))) (.seq [4] (.region [oa 0 4 (.mv (.c (.bool false)))]) .ret)))
def JB:Fn:=⟨⟨2,18,0,true,[.tmp 4],sC⟩,[.one .frz (.sl (.one (.int .i64))),.one .frz (.int .i64)],.one (.one .own (.bool))⟩
theorem sw:JB.A:=Bp trivial
def TV:List (Int)×Int→Bool:=JB.V
def TL:List (Int)×Int→Prop:=JB.O
theorem r7:JB.B:=Bq trivial (by kernel_rfl) (fun x=>by kernel_rfl)
def ow:DCode:=(.seq [0] (.region [oa 0 2 (.mv (.c (.bool false)))]) (.seq [0] (.seq [13,0] (.region [on 0 12 0,oF 1 13 JA [(.t 12)]]) (.cond (.t 13) (.seq [2] (.region [oa 0 2 (.mv (.c (.bool true)))]) .ret) .skip)) (.seq [3,0] (.region [on 0 14 0,oF 1 15 Jn [(.t 14)],on 2 3 15]) (.seq [4,3] (.region [on 0 16 0,oF 1 17 Ji [(.t 16)],on 2 4 17]) (.seq [5,4,3] (.region [on 0 18 3,on 1 19 4,oF 2 20 I4 [(.t 18),(.t 19)],on 3 5 20]) (.seq [7,6,5,4,3] (.region [on 0 22 4,oF 1 23 FF [(.t 22)],oF 2 24 Jf [(.t 23)],om 3 21 24,oa 4 25 (.extract (.t 21) 0),oa 5 26 (.extract (.t 21) 1),on 6 6 25,om 7 7 26]) (.seq [8,7,6,5,4] (.region [on 0 27 3,oF 1 28 G2 [(.t 27)],oa 2 8 (.allocB 0 [(.int .i64 0),.nils]),os 3 (.storeB 0 2 (.t 8) (.t 28))]) (.seq [8,6,5,4] (.seq [51,8,6,5,4] (.region [on 0 29 4,oF 1 30 Eb [(.t 29)],oa 2 31 (.un .not (.t 30)),om 3 32 31,og 4 33 (.mv (.t 7)) 32 false,og 5 34 (.un .not (.t 33)) 32 false,oa 6 35 (.pick (.t 32) (.c (.bool true)) (.t 34)),om 7 36 35,⟨8,some 37,.a true (.mv (.t 6)) none,(some (36,false)),[]⟩,og 9 38 (.len (.t 37)) 36 false,⟨10,some 39,.a true (.mv (.t 4)) none,(some (36,false)),[]⟩,og 11 40 (.len (.t 39)) 36 false,og 12 41 (.bin .neq (.t 38) (.t 40)) 36 false,oa 13 42 (.pick (.t 36) (.c (.bool true)) (.t 41)),om 14 43 42,⟨15,some 44,.a true (.mv (.t 5)) none,(some (43,false)),[]⟩,og 16 45 (.len (.t 44)) 43 false,og 17 46 (.bin .eql (.t 45) (.c (.int .i64 0))) 43 false,⟨18,some 47,.a true (.mv (.t 4)) none,(some (43,false)),[]⟩,og 19 48 (.len (.t 47)) 43 false,og 20 49 (.bin .eql (.t 48) (.c (.int .i64 0))) 43 false,og 21 50 (.eqB true (.t 46) (.t 49)) 43 false,oa 22 51 (.pick (.t 43) (.c (.bool true)) (.t 50))]) (.cond (.t 51) (.seq [2] (.region [oa 0 2 (.mv (.c (.bool false)))]) .ret) .skip)) (.seq [8,5] (.seq [9,8,6,5,4] (.region [oi 0 9 0]) (.block 0 (.loop [4,5,6,8,9] 1 (.seq [9,8,6,5,4] (.seq [55,9,8,6,5,4] (.region [om 0 52 9,on 1 53 6,oa 2 54 (.len (.t 53)),oa 3 55 (.bin .lss (.t 52) (.t 54))]) (.cond (.t 55) .skip (.exit 0))) (.seq [9,8,6,5,4] (.block 1 (.seq [66,9,8,6,5,4] (.region [on 0 58 6,om 1 59 9,xA 2 60 (.indexA 3 (.t 58) (.t 59)) (rg 2),xA 3 61 (.loadH (some 3) (.t 60)) (rg 3),on 4 62 4,om 5 63 9,xA 6 64 (.indexA 3 (.t 62) (.t 63)) [4,5],xA 7 65 (.loadH (some 3) (.t 64)) [4,5,6],xA 8 66 (.eqA 3 true (.t 61) (.t 65)) (rg 8)]) (.cond (.t 66) (.seq [2] (.region [oa 0 2 (.mv (.c (.bool false)))]) .ret) .skip))) (.region [om 0 56 9,oa 1 57 (.bin .add (.t 56) (.c (.int .i64 1))),om 2 9 57])))))) (.seq [8,5] (.seq [10,8,5] (.region [oi 0 10 0]) (.block 2 (.loop [5,8,10] 1 (.seq [10,8,5] (.seq [70,10,8,5] (.region [om 0 67 10,on 1 68 5,oa 2 69 (.len (.t 68)),oa 3 70 (.bin .lss (.t 67) (.t 69))]) (.cond (.t 70) .skip (.exit 2))) (.seq [10,8,5] (.block 3 (.seq [10,8,5] (.seq [91,10,8,5] (.region [on 0 73 5,om 1 74 10,xA 2 75 (.indexA 2 (.t 73) (.t 74)) (rg 2),xA 3 76 (.fieldA 0 (.t 75)) (rg 3),xA 4 77 (.loadH none (.t 76)) (rg 4),oa 5 78 (.fieldA 0 (.t 8)),xA 6 79 (.loadB 0 none (.t 78)) [5],xA 7 80 (.bin .and (.t 77) (.t 79)) (rg 7),oa 8 81 (.fieldA 0 (.t 8)),xA 9 82 (.loadB 0 none (.t 81)) [8],xA 10 83 (.bin .neq (.t 80) (.t 82)) (rg 10),xA 11 84 (.mv (.t 83)) (rg 11),⟨12,some 85,.a true (.mv (.t 5)) none,(some (84,false)),[0,1,2,3,4,5,6,7,8,9,10,11]⟩,⟨13,some 86,.a false (.mv (.t 10)) none,(some (84,false)),[0,1,2,3,4,5,6,7,8,9,10,11]⟩,⟨14,some 87,.a false (.indexA 2 (.t 85) (.t 86)) none,(some (84,false)),[0,1,2,3,4,5,6,7,8,9,10,11,12,13]⟩,⟨15,some 88,.a false (.loadH (some 2) (.t 87)) none,(some (84,false)),[0,1,2,3,4,5,6,7,8,9,10,11,12,13,14]⟩,⟨16,some 89,.call false G7.S G7.P G7.D [(.t 88)],(some (84,false)),[0,1,2,3,4,5,6,7,8,9,10,11,12,13,14,15]⟩,⟨17,some 90,.a false (.un .not (.t 89)) none,(some (84,false)),[0,1,2,3,4,5,6,7,8,9,10,11,12,13,14,15,16]⟩,xA 18 91 (.pick (.t 84) (.c (.bool true)) (.t 90)) (rg 18)]) (.cond (.t 91) (.seq [2] (.region [oa 0 2 (.mv (.c (.bool false)))]) .ret) .skip)) (.seq [11,10,8,5] (.region [oi 0 11 0]) (.block 4 (.loop [5,8,10,11] 1 (.seq [11,10,8,5] (.seq [96,11,10,8,5] (.region [om 0 92 11,oa 1 93 (.fieldA 1 (.t 8)),oa 2 94 (.loadB 0 none (.t 93)),oa 3 95 (.len (.t 94)),oa 4 96 (.bin .lss (.t 92) (.t 95))]) (.cond (.t 96) .skip (.exit 4))) (.seq [11,10,8,5] (.block 5 (.seq [110,11,10,8,5] (.region [on 0 99 5,om 1 100 10,xA 2 101 (.indexA 2 (.t 99) (.t 100)) (rg 2),xA 3 102 (.fieldA 1 (.t 101)) (rg 3),xA 4 103 (.loadH none (.t 102)) (rg 4),oa 5 104 (.fieldA 1 (.t 8)),xA 6 105 (.loadB 0 none (.t 104)) [5],om 7 106 11,xA 8 107 (.indexA 1 (.t 105) (.t 106)) [5,6,7],xA 9 108 (.loadH none (.t 107)) [5,6,7,8],xF 10 109 JB [(.t 103),(.t 108)] (rg 10),xA 11 110 (.un .not (.t 109)) (rg 11)]) (.cond (.t 110) (.seq [2] (.region [oa 0 2 (.mv (.c (.bool false)))]) .ret) .skip))) (.region [om 0 97 11,oa 1 98 (.bin .add (.t 97) (.c (.int .i64 1))),om 2 11 98])))))))) (.region [om 0 71 10,oa 1 72 (.bin .add (.t 71) (.c (.int .i64 1))),om 2 10 72])))))) (.seq [2] (.region [on 0 111 5,xA 1 112 (.len (.t 111)) (rg 1),xA 2 113 (.bin .eql (.t 112) (.c (.int .i64 0))) (rg 2),xA 3 114 (.mv (.t 113)) (rg 3),⟨4,some 115,.a true (.mv (.t 5)) none,(some (114,false)),[0,1,2,3]⟩,⟨5,some 116,.a true (.mv (.t 5)) none,(some (114,false)),[0,1,2,3]⟩,⟨6,some 117,.a false (.len (.t 116)) none,(some (114,false)),[0,1,2,3,5]⟩,⟨7,some 118,.a false (.bin .sub (.t 117) (.c (.int .i64 1))) none,(some (114,false)),[0,1,2,3,5,6]⟩,⟨8,some 119,.a false (.indexA 2 (.t 115) (.t 118)) none,(some (114,false)),[0,1,2,3,4,5,6,7]⟩,⟨9,some 120,.a false (.loadH (some 2) (.t 119)) none,(some (114,false)),[0,1,2,3,4,5,6,7,8]⟩,⟨10,some 121,.a false (.loadB 0 (some 2) (.t 8)) none,(some (114,false)),[0,1,2,3]⟩,⟨11,some 122,.call false GY.S GY.P GY.D [(.t 120),(.t 121)],(some (114,false)),[0,1,2,3,4,5,6,7,8,9,10]⟩,xA 12 123 (.pick (.t 114) (.c (.bool true)) (.t 122)) (rg 12),xA 13 2 (.mv (.t 123)) (rg 13)]) .ret)))))))))))
def Gu:Fn:=⟨⟨1,124,1,true,[.tmp 2],ow⟩,[.one .frz (.sl (.one (.int .u8)))],.one (.one .own (.bool))⟩
theorem od:Gu.A:=Bp ⟨rI,nX,nw,lZ,aY,mN,bI,SK,nK,sw,mR,trivial⟩
def SM:List (Int)→Bool:=Gu.V
def SC:List (Int)→Prop:=Gu.O
end
section
set_option maxRecDepth 100000
def Pm(x0:((List (Int×(Int×Int)))×(Int×(Int×Int)))):Bool:=(iGt x0.2.1 0)
def Pn(x:List (Int)×Int×Int)(x0:((List (Int×(Int×Int)))×(Int×(Int×Int)))):((List (Int×(Int×Int)))×(Int×(Int×Int))):=((bSel (Cn ((x.1,(CP ((x.1,(AO ((x.1,x0.2.2),56)).2),[0,0,2,1])).2),2)).1 (lApp x0.1 [(0,(iAdd .i64 1 (AO ((x.1,x0.2.2),56)).1),(CP ((x.1,(AO ((x.1,x0.2.2),56)).2),[0,0,2,1])).1)]) (lApp x0.1 [(1,(iAdd .i64 1 (AO ((x.1,x0.2.2),56)).1),(CP ((x.1,(AO ((x.1,x0.2.2),56)).2),[0,0,2,1])).1),(0,(iSub .i64 (iSub .i64 60 (lLen x0.1)) 10),8),(2,(iAdd .i64 1 (AO ((x.1,x0.2.2),56)).1),(CP ((x.1,(AO ((x.1,x0.2.2),56)).2),[0,0,2,1])).1)])),(iSub .i64 x0.2.1 1),(bSel (Cn ((x.1,(CP ((x.1,(AO ((x.1,x0.2.2),56)).2),[0,0,2,1])).2),2)).1 (Cn ((x.1,(CP ((x.1,(AO ((x.1,x0.2.2),56)).2),[0,0,2,1])).2),2)).2.1 (Cn ((x.1,(CP ((x.1,(AO ((x.1,x0.2.2),56)).2),[0,0,2,1])).2),2)).2.1),(bSel (Cn ((x.1,(CP ((x.1,(AO ((x.1,x0.2.2),56)).2),[0,0,2,1])).2),2)).1 (Cn ((x.1,(CP ((x.1,(AO ((x.1,x0.2.2),56)).2),[0,0,2,1])).2),2)).2.2 (Cn ((x.1,(CP ((x.1,(AO ((x.1,x0.2.2),56)).2),[0,0,2,1])).2),2)).2.2))
def Wo(x:List (Int)×Int×Int)(x0:((List (Int×(Int×Int)))×(Int×(Int×Int)))):Prop:=(((iGt x0.2.1 0)=true→((Eo ((x.1,x0.2.2),56))∧((M9 ((x.1,(AO ((x.1,x0.2.2),56)).2),[0,0,2,1]))∧((Jr ((x.1,(CP ((x.1,(AO ((x.1,x0.2.2),56)).2),[0,0,2,1])).2),2))∧(((Cn ((x.1,(CP ((x.1,(AO ((x.1,x0.2.2),56)).2),[0,0,2,1])).2),2)).1=true→(AA (((List.length x0.1)+(List.length [(0,(iAdd .i64 1 (AO ((x.1,x0.2.2),56)).1),(CP ((x.1,(AO ((x.1,x0.2.2),56)).2),[0,0,2,1])).1)]))*3)))∧((Cn ((x.1,(CP ((x.1,(AO ((x.1,x0.2.2),56)).2),[0,0,2,1])).2),2)).1=false→(AA (((List.length x0.1)+(List.length [(1,(iAdd .i64 1 (AO ((x.1,x0.2.2),56)).1),(CP ((x.1,(AO ((x.1,x0.2.2),56)).2),[0,0,2,1])).1),(0,(iSub .i64 (iSub .i64 60 (lLen x0.1)) 10),8),(2,(iAdd .i64 1 (AO ((x.1,x0.2.2),56)).1),(CP ((x.1,(AO ((x.1,x0.2.2),56)).2),[0,0,2,1])).1)]))*3))))))))∧((iGt x0.2.1 0)=false→True))
theorem qg (x):LK x=((Al Pm (Pn x) ([],(AO (x,3)))).1,(Al Pm (Pn x) ([],(AO (x,3)))).2.2):=by unfold LK;exact(congrFun (shut _).2 x).trans (by kernel_rfl)
theorem qc (x):Nq x=((Eo (x,3))∧(LoopOk Pm (Pn x) (Wo x) ([],(AO (x,3))))):=by unfold Nq;exact(congrFun (shut _).2 x).trans (by kernel_rfl)
theorem mZ (x):Aq x=(LK (Jt (x,6))).1:=(Ji.v x).trans (by kernel_rfl)
theorem nh (x):Sl x=((LI (x,6))∧(Nq (Jt (x,6)))):=(Ji.o x).trans (by kernel_rfl)
theorem si (x):TV x=(iLt (Al (fun(x0:Int)=>(bAnd (iLt x0 (lLen x.1)) (bNot (iEq (lGet x.1 (iNat x0) 0) x.2)))) (fun(x0:Int)=>(iAdd .i64 x0 1)) 0) (lLen x.1)):=(JB.v x).trans (by kernel_rfl)
theorem rL (x):TL x=(LoopOk (fun(x0:Int)=>(bAnd (iLt x0 (lLen x.1)) (bNot (iEq (lGet x.1 (iNat x0) 0) x.2)))) (fun(x0:Int)=>(iAdd .i64 x0 1)) (fun(x0:Int)=>(((iLt x0 (lLen x.1))=true→((((0:Int)≤x0)∧(x0<(((List.length x.1):Int))))∧((iNat x0)<(List.length x.1))))∧((iLt x0 (lLen x.1))=false→True))) 0):=(JB.o x).trans (by kernel_rfl)
def M5(x:List (Int))(x0:Int):Bool:=(bAnd (iLt x0 (lLen (Dm (CO (Aq x))).1)) (bNot (bNot (bAnd (iEq (lGet (Dm (CO (Aq x))).1 (iNat x0) (0,0,0)).1 (lGet (Aq x) (iNat x0) (0,0,0)).1) (bAnd (iEq (lGet (Dm (CO (Aq x))).1 (iNat x0) (0,0,0)).2.1 (lGet (Aq x) (iNat x0) (0,0,0)).2.1) (iEq (lGet (Dm (CO (Aq x))).1 (iNat x0) (0,0,0)).2.2 (lGet (Aq x) (iNat x0) (0,0,0)).2.2))))))
def Gs(x0:Int):Int:=(iAdd .i64 x0 1)
def M4(x:List (Int))(x0:Int)(x1:Int):Bool:=(bAnd (iLt x1 (lLen (AG (Av x)).2)) (bNot (bNot (TV ((lGet (A0 ((Av x),(Aq x))) (iNat x0) (0,[])).2,(lGet (AG (Av x)).2 (iNat x1) 0))))))
def M3(x1:Int):Int:=(iAdd .i64 x1 1)
def M1(x:List (Int))(x0:Int):Bool:=(bAnd (iLt x0 (lLen (A0 ((Av x),(Aq x))))) (bAnd (bNot (bOr (iNe (iAnd .i64 (lGet (A0 ((Av x),(Aq x))) (iNat x0) (0,[])).1 (AG (Av x)).1) (AG (Av x)).1) (bNot (LD (lGet (A0 ((Av x),(Aq x))) (iNat x0) (0,[])))))) (bNot (iLt (Al (M4 x x0) M3 0) (lLen (AG (Av x)).2)))))
def Wb(x:List (Int))(x0:Int):Prop:=(((iLt x0 (lLen (Dm (CO (Aq x))).1))=true→((((0:Int)≤x0)∧(x0<(((List.length (Dm (CO (Aq x))).1):Int))))∧(((iNat x0)<(List.length (Dm (CO (Aq x))).1))∧((((0:Int)≤x0)∧(x0<(((List.length (Aq x)):Int))))∧((iNat x0)<(List.length (Aq x)))))))∧((iLt x0 (lLen (Dm (CO (Aq x))).1))=false→True))
def Sa(x:List (Int))(x0:Int)(x1:Int):Prop:=(((iLt x1 (lLen (AG (Av x)).2))=true→((((0:Int)≤x0)∧(x0<(((List.length (A0 ((Av x),(Aq x)))):Int))))∧(((iNat x0)<(List.length (A0 ((Av x),(Aq x)))))∧((((0:Int)≤x1)∧(x1<(((List.length (AG (Av x)).2):Int))))∧(((iNat x1)<(List.length (AG (Av x)).2))∧(TL ((lGet (A0 ((Av x),(Aq x))) (iNat x0) (0,[])).2,(lGet (AG (Av x)).2 (iNat x1) 0))))))))∧((iLt x1 (lLen (AG (Av x)).2))=false→True))
def Wg(x:List (Int))(x0:Int):Prop:=(((iLt x0 (lLen (A0 ((Av x),(Aq x)))))=true→(((((0:Int)≤x0)∧(x0<(((List.length (A0 ((Av x),(Aq x)))):Int))))∧(((iNat x0)<(List.length (A0 ((Av x),(Aq x)))))∧(((iNe (iAnd .i64 (lGet (A0 ((Av x),(Aq x))) (iNat x0) (0,[])).1 (AG (Av x)).1) (AG (Av x)).1)=true→True)∧((iNe (iAnd .i64 (lGet (A0 ((Av x),(Aq x))) (iNat x0) (0,[])).1 (AG (Av x)).1) (AG (Av x)).1)=false→((((0:Int)≤x0)∧(x0<(((List.length (A0 ((Av x),(Aq x)))):Int))))∧(((iNat x0)<(List.length (A0 ((Av x),(Aq x)))))∧(Po (lGet (A0 ((Av x),(Aq x))) (iNat x0) (0,[])))))))))∧(((bOr (iNe (iAnd .i64 (lGet (A0 ((Av x),(Aq x))) (iNat x0) (0,[])).1 (AG (Av x)).1) (AG (Av x)).1) (bNot (LD (lGet (A0 ((Av x),(Aq x))) (iNat x0) (0,[])))))=true→True)∧((bOr (iNe (iAnd .i64 (lGet (A0 ((Av x),(Aq x))) (iNat x0) (0,[])).1 (AG (Av x)).1) (AG (Av x)).1) (bNot (LD (lGet (A0 ((Av x),(Aq x))) (iNat x0) (0,[])))))=false→(LoopOk (M4 x x0) M3 (Sa x x0) 0)))))∧((iLt x0 (lLen (A0 ((Av x),(Aq x)))))=false→True))
theorem n4 (x):SM x=(bOr (KF x) (bAnd (bNot (bOr (bNot (Ep (Aq x))) (bOr (bNot (Dm (CO (Aq x))).2) (bOr (iNe (lLen (Dm (CO (Aq x))).1) (lLen (Aq x))) (bNot (bIff (iEq (lLen (A0 ((Av x),(Aq x)))) 0) (iEq (lLen (Aq x)) 0))))))) (bAnd (bNot (iLt (Al (M5 x) Gs 0) (lLen (Dm (CO (Aq x))).1))) (bAnd (bNot (iLt (Al (M1 x) Gs 0) (lLen (A0 ((Av x),(Aq x)))))) (bOr (iEq (lLen (A0 ((Av x),(Aq x)))) 0) (Sn ((lGet (A0 ((Av x),(Aq x))) (iNat (iSub .i64 (lLen (A0 ((Av x),(Aq x)))) 1)) (0,[])),(AG (Av x))))))))):=(Gu.v x).trans (by kernel_rfl)
theorem nC (x):SC x=((TK x)∧(((KF x)=true→True)∧((KF x)=false→((SA x)∧((Sl x)∧((RN ((Av x),(Aq x)))∧((O3 (Aq x))∧((RZ (CO (Aq x)))∧((Pk (Av x))∧((LG (Aq x))∧(((bOr (bNot (Ep (Aq x))) (bOr (bNot (Dm (CO (Aq x))).2) (bOr (iNe (lLen (Dm (CO (Aq x))).1) (lLen (Aq x))) (bNot (bIff (iEq (lLen (A0 ((Av x),(Aq x)))) 0) (iEq (lLen (Aq x)) 0))))))=true→True)∧((bOr (bNot (Ep (Aq x))) (bOr (bNot (Dm (CO (Aq x))).2) (bOr (iNe (lLen (Dm (CO (Aq x))).1) (lLen (Aq x))) (bNot (bIff (iEq (lLen (A0 ((Av x),(Aq x)))) 0) (iEq (lLen (Aq x)) 0))))))=false→((LoopOk (M5 x) Gs (Wb x) 0)∧(((iLt (Al (M5 x) Gs 0) (lLen (Dm (CO (Aq x))).1))=true→True)∧((iLt (Al (M5 x) Gs 0) (lLen (Dm (CO (Aq x))).1))=false→((LoopOk (M1 x) Gs (Wg x) 0)∧(((iLt (Al (M1 x) Gs 0) (lLen (A0 ((Av x),(Aq x)))))=true→True)∧((iLt (Al (M1 x) Gs 0) (lLen (A0 ((Av x),(Aq x)))))=false→(((iEq (lLen (A0 ((Av x),(Aq x)))) 0)=true→True)∧((iEq (lLen (A0 ((Av x),(Aq x)))) 0)=false→((((0:Int)≤(iSub .i64 (lLen (A0 ((Av x),(Aq x)))) 1))∧((iSub .i64 (lLen (A0 ((Av x),(Aq x)))) 1)<(((List.length (A0 ((Av x),(Aq x)))):Int))))∧(((iNat (iSub .i64 (lLen (A0 ((Av x),(Aq x)))) 1))<(List.length (A0 ((Av x),(Aq x)))))∧(O7 ((lGet (A0 ((Av x),(Aq x))) (iNat (iSub .i64 (lLen (A0 ((Av x),(Aq x)))) 1)) (0,[])),(AG (Av x)))))))))))))))))))))))))):=(Gu.o x).trans (by kernel_rfl)
attribute [irreducible] Aq Sl TV TL SM SC
end
section
set_option maxRecDepth 20000
theorem yw {c:BI×Int→Bool} {f:BI×Int→BI×Int} (x:List H5) (hok:∀ i,i<x.length→Ka (Bu x i) (x.getD i (0,0,0)))
 (hc:∀ (dn:BI) (i:Nat),i<x.length→Ka dn (x.getD i (0,0,0))→c (dn,(i:Int))=true) (hf:∀ (dn:BI) (i:Nat),i<x.length→f (dn,(i:Int))=(DN dn (x.getD i (0,0,0)),(i:Int)+1))
 (hn:∀ dn:BI,c (dn,(x.length:Int))=false):Al c f ([],0)=(Bu x x.length,(x.length:Int)):=
 (DE (p:=fun _=>True) x.length (fun i=>(Bu x i,(i:Int))) (x0:=([],0)) rfl (fun i hi=>⟨trivial,hc _ i hi (hok i hi),by rw[hf _ i hi,← N1 x hi];simp⟩) ⟨trivial,hn _⟩).2
theorem sM(x:List H5)(h8:x.length≤8)(h0:Bu x x.length=[])(hok:∀ i,i<x.length→Ka (Bu x i) (x.getD i (0,0,0))):Dc x=true:=by
 rw[Dc,yw x hok (fun dn i hi hk=>by
  obtain⟨k1,k2,k3,k4⟩:=hk;simp only[Am,BB,Ay,AK,AF,Jz,UU,Ax,AH,BC,Og,An,Bc,CE];rw[Cp (show (i:Int)<(x.length:Int) by omega),k3,Cp k1,Cp k2];have e:decide ((x.getD i (0,0,0)).1=2)=decide (0≤BO (dn,(x.getD i (0,0,0)).1,(x.getD i (0,0,0)).2.1,(x.getD i (0,0,0)).2.2)):=decide_eq_decide.2 k4
  rw[e];simp) (fun dn i hi=>by
  simp only[BB,Ay,AK,AF,AR,Bc,Ar,BW];rw[AQ (by unfold As;omega)]
  rfl) (fun dn=>by simp only[Am,Ax,An];rw[Dg (by omega)];rfl)]
 rw[h0,Am,Am,Ax,Ax,AH,An,B6,Bc,Dg (show ¬ (x.length:Int)<(x.length:Int) by omega),Cp (show (x.length:Int)≤8 by omega)];rfl
def RunOk(x:List H5):Prop:=Bu x x.length=[]∧∀ i,i<x.length→Ka (Bu x i) (x.getD i (0,0,0))
theorem jD(a b:List H5)(h:Bu a a.length=[])(i:Nat)(hi:i≤b.length):Bu (a++b) (a.length+i)=Bu b i:=by
 unfold Bu at h ⊢;rw[F1] at h;rw[List.take_append,JT (by omega),List.foldl_append,h,show a.length+i-a.length=i by omega]
theorem RunOk.app{a b:List H5}(ha:RunOk a)(hb:RunOk b):RunOk (a++b):=by
 refine⟨by rw[BM,jD a b ha.1 _ (AU _)];exact hb.1,fun i hi=>?_⟩;rw[BM] at hi;by_cases h:i<a.length
 · have e:Bu (a++b) i=Bu a i:=by unfold Bu;rw[List.take_append_of_le_length (by omega)]
   rw[e,Ck,Bm h,← Ck];exact ha.2 i h
 · obtain⟨j,rfl⟩:∃ j,i=a.length+j:=⟨i-a.length,by omega⟩;rw[jD a b ha.1 j (by omega),Ck,CJ (by omega),show a.length+j-a.length=j by omega,← Ck];exact hb.2 j (by omega)
theorem RunOk.nil:RunOk []:=⟨rfl,fun i h=>by simp at h⟩
theorem Yk(s:H5):BO ([],s)=-1:=by
 rcases Uo [] s (by simp) with h|h
 · exact h
 · simp at h;omega
theorem rE(a:Int×Int×Int×Int×Int)(k c m:Int)(h:(a.2.2.1,a.2.2.2.1)≠(c,m)):BO ([a],k,c,m)=-1:=by
 rw[L8,W2 _ _ (by simp)]
 have e:CD (fun i=>decide (([a].map A9).getD i (0,0)=(c,m))) ([a].map A9).length 0=1:=by
  show CD _ 1 0=1;unfold CD;have:decide (([a].map A9).getD 0 (0,0)=(c,m))=false:=Dg h;rw[this];rfl
 rw[e,Ad (by simp)]
theorem RunOk.tap(c m:Int)(h:B8 (2,c,m,0)=true):RunOk [(0,c,m)]:=by
 have e0:Bu [(0,c,m)] 0=[]:=rfl
 have e1:Bu [(0,c,m)] 1=[]:=by show DN [] (0,c,m)=[];unfold DN;simp
 refine⟨e1,fun i hi=>?_⟩
 have:i=0:=by simp at hi;omega
 subst this;rw[e0];refine⟨by simp,by simp,h,?_⟩;show (0:Int)=2↔0≤BO ([],(0,c,m));rw[Yk];omega
theorem RunOk.hold(c m c2:Int)(h:B8 (2,c,m,0)=true)(h2:B8 (2,c2,8,0)=true)(hm:m≠8):RunOk [(1,c,m),(0,c2,8),(2,c,m)]:=by
 have e0:Bu [(1,c,m),(0,c2,8),(2,c,m)] 0=[]:=rfl
 have e1:Bu [(1,c,m),(0,c2,8),(2,c,m)] 1=[mA (1,c,m)]:=by show DN [] (1,c,m)=_;unfold DN;simp
 have e2:Bu [(1,c,m),(0,c2,8),(2,c,m)] 2=[mA (1,c,m)]:=by
  rw[N1 _ (by simp),e1];show DN [mA (1,c,m)] (0,c2,8)=_;unfold DN;simp
 have f2:BO ([mA (1,c,m)],(2,c,m))=0:=by
  have:=gP [] (2,c,m) (by simp) (by rw[Yk];decide);exact this
 have e3:Bu [(1,c,m),(0,c2,8),(2,c,m)] 3=[]:=by
  rw[N1 _ (by simp),e2];show DN [mA (1,c,m)] (2,c,m)=_;unfold DN;rw[Ad (by simp),Ab rfl,f2];exact ed [] (mA (1,c,m)) (by simp)
 refine⟨e3,fun i hi=>?_⟩
 have hi:i=0∨i=1∨i=2:=by simp at hi;omega
 rcases hi with rfl|rfl|rfl
 · rw[e0];refine⟨by simp,by simp,h,?_⟩;show (1:Int)=2↔0≤BO ([],(1,c,m));rw[Yk];omega
 · rw[e1];refine⟨by simp,by simp,h2,?_⟩;show (0:Int)=2↔0≤BO ([mA (1,c,m)],(0,c2,8));rw[rE _ _ _ _ (by simp[mA];intro _;exact hm)];omega
 · rw[e2];refine⟨by simp,by simp,h,?_⟩;show (2:Int)=2↔0≤BO ([mA (1,c,m)],(2,c,m));rw[f2];omega
theorem vN(c:List Int×Int×Int)(h:Co c):Nq c∧RunOk (LK c).1∧(LK c).1.length≤6:=by
 rw[qc,qg];obtain⟨a1,a2,_,a4⟩:=Hp c 3 h;have a4:=a4 (by omega)
 have key:=Ur (c:=Pm) (f:=Pn c) (p:=Wo c)
  (fun st=>Co (c.1,st.2.2)∧RunOk st.1∧0≤st.2.1∧st.2.1≤2∧(st.1.length:Int)+3*st.2.1≤6) (fun st=>st.2.1.toNat) (fun st hI=>?_) (x0:=([],AO (c,3))) ⟨a2,RunOk.nil,by simp only;omega,by simp only;omega,by simp only[AD];omega⟩
 · obtain⟨k1,⟨_,k3,k4,_,k5⟩,_⟩:=key;exact⟨⟨a1,k1⟩,k3,by simp only;omega⟩
 · obtain⟨l,n,q⟩:=st;obtain⟨h1,h2,h3,h4,h5⟩:=hI;simp only at h1 h2 h3 h4 h5;obtain⟨b1,b2,_,b4⟩:=Hp (c.1,q) 56 h1;have b4:=b4 (by omega);obtain⟨p1,p2,p3⟩:=x7 (c.1,(AO ((c.1,q),56)).2) [0,0,2,1] (by simp) b2;obtain⟨o1,o2⟩:=UZ (c.1,(CP ((c.1,(AO ((c.1,q),56)).2),[0,0,2,1])).2) 2 p2;simp only[Pm,Pn,Wo];generalize AO ((c.1,q),56)=B at b2 b4 p1 p2 p3 o1 o2 ⊢;generalize CP ((c.1,B.2),[0,0,2,1])=P at p2 p3 o1 o2 ⊢;generalize Cn ((c.1,P.2),2)=O at o2 ⊢;have eB:iAdd .i64 1 B.1=1+B.1:=AQ (by unfold As;omega)
   have eL:iSub .i64 (iSub .i64 60 (lLen l)) 10=50-(l.length:Int):=by
    have e1:iSub .i64 60 (l.length:Int)=60-(l.length:Int):=Hq (by unfold As;omega);rw[Am,e1,Hq (by unfold As;omega)];omega
   have hP:P.1=0∨P.1=2∨P.1=1:=by simpa using p3
   simp only[eB,eL,C4,BW,Ar,Bt];refine⟨⟨fun _=>⟨b1,p1,o1,fun _=>Io (by simp only[AB,AD];omega),fun _=>Io (by simp only[AB,AD];omega)⟩,fun _=>trivial⟩,fun hn=>?_⟩;have es:iSub .i64 n 1=n-1:=Hq (by unfold As;omega);rw[es];have act1:B8 (2,1+B.1,P.1,0)=true:=(Du _ _ _ _).2 (by omega)
   have hl:(l.length:Int)≤3:=by omega
   have act2:B8 (2,50-(l.length:Int),8,0)=true:=(Du _ _ _ _).2 (by omega);refine⟨⟨?_,?_,by omega,by omega,?_⟩,by omega⟩
   · simp only[AR,ite_self];exact o2
   · rw[AR];split
     · exact h2.app (RunOk.tap _ _ act1)
     · exact h2.app (RunOk.hold _ _ _ act1 act2 (by omega))
   · rw[AR];split<;>simp only[BM,AB,AD]<;>omega
theorem qU(x:List Int)(h:x.length≤1048576):Sl x∧Dc (Aq x)=true∧(Aq x).length≤6:=by
 rw[nh,mZ];obtain⟨a1,a2⟩:=iT x 6 h;obtain⟨b1,b2,b3⟩:=vN _ a2;exact⟨⟨a1,b1⟩,sM _ (by omega) b2.1 b2.2,b3⟩
theorem uB(s:H5)(h:Z3 s):aA (BN s)=false∧az (BN s)=s:=by
 obtain⟨k,c,m⟩:=s;obtain⟨h0,h2,ha⟩:=h;simp only at h0 h2 ha;obtain⟨j,rfl⟩:∃ j:Nat,k=j:=⟨k.toNat,by omega⟩
 have hj:j<3:=by omega
 have hb:=yX j hj
 have e:BN ((j:Int),c,m)=([116,100,117]:List UInt8).getD j 0::61::B7 (2,c,m,0):=by
  unfold BN;simp only[AK];rfl
 generalize ([116,100,117]:List UInt8).getD j 0=b at hb e;have h61:=zy b (by omega);have hl:=jo (2,c,m,0)
 have hc:AN (b::61::B7 (2,c,m,0),[(61:UInt8)])=([b],B7 (2,c,m,0),true):=
  (QL [b] (B7 (2,c,m,0)) 61 (by simp[E6 h61]) (by simp;omega)).2
 have hp:Dx (B7 (2,c,m,0))=((2,c,m,0),true):=by
  obtain⟨_,hh⟩:=qB (B7 (2,c,m,0)) (by omega);rcases hh with⟨a,a1,a2,a3⟩|⟨no,_⟩
  · rw[a3,← Xe a a1,a2,Xe _ ha]
  · exact absurd rfl (no _ ha)
 rw[e];unfold aA az;rw[hc,vK,hb,Ab hj];simp only[hp];refine⟨?_,by first|rfl|trivial⟩
 have i1:iNe (2:Int) 2=false:=by rw[Cm];rfl
 have i2:iNe (lLen [b]) 1=false:=by rw[Cm,Am];rfl
 have i3:iLt (j:Int) 0=false:=by rw[An];exact Dg (by omega)
 simp only[i1,i2,i3,BC,AH];rfl
theorem dU(b:UInt8):∀ (l:List (List UInt8)),l≠[]→(∀ w∈l,b ∉ w)→DK (Bw l [b]) (b.toNat:Int)=l
 |[],h,_=>absurd rfl h
 | [a],_,h=>by
   have ha:=h a (by simp)
   have e:Bw [a] [b]=a:=by simp[Bw,List.intercalate]
   rw[e]
   exact TU a _ fun y hy=>lq (c:=b) fun e=>ha (e▸hy)
 | a::c::r,_,h=>by
   have ha:=h a (by simp);have i:=dU b (c::r) (by simp) (fun w hw=>h w (by simp[hw]));rw[sL _ _ _ (by simp)];show DK (a++b::Bw (c::r) [b]) _=_;rw[Uf a b _ _ (fun y hy=>lq (c:=b) fun e=>ha (e▸hy)) rfl,i]
theorem yR(a:MN)(h:Cj a=true){b:UInt8}(hb:b∈([32,61,124]:List UInt8)):b ∉ B7 a:=by
 obtain⟨k,c,m,n⟩:=a;have hc:=gD k c m n h
 have hb1:b∈([32,45,47,58,61,124]:List UInt8):=by
  simp only[BE,List.not_mem_nil,or_false] at hb ⊢;rcases hb with rfl|rfl|rfl<;>decide
 have hb2:b ∉ ([67,83,65,71]:List UInt8):=by
  simp only[BE,List.not_mem_nil,or_false] at hb;rcases hb with rfl|rfl|rfl<;>decide
 have hb3:b.toNat<48∨57<b.toNat:=by
  simp only[BE,List.not_mem_nil,or_false] at hb;rcases hb with rfl|rfl|rfl<;>decide
 have hb4:b≠45∧b≠47:=by
  simp only[BE,List.not_mem_nil,or_false] at hb;rcases hb with rfl|rfl|rfl<;>decide
 have hb5:b ∉ Le∧b ∉ J3∧b ∉ IG∧b ∉ ([111,110,99,101,58]:List UInt8)∧∀ i,i<4→b ∉ wd i:=by
  simp only[BE,List.not_mem_nil,or_false] at hb;rcases hb with rfl|rfl|rfl<;>(refine⟨by decide,by decide,by decide,by decide,fun i hi=>?_⟩;rcases (show i=0∨i=1∨i=2∨i=3 by omega) with rfl|rfl|rfl|rfl<;>decide)
 rcases gQ k c m n h with⟨h1,e⟩|⟨h1,e⟩|⟨h1,e⟩|⟨h1,h2,e⟩|⟨h1,h2,e⟩|⟨i,hi,h1,e⟩|⟨h1,e⟩|⟨h1,e⟩|⟨h1,e⟩<;>rw[e]
 · exact hb5.1
 · exact hb5.2.1
 · exact hb5.2.2.1
 · exact Hs hb1 c
 · exact Mo 45 (KO hb2 m) hb4.1 (Hs hb1 c)
 · have hn:0≤n∧n≤3:=by
    rcases (show i=0∨i=1∨i=2∨i=3 by omega) with rfl|rfl|rfl|rfl<;>(have h1:k=_:=h1;simp at h1;omega)
   rw[B0];rintro(q|q)
   · exact hb5.2.2.2.2 i hi q
   · exact UA hb3 n hn.1 hn.2 q
 · exact Mo 47 (KO hb2 m) hb4.2 (Hs hb1 c)
 · exact Mo 47 (UA hb3 n (by omega) (by omega)) hb4.2 (Hs hb1 c)
 · rw[B0];rintro(q|q)
   · exact hb5.2.2.2.1 q
   · exact KO hb2 m q
theorem sY(x:List H5)(hl:x.length≤1048576)(h:Dc x=true):RZ (CO x)∧Dm (CO x)=(x,true):=by
 obtain⟨_,_,f3,f4⟩:=WA x hl;obtain⟨h8,_,hok⟩:=TR x hl h;rw[f3,f4,Ab h]
 have good:∀ s∈x,Z3 s:=fun s hs=>by
  obtain⟨k,hk,rfl⟩:=JS hs;obtain⟨a1,a2,a3,_⟩:=hok k hk;rw[Ck,AE hk] at a1 a2 a3;exact⟨a1,a2,by rw[Jz];exact a3⟩
 by_cases hx:x=[]
 · subst hx
   have e:Bw (([]:List H5).map BN) [32]=[]:=by simp[Bw,List.intercalate]
   have:sEq ([]:List UInt8) []=true:=by rw[DI];rfl
   rw[e,bg,bf,this,Ch];exact⟨⟨fun _=>trivial,fun h=>(by cases h)⟩,rfl⟩
 · have sp : DK (Bw (x.map BN) [32]) 32=x.map BN:=dU 32 (x.map BN) (by simpa using hx) fun w hw=>by
    obtain⟨s,hs,rfl⟩:=List.mem_map.1 hw;obtain⟨g1,g2,g3⟩:=good s hs;unfold BN;rw[B0];rintro(q|q)
    · obtain⟨j,hj⟩:∃ j:Nat,s.1=j:=⟨s.1.toNat,by omega⟩;rw[hj,AK] at q;rcases (show j=0∨j=1∨j=2 by omega) with rfl|rfl|rfl<;>exact absurd q (by decide)
    · exact yR _ g3 (by decide) q
   have hne:Bw (x.map BN) [32]≠[]:=fun e=>by
    rw[e] at sp;have:x.map BN=[[]]:=sp.symm
    cases x with
    |nil=>exact hx rfl
    | cons s r=>
      simp only[Cd,FZ] at this;have:=this.1;simp[BN] at this
   have wl:∀ w∈x.map BN,w.length+([32]:List UInt8).length≤100:=fun w hw=>by
    obtain⟨s,_,rfl⟩:=List.mem_map.1 hw;have:=XQ s;simp only[AB,AD];omega
   have jl:(Bw (x.map BN) [32]).length≤1048576:=by
    have:=UL [32] 100 (x.map BN) wl;rw[AL] at this;omega
   generalize hS:Bw (x.map BN) [32]=s at *;obtain⟨o2,e2⟩:=rJ s 32 jl;rw[sp] at e2
   have gi:∀ k:Nat,lGet (BJ (s,32)) (iNat (k:Int)) []=(x.map BN).getD k []:=fun k=>by rw[e2,BB,Ay,AK]
   have nI:lLen (BJ (s,32))=(x.length:Int):=by rw[e2,Am,AL]
   have lI:(BJ (s,32)).length=x.length:=by rw[e2,AL]
   have gd:∀ k,k<x.length→(x.map BN).getD k []=BN (x.getD k (0,0,0))∧Z3 (x.getD k (0,0,0)):=fun k hk=>by
    rw[Ck,Ew,AE hk,Ck,AE hk];exact⟨rfl,good _ (D3 hk)⟩
   have L2 := DE (c:=Fk s) (f:=FD s) (p:=RM s) (x0:=([],0)) x.length (fun i=>(x.take i,(i:Int))) (by simp)
    (fun i hi=>by
     obtain⟨g1,g2⟩:=gd i hi;obtain⟨b1,b2⟩:=uB _ g2
     have il:iLt (i:Int) (x.length:Int)=true:=by rw[An];exact Cp (by omega)
     have ad:iAdd .i64 (i:Int) 1=((i+1:Nat):Int):=by rw[AQ (by unfold As;omega)];rfl
     have hw:(BN (x.getD i (0,0,0))).length≤1048576:=Ey (XQ _) (by decide);simp only[Fk,FD,RM,gi,nI,lI,g1,il,ad];refine⟨⟨fun _=>?_,fun h=>(by cases h)⟩,?_,?_⟩
     · simp only[Ay,AK];refine⟨⟨by omega,by omega⟩,hi,Ze _ _ hw,?_,?_,fun _=>trivial,fun _=>Io ?_⟩
       · refine cJ _ ?_;rcases Yc (BN (x.getD i (0,0,0))) 61 with q|⟨u,v,q1,q2⟩
         · rw[(Qi _ 61 q).2];simp
         · rw[q1] at hw ⊢;rw[(QL u v 61 q2 hw).2];simp at hw ⊢;omega
       · rw[bB];show (3:Nat)<4294967281;decide
       · simp only[F3,AB,AD];omega
     · show bAnd true (bNot (aA (BN (x.getD i (0,0,0)))))=true;rw[b1,Ax,AH];rfl
     · show (lApp (x.take i) [az (BN (x.getD i (0,0,0)))],((i+1:Nat):Int))=_
       rw[b2,BW,Il x _ hi]) (by
     have il:iLt (x.length:Int) (x.length:Int)=false:=by rw[An];exact Dg (by omega)
     simp only[Fk,RM,nI,il,Ax,OB]
     exact⟨⟨fun h=>(by cases h),fun _=>trivial⟩,trivial⟩)
   have e0:sEq s []=false:=Ik hne
   have il:iLt (x.length:Int) (x.length:Int)=false:=by rw[An];exact Dg (by omega)
   have ns:sNe s s=false:=by rw[Ot];simp
   have im:=SP x hl;obtain⟨_,f2,_,_⟩:=WA x hl;rw[bg,bf,e0,L2.2,nI,il,F1,← TY x hl,f3,f4,Ab h,h,ns];simp only[BQ,BC,AH,HG,Bool.or_false];exact⟨⟨fun h=>(by cases h),fun _=>⟨o2,L2.1,fun h=>(by cases h),fun _=>⟨im,fun h=>(by cases h),fun _=>f2⟩⟩⟩,trivial⟩
end
section
set_option maxRecDepth 20000
theorem jQ{α:Type}(w:α→Nat)(b:Nat):∀ (l:List α) (m:Nat),m &&& b=b→IZ w l m &&& b=b
 |[],_,h=>h
 | a::l,m,h=>jQ w b l (m ||| w a) (by
   apply Nat.eq_of_testBit_eq
   intro i
   have:=congrArg (fun n=>n.testBit i) h
   simp only[Nat.testBit_and,Nat.testBit_or] at this ⊢
   cases h1:m.testBit i<;>cases h2:b.testBit i<;>simp_all)
theorem j5(l:List Int)(v:Int)(hl:l.length≤1048576):TL (l,v)∧TV (l,v)=decide (v∈l):=by
 obtain⟨h1,h2⟩:=gO l v hl;rw[cW] at h1;rw[dc] at h2;rw[rL,si];exact⟨h1,h2⟩
theorem wO{a b:Nat}(ha:a<2^4)(hb:b<2^4):iOr .i64 (a:Int) (b:Int)=((a ||| b:Nat):Int):=ZM (by omega) (by omega)
theorem XL{l:BI}(hV:HeldV l){r:Int×List Int}(h:VT l r) :
 iAnd .i64 r.1 (AG l).1=(AG l).1∧Po r∧LD r=true∧(∀ z∈(AG l).2,z∈r.2)∧r.2.length≤1048576:=by
 obtain⟨h1,dn,h2,h3,rfl⟩:=h
 have hh:=hV.is
 obtain⟨_,_,_,a4,a5,a6⟩:=Xk l dn hV.1 hh h2 (fun a ha=>(h3 a ha).1)
 have hb:(AG l).1=((IZ HS l 0:Nat):Int):=by rw[hV.report];exact hV.mods
 have hb4:IZ HS l 0<2^4:=Zi HS 4 l 0 (by decide) fun a ha=>jd (hV.2.1 a ha)
 have wlt:∀ a∈dn,a.2.2.2.1.toNat<2^4:=fun a ha=>by have:=(h3 a ha).2;omega
 have hr:(DB (l,dn)).1=((IZ (fun a:Int×Int×Int×Int×Int=>a.2.2.2.1.toNat) dn (IZ HS l 0):Nat):Int):=by
  rw[a6,hb]
  refine YH (fun a:Int×Int×Int×Int×Int=>a.2.2.2.1.toNat) Rz 4 dn _ hb4 wlt fun a ha m hm=>?_
  have h0:=(h3 a ha).2.1;have hw:=wlt a ha;show iOr .i64 (m:Int) a.2.2.2.1=((m ||| a.2.2.2.1.toNat:Nat):Int);obtain⟨k,hk⟩:∃ k:Nat,a.2.2.2.1=k:=⟨a.2.2.2.1.toNat,by omega⟩;rw[hk,AK] at hw ⊢;exact wO hm hw
 have hr4:IZ (fun a:Int×Int×Int×Int×Int=>a.2.2.2.1.toNat) dn (IZ HS l 0)<2^4:=Zi _ 4 dn _ hb4 wlt
 obtain⟨bk1,bk2⟩:=Uj l hV.1 hh
 refine⟨?_,?_⟩
 · rw[hr,hb,YA (by omega) (by omega),jQ _ _ dn _ (Nat.and_self _)]
 · have:=rO (DB (l,dn)) h1 (by rw[hr];omega) (by rw[hr];omega) a4 (fun z hz=>by
    rcases (a5 z).1 hz with q|⟨q,q0⟩
    · exact bk2 z q
    · obtain⟨a,ha,rfl⟩:=List.mem_map.1 q;have:=(h3 a ha).1
      omega)
   exact⟨this.1,this.2,fun z hz=>(a5 z).2 (.inl hz),h1⟩
theorem wA{l:BI}(hV:HeldV l):DB (l,[])=AG l:=by
 have hh:=hV.is;obtain⟨_,_,_,a4,a5,a6⟩:=Xk l [] hV.1 hh (by simp) (by simp);obtain⟨bk1,bk2⟩:=Uj l hV.1 hh
 have e2:(DB (l,[])).2=(AG l).2:=YD a4 bk1 fun z=>by rw[a5];simp[B5]
 exact Prod.ext a6 e2
theorem ph(x:List Int)(hw:TuX.wf Gu.h x):SC x∧SM x=true:=by
 rw[nC,n4];obtain⟨b1,b2⟩:=yn x;by_cases hx:1048576<x.length
 · have e:KF x=true:=by rw[b1];simpa using hx
   simp[e,b2,BC]
 have e:KF x=false:=by rw[b1];simpa using hx
 obtain⟨d1,d2⟩:=rU x (by omega);have hV:=HeldV.of d2 (by omega);obtain⟨m1,m2,m3⟩:=qU x (by omega)
 have ml:(Aq x).length≤1048576:=by omega
 have mi:Ep (Aq x)=true:=by rw[← TY _ ml];exact m2
 obtain⟨p1,p2⟩:=sY _ ml m2;obtain⟨_,o2,o3,⟨o4,_⟩,o5⟩:=ov (Av x) (Aq x) hV.1 ml;obtain⟨q1,q2,q3⟩:=o5 hV.is m2;rw[← o3] at q1 q2 q3 o4;obtain⟨_,r2,_,r4⟩:=TG (Av x) hV.1;have fm:=(WA _ ml).2.1;have im:=SP _ ml;have dn0:Bu (Aq x) (Aq x).length=[]:=(TR _ ml m2).2.1;rw[dn0,wA hV] at q3
 obtain⟨l1,k,hk,v1,h1⟩:=Of (c:=M5 x) (f:=Gs) (p:=Wb x) (x0:=0) (Aq x).length (fun i=>(i:Int)) (fun _=>true) rfl (fun i hi _=>by
  simp only[M5,p2,Bc,decide_true,Ax,AH,An,Am,GM,CF,HG,Bool.not_false,Mz])
  (fun i hi _=>by unfold Gs;rw[AQ (by unfold As;omega)];simp) (fun i hi _=>by
   simp only[Wb,p2,An,Am,Ay,AK,Ar]
   exact⟨fun h=>⟨⟨by omega,by omega⟩,by omega,⟨by omega,by omega⟩,by omega⟩,fun _=>trivial⟩)
 have h1:=h1.2 fun _ _=>rfl
 subst h1
 have facts:∀ i,i<(A0 (Av x,Aq x)).length→VT (Av x) ((A0 (Av x,Aq x)).getD i (0,[])):=fun i hi=>q1 _ (KL _ i _ hi)
 have inner:∀ i:Nat,i<(A0 (Av x,Aq x)).length→LoopOk (M4 x (i:Int)) M3 (Sa x (i:Int)) 0∧iLt (Al (M4 x (i:Int)) M3 0) (lLen (AG (Av x)).2)=false:=by
  intro i hi;obtain⟨_,_,_,f4,f5⟩:=XL hV (facts i hi)
  obtain⟨l3,j,hj,v3,h3⟩:=Of (c:=M4 x (i:Int)) (f:=M3) (p:=Sa x (i:Int)) (x0:=0) (AG (Av x)).2.length (fun i=>(i:Int)) (fun _=>true) rfl (fun j hj _=>by
   simp only[M4,Ax,AH,An,Am,BB,Ay,AK,GM];by_cases h:j<(AG (Av x)).2.length
   · rw[(j5 _ _ f5).2,Cp (f4 _ (KL _ j _ h))];simp
   · simp[h]) (fun j hj _=>by unfold M3;rw[AQ (by unfold As;omega)];simp) (fun j hj _=>by
   simp only[Sa,An,Am,BB,Ay,AK,Ar]
   exact⟨fun h=>⟨⟨by omega,by omega⟩,hi,⟨by omega,by omega⟩,by omega,(j5 _ _ f5).1⟩,fun _=>trivial⟩)
  have h3:=h3.2 fun _ _=>rfl
  subst h3;refine⟨l3,?_⟩;rw[v3,An,Am];exact Dg (by omega)
 obtain⟨l2,k2,hk2,v2,h2⟩:=Of (c:=M1 x) (f:=Gs) (p:=Wg x) (x0:=0) (A0 (Av x,Aq x)).length (fun i=>(i:Int)) (fun _=>true) rfl (fun i hi _=>by
  simp only[M1];by_cases h:i<(A0 (Av x,Aq x)).length
  · obtain⟨f1,_,f3,_⟩:=XL hV (facts i h)
    have gi:lGet (A0 (Av x,Aq x)) (iNat (i:Int)) (0,[])=(A0 (Av x,Aq x)).getD i (0,[]):=by rw[BB,Ay,AK]
    have ni:iNe (AG (Av x)).1 (AG (Av x)).1=false:=by rw[Cm];simp
    rw[gi,f1,f3,(inner i h).2,ni];simp[Ax,AH,BC,An,Am]
  · have:iLt (i:Int) (lLen (A0 (Av x,Aq x)))=false:=by rw[An,Am];exact Dg (by omega)
    rw[this];simp[Ax,h]) (fun i hi _=>by unfold Gs;rw[AQ (by unfold As;omega)];simp) (fun i hi _=>by
  simp only[Wg]
  have gi:lGet (A0 (Av x,Aq x)) (iNat (i:Int)) (0,[])=(A0 (Av x,Aq x)).getD i (0,[]):=by rw[BB,Ay,AK]
  simp only[gi];simp only[An,Am,Ay,AK,Ar];refine⟨fun h=>?_,fun _=>trivial⟩
  have h:i<(A0 (Av x,Aq x)).length:=by omega
  obtain⟨_,f2,_⟩:=XL hV (facts i h)
  exact⟨⟨⟨by omega,by omega⟩,h,fun _=>trivial,fun _=>⟨⟨by omega,by omega⟩,h,f2⟩⟩,fun _=>trivial,fun _=>(inner i h).1⟩)
 have h2:=h2.2 fun _ _=>rfl
 subst h2
 have sr:O7 (AG (Av x),AG (Av x)):=by
  exact(qS _ _ r4).2
 have sv:=o7 (AG (Av x)) r4
 by_cases h0:(Aq x).length=0
 · have hA:A0 (Av x,Aq x)=[]:=q2 h0;rw[e,p2,mi,v1,v2,hA];have z0:(Aq x)=[]:=D2 h0;simp[BC,Ax,AH,Og,An,Bc,Cm,Am,h0,b2,d1,m1,o2,fm,p1,r2,im,l1,l2]
 · obtain⟨o,ho⟩:=q3 (by omega)
   have hlen:(A0 (Av x,Aq x)).length=o.length+1:=by rw[ho];simp
   have es:iSub .i64 (lLen (A0 (Av x,Aq x))) 1=(o.length:Int):=by
    rw[Am,hlen,Hq (by unfold As;omega)];omega
   have gl:lGet (A0 (Av x,Aq x)) (iNat (o.length:Int)) (0,[])=AG (Av x):=by
    rw[BB,Ay,AK,ho,Ck,CJ (AU _)];simp
   rw[e,p2,mi,v1,v2,es,gl,sv];simp[BC,Ax,AH,Og,An,Bc,Cm,Ay,Am,h0,hlen,b2,d1,m1,o2,fm,p1,r2,im,l1,l2,sr];omega
end
end
end Go.Ag
