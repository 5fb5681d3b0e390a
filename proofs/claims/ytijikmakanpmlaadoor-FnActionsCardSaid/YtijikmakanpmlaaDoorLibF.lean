/- Part 6 of what FnActions needs. No conditions. -/
import Derived.Test.YtijikmakanpmlaaDoorLibE
namespace Go.Ag
set_option linter.unusedSimpArgs false
set_option linter.unusedVariables false
noncomputable section
section
set_option maxRecDepth 8000
def eI:DCode:=(.seq [0] (.region [oi 0 2 0,oa 1 3 (.mv (.c (.bool false)))]) (.seq [4,0] (.region [om 0 7 0,om 1 4 7]) (.seq [4,0] (.seq [15,4,0] (.region [om 0 8 0,oa 1 9 (.lenT (.t 8)),oa 2 10 (.bin .gtr (.t 9) (.c (.int .i64 0))),om 3 11 10,og 4 12 (.mv (.t 0)) 11 true,og 5 13 (.index (.t 12) (.c (.int .i64 0))) 11 true,og 6 14 (.bin .eql (.t 13) (.c (.int .u8 45))) 11 true,oa 7 15 (.pick (.t 11) (.t 14) (.c (.bool false)))]) (.cond (.t 15) (.region [om 0 16 0,oa 1 17 (.substr (.t 16) (some (.c (.int .i64 1))) none),om 2 4 17]) .skip)) (.seq [4,0] (.seq [25,4,0] (.region [om 0 18 4,oa 1 19 (.lenT (.t 18)),oa 2 20 (.bin .lss (.t 19) (.c (.int .i64 1))),om 3 21 20,og 4 22 (.mv (.t 4)) 21 false,og 5 23 (.lenT (.t 22)) 21 false,og 6 24 (.bin .gtr (.t 23) (.c (.int .i64 9))) 21 false,oa 7 25 (.pick (.t 21) (.c (.bool true)) (.t 24))]) (.cond (.t 25) (.seq [3,2] (.region [oi 0 2 0,oa 1 3 (.mv (.c (.bool false)))]) .ret) .skip)) (.seq [5,4,0] (.region [oi 0 5 0]) (.seq [5,4,0] (.seq [6,5,4,0] (.region [oi 0 6 0]) (.block 0 (.loop [0,4,5,6] 1 (.seq [6,5,4,0] (.seq [29,6,5,4,0] (.region [om 0 26 6,om 1 27 4,oa 2 28 (.lenT (.t 27)),oa 3 29 (.bin .lss (.t 26) (.t 28))]) (.cond (.t 29) .skip (.exit 0))) (.seq [6,5,4,0] (.block 1 (.seq [6,5,4,0] (.seq [41,6,5,4,0] (.region [om 0 32 4,om 1 33 6,oa 2 34 (.index (.t 32) (.t 33)),oa 3 35 (.bin .lss (.t 34) (.c (.int .u8 48))),om 4 36 35,og 5 37 (.mv (.t 4)) 36 false,og 6 38 (.mv (.t 6)) 36 false,og 7 39 (.index (.t 37) (.t 38)) 36 false,og 8 40 (.bin .gtr (.t 39) (.c (.int .u8 57))) 36 false,oa 9 41 (.pick (.t 36) (.c (.bool true)) (.t 40))]) (.cond (.t 41) (.seq [3,2] (.region [oi 0 2 0,oa 1 3 (.mv (.c (.bool false)))]) .ret) .skip)) (.region [om 0 42 5,oa 1 43 (.bin .mul (.c (.int .i64 10)) (.t 42)),om 2 44 4,om 3 45 6,oa 4 46 (.index (.t 44) (.t 45)),oa 5 47 (.conv .i64 (.t 46)),oa 6 48 (.bin .add (.t 43) (.t 47)),oa 7 49 (.bin .sub (.t 48) (.c (.int .i64 48))),om 8 5 49]))) (.region [om 0 30 6,oa 1 31 (.bin .add (.t 30) (.c (.int .i64 1))),om 2 6 31])))))) (.seq [5,0] (.seq [54,5,0] (.region [om 0 50 4,oa 1 51 (.lenT (.t 50)),om 2 52 0,oa 3 53 (.lenT (.t 52)),oa 4 54 (.bin .lss (.t 51) (.t 53))]) (.cond (.t 54) (.region [om 0 55 5,oa 1 56 (.un .neg (.t 55)),om 2 5 56]) .skip)) (.seq [5] (.seq [60,5] (.region [om 0 57 5,oF 1 58 GP [(.t 57)],om 2 59 0,oa 3 60 (.bin .neq (.t 58) (.t 59))]) (.cond (.t 60) (.seq [3,2] (.region [oi 0 2 0,oa 1 3 (.mv (.c (.bool false)))]) .ret) .skip)) (.seq [3,2] (.region [om 0 61 5,om 1 2 61,oa 2 3 (.mv (.c (.bool true)))]) .ret)))))))))
def Li:Fn:=⟨⟨1,62,0,true,[.tmp 2,.tmp 3],eI⟩,[.one .frz (.str)],.tup [.one .own (.int .i64),.one .own (.bool)]⟩
def Bs:List UInt8→Int×Bool:=Li.V
def JW:List UInt8→Prop:=Li.O
def fZ:DCode:=(.seq [6,2,1,0] (.region [oa 0 6 (.allocB 0 [(.int .i64 0),(.int .i64 0),(.int .i64 0),(.int .i64 0)])]) (.seq [7,6,2,1,0] (.region [om 0 10 2,oF 1 11 Li [(.t 10)],om 2 9 11,oa 3 12 (.extract (.t 9) 0),oa 4 13 (.extract (.t 9) 1),om 5 7 12,om 6 8 13]) (.seq [6,2,0] (.seq [14,7,6,2,0] (.region [om 0 14 1]) (.block 0 (.seq [15,14,7,6,2,0] (.region [oa 0 16 (.bin .eql (.t 14) (.c (.str [109,111]))),om 1 15 16]) (.cond (.t 15) (.seq [6] (.region [om 0 17 7,oa 1 18 (.build [(.int .i64 0),(.int .i64 0),(.int .i64 0),(.int .i64 0)] [(0,1,(.c (.int .i64 3))),(3,1,(.t 17))]),os 2 (.storeB 0 4 (.t 6) (.t 18))]) .ret) (.seq [19,14,7,6,2,0] (.region [oa 0 20 (.bin .eql (.t 14) (.c (.str [116,103]))),om 1 19 20]) (.cond (.t 19) (.seq [6] (.region [om 0 21 7,oa 1 22 (.build [(.int .i64 0),(.int .i64 0),(.int .i64 0),(.int .i64 0)] [(0,1,(.c (.int .i64 4))),(3,1,(.t 21))]),os 2 (.storeB 0 4 (.t 6) (.t 22))]) .ret) (.seq [23,14,7,6,2,0] (.region [oa 0 24 (.bin .eql (.t 14) (.c (.str [116,111]))),om 1 23 24]) (.cond (.t 23) (.seq [6] (.region [om 0 25 7,oa 1 26 (.build [(.int .i64 0),(.int .i64 0),(.int .i64 0),(.int .i64 0)] [(0,1,(.c (.int .i64 5))),(3,1,(.t 25))]),os 2 (.storeB 0 4 (.t 6) (.t 26))]) .ret) (.seq [27,7,6,2,0] (.region [oa 0 28 (.bin .eql (.t 14) (.c (.str [109,97,99,114,111]))),om 1 27 28]) (.cond (.t 27) (.seq [6] (.region [om 0 29 7,oa 1 30 (.build [(.int .i64 0),(.int .i64 0),(.int .i64 0),(.int .i64 0)] [(0,1,(.c (.int .i64 9))),(3,1,(.t 29))]),os 2 (.storeB 0 4 (.t 6) (.t 30))]) .ret) .skip)))))))))) (.seq [6] (.region [om 0 31 0,om 1 32 2,oF 2 33 JT [(.t 32)],oa 3 34 (.build [(.int .i64 0),(.int .i64 0),(.int .i64 0),(.int .i64 0)] [(0,1,(.t 31)),(2,1,(.t 33))]),os 4 (.storeB 0 4 (.t 6) (.t 34))]) .ret))))
def Nv:Fn:=⟨⟨3,35,1,true,[.cell 6 (some 4)],fZ⟩,[.one .frz (.int .i64),.one .frz (.str),.one .frz (.str)],.one (.agg [(.own,.int .i64),(.own,.int .i64),(.own,.int .i64),(.own,.int .i64)])⟩
def DR:Int×List UInt8×List UInt8→Int×Int×Int×Int:=Nv.V
def PW:Int×List UInt8×List UInt8→Prop:=Nv.O
def dj:DCode:=(.seq [2,0] (.region [oa 0 2 (.allocB 0 [(.int .i64 0),(.int .i64 0),(.int .i64 0),(.int .i64 0)]),oa 1 3 (.mv (.c (.bool false)))]) (.seq [4,2,0] (.region [om 0 10 0,oF 1 11 I1 [(.t 10)],oa 2 12 (.build [(.int .i64 0),(.int .i64 0),(.int .i64 0),(.int .i64 0)] [(0,1,(.c (.int .i64 2))),(1,1,(.t 11))]),oa 3 4 (.allocB 1 [(.int .i64 0),(.int .i64 0),(.int .i64 0),(.int .i64 0)]),os 4 (.storeB 1 4 (.t 4) (.t 12))]) (.seq [5,4,2,0] (.region [om 0 13 0,oF 1 14 IK [(.t 13),(.c (.int .u8 58))],on 2 5 14]) (.seq [6,5,4,2,0] (.region [om 0 15 0,oF 1 16 IK [(.t 15),(.c (.int .u8 47))],on 2 6 16]) (.seq [7,6,5,4,2,0] (.region [om 0 17 0,oF 1 18 IK [(.t 17),(.c (.int .u8 45))],on 2 7 18]) (.seq [4,2,0] (.block 0 (.seq [19,7,6,5,4,2,0] (.region [om 0 20 0,oa 1 21 (.bin .eql (.t 20) (.c (.str [110,111,110,101]))),om 2 19 21]) (.cond (.t 19) (.region [oa 0 22 (.build [(.int .i64 0),(.int .i64 0),(.int .i64 0),(.int .i64 0)] [(0,1,(.c (.int .i64 0)))]),os 1 (.storeB 1 4 (.t 4) (.t 22))]) (.seq [23,7,6,5,4,2,0] (.region [om 0 24 0,oa 1 25 (.bin .eql (.t 24) (.c (.str [112,97,115,115]))),om 2 23 25]) (.cond (.t 23) (.region [oa 0 26 (.build [(.int .i64 0),(.int .i64 0),(.int .i64 0),(.int .i64 0)] [(0,1,(.c (.int .i64 1)))]),os 1 (.storeB 1 4 (.t 4) (.t 26))]) (.seq [27,7,6,5,4,2,0] (.region [om 0 28 0,oa 1 29 (.bin .eql (.t 28) (.c (.str [99,97,112,115]))),om 2 27 29]) (.cond (.t 27) (.region [oa 0 30 (.build [(.int .i64 0),(.int .i64 0),(.int .i64 0),(.int .i64 0)] [(0,1,(.c (.int .i64 10)))]),os 1 (.storeB 1 4 (.t 4) (.t 30))]) (.seq [31,7,6,5,4,2,0] (.region [on 0 32 5,oa 1 33 (.len (.t 32)),oa 2 34 (.bin .eql (.t 33) (.c (.int .i64 2))),om 3 31 34]) (.cond (.t 31) (.region [on 0 35 5,xA 1 36 (.indexA 1 (.t 35) (.c (.int .i64 0))) (rg 1),xA 2 37 (.loadH none (.t 36)) (rg 2),on 3 38 5,xA 4 39 (.indexA 1 (.t 38) (.c (.int .i64 1))) [3],xA 5 40 (.loadH none (.t 39)) [3,4],xF 6 41 Nv [(.c (.int .i64 8)),(.t 37),(.t 40)] (rg 6),xS 7 (.storeB 1 4 (.t 4) (.t 41)) (rg 7)]) (.seq [42,7,6,4,2,0] (.region [on 0 43 6,oa 1 44 (.len (.t 43)),oa 2 45 (.bin .eql (.t 44) (.c (.int .i64 2))),om 3 42 45]) (.cond (.t 42) (.seq [9,8,6,4,2,0] (.region [on 0 47 6,oa 1 48 (.indexA 1 (.t 47) (.c (.int .i64 0))),oa 2 49 (.loadH none (.t 48)),oF 3 50 Li [(.t 49)],om 4 46 50,oa 5 51 (.extract (.t 46) 0),oa 6 52 (.extract (.t 46) 1),om 7 8 51,om 8 9 52]) (.seq [9,8,6,4,2,0] (.region [on 0 53 6,xA 1 54 (.indexA 1 (.t 53) (.c (.int .i64 1))) (rg 1),xA 2 55 (.loadH none (.t 54)) (rg 2),on 4 57 6,xA 5 58 (.indexA 1 (.t 57) (.c (.int .i64 0))) [4],xA 6 59 (.loadH none (.t 58)) [4,5],xF 3 56 I1 [(.t 55)] (rg 3),xF 7 60 JT [(.t 59)] (rg 7),xA 8 61 (.build [(.int .i64 0),(.int .i64 0),(.int .i64 0),(.int .i64 0)] [(0,1,(.c (.int .i64 6))),(1,1,(.t 56)),(2,1,(.t 60))]) (rg 8),xS 9 (.storeB 1 4 (.t 4) (.t 61)) (rg 9)]) (.seq [62,8,6,4,2,0] (.region [om 0 62 9]) (.cond (.t 62) (.region [on 0 63 6,oa 1 64 (.indexA 1 (.t 63) (.c (.int .i64 1))),oa 2 65 (.loadH none (.t 64)),oF 3 66 I1 [(.t 65)],om 4 67 8,oa 5 68 (.build [(.int .i64 0),(.int .i64 0),(.int .i64 0),(.int .i64 0)] [(0,1,(.c (.int .i64 7))),(1,1,(.t 66)),(3,1,(.t 67))]),os 6 (.storeB 1 4 (.t 4) (.t 68))]) .skip)))) (.seq [69,7,4,2,0] (.region [on 0 70 7,oa 1 71 (.len (.t 70)),oa 2 72 (.bin .eql (.t 71) (.c (.int .i64 2))),om 3 69 72]) (.cond (.t 69) (.region [on 0 73 7,xA 1 74 (.indexA 1 (.t 73) (.c (.int .i64 1))) (rg 1),xA 2 75 (.loadH none (.t 74)) (rg 2),on 4 77 7,xA 5 78 (.indexA 1 (.t 77) (.c (.int .i64 0))) [4],xA 6 79 (.loadH none (.t 78)) [4,5],xF 3 76 I1 [(.t 75)] (rg 3),xF 7 80 JT [(.t 79)] (rg 7),xA 8 81 (.build [(.int .i64 0),(.int .i64 0),(.int .i64 0),(.int .i64 0)] [(0,1,(.c (.int .i64 2))),(1,1,(.t 76)),(2,1,(.t 80))]) (rg 8),xS 9 (.storeB 1 4 (.t 4) (.t 81)) (rg 9)]) .skip))))))))))))) (.seq [4,2] (.seq [89,4,2] (.region [om 0 82 0,oa 1 83 (.bin .eql (.t 82) (.c (.str []))),om 2 84 83,og 3 85 (.loadB 1 (some 4) (.t 4)) 84 false,⟨4,some 86,.call false JQ.S JQ.P JQ.D [(.t 85)],(some (84,false)),[]⟩,og 5 87 (.mv (.t 0)) 84 false,og 6 88 (.bin .neq (.t 86) (.t 87)) 84 false,oa 7 89 (.pick (.t 84) (.c (.bool true)) (.t 88))]) (.cond (.t 89) (.seq [3,2] (.region [oa 0 90 (.build [(.int .i64 0),(.int .i64 0),(.int .i64 0),(.int .i64 0)] []),os 1 (.storeB 0 4 (.t 2) (.t 90)),oa 2 3 (.mv (.c (.bool false)))]) .ret) .skip)) (.seq [3,2] (.region [ob 0 91 (.loadB 1 (some 4) (.t 4)),os 1 (.storeB 0 4 (.t 2) (.t 91)),oa 2 3 (.mv (.c (.bool true)))]) .ret))))))))
def PH:Fn:=⟨⟨1,92,2,true,[.cell 2 (some 4),.tmp 3],dj⟩,[.one .frz (.str)],.tup [.agg [(.own,.int .i64),(.own,.int .i64),(.own,.int .i64),(.own,.int .i64)],.one .own (.bool)]⟩
def K8:List UInt8→(Int×Int×Int×Int)×Bool:=PH.V
def PE:List UInt8→Prop:=PH.O
end
section
set_option maxRecDepth 100000
def Eg(x:List UInt8)(x0:(Int×Int)):Bool:=(bAnd (iLt x0.2 (lLen (bSel (bAnd (iGt (lLen x) 0) (iEq (sGet x 0) 45)) (lSub x (iNat 1) (lN x)) x))) (bNot (bOr (iLt (sGet (bSel (bAnd (iGt (lLen x) 0) (iEq (sGet x 0) 45)) (lSub x (iNat 1) (lN x)) x) x0.2) 48) (iGt (sGet (bSel (bAnd (iGt (lLen x) 0) (iEq (sGet x 0) 45)) (lSub x (iNat 1) (lN x)) x) x0.2) 57))))
def ED(x:List UInt8)(x0:(Int×Int)):(Int×Int):=((iSub .i64 (iAdd .i64 (iMul .i64 10 x0.1) (iConv .i64 (sGet (bSel (bAnd (iGt (lLen x) 0) (iEq (sGet x 0) 45)) (lSub x (iNat 1) (lN x)) x) x0.2))) 48),(iAdd .i64 x0.2 1))
def PG(x:List UInt8)(x0:(Int×Int)):Prop:=(((iLt x0.2 (lLen (bSel (bAnd (iGt (lLen x) 0) (iEq (sGet x 0) 45)) (lSub x (iNat 1) (lN x)) x)))=true→(((((0:Int)≤x0.2)∧(x0.2<(((List.length (bSel (bAnd (iGt (lLen x) 0) (iEq (sGet x 0) 45)) (lSub x (iNat 1) (lN x)) x)):Int))))∧(((iLt (sGet (bSel (bAnd (iGt (lLen x) 0) (iEq (sGet x 0) 45)) (lSub x (iNat 1) (lN x)) x) x0.2) 48)=true→True)∧((iLt (sGet (bSel (bAnd (iGt (lLen x) 0) (iEq (sGet x 0) 45)) (lSub x (iNat 1) (lN x)) x) x0.2) 48)=false→(((0:Int)≤x0.2)∧(x0.2<(((List.length (bSel (bAnd (iGt (lLen x) 0) (iEq (sGet x 0) 45)) (lSub x (iNat 1) (lN x)) x)):Int)))))))∧(((bOr (iLt (sGet (bSel (bAnd (iGt (lLen x) 0) (iEq (sGet x 0) 45)) (lSub x (iNat 1) (lN x)) x) x0.2) 48) (iGt (sGet (bSel (bAnd (iGt (lLen x) 0) (iEq (sGet x 0) 45)) (lSub x (iNat 1) (lN x)) x) x0.2) 57))=true→True)∧((bOr (iLt (sGet (bSel (bAnd (iGt (lLen x) 0) (iEq (sGet x 0) 45)) (lSub x (iNat 1) (lN x)) x) x0.2) 48) (iGt (sGet (bSel (bAnd (iGt (lLen x) 0) (iEq (sGet x 0) 45)) (lSub x (iNat 1) (lN x)) x) x0.2) 57))=false→(((0:Int)≤x0.2)∧(x0.2<(((List.length (bSel (bAnd (iGt (lLen x) 0) (iEq (sGet x 0) 45)) (lSub x (iNat 1) (lN x)) x)):Int))))))))∧((iLt x0.2 (lLen (bSel (bAnd (iGt (lLen x) 0) (iEq (sGet x 0) 45)) (lSub x (iNat 1) (lN x)) x)))=false→True))
theorem eO (x):Bs x=(bSel (bOr (iLt (lLen (bSel (bAnd (iGt (lLen x) 0) (iEq (sGet x 0) 45)) (lSub x (iNat 1) (lN x)) x)) 1) (iGt (lLen (bSel (bAnd (iGt (lLen x) 0) (iEq (sGet x 0) 45)) (lSub x (iNat 1) (lN x)) x)) 9)) (0,false) (bSel (iLt (Bb (Eg x) (ED x) (0,0)).2 (lLen (bSel (bAnd (iGt (lLen x) 0) (iEq (sGet x 0) 45)) (lSub x (iNat 1) (lN x)) x))) (0,false) (bSel (sNe (CV (bSel (iLt (lLen (bSel (bAnd (iGt (lLen x) 0) (iEq (sGet x 0) 45)) (lSub x (iNat 1) (lN x)) x)) (lLen x)) (iNeg .i64 (Bb (Eg x) (ED x) (0,0)).1) (Bb (Eg x) (ED x) (0,0)).1)) x) (0,false) ((bSel (iLt (lLen (bSel (bAnd (iGt (lLen x) 0) (iEq (sGet x 0) 45)) (lSub x (iNat 1) (lN x)) x)) (lLen x)) (iNeg .i64 (Bb (Eg x) (ED x) (0,0)).1) (Bb (Eg x) (ED x) (0,0)).1),true)))):=(Li.v x).trans (by kernel_rfl)
theorem eW (x):JW x=(((((iGt (lLen x) 0)=true→(((0:Int)≤0)∧((0:Int)<(((List.length x):Int)))))∧((iGt (lLen x) 0)=false→True))∧(((bAnd (iGt (lLen x) 0) (iEq (sGet x 0) 45))=true→(((0:Int)≤1)∧(((iNat 1)≤(lN x))∧((lN x)≤(List.length x)))))∧((bAnd (iGt (lLen x) 0) (iEq (sGet x 0) 45))=false→True)))∧(((bOr (iLt (lLen (bSel (bAnd (iGt (lLen x) 0) (iEq (sGet x 0) 45)) (lSub x (iNat 1) (lN x)) x)) 1) (iGt (lLen (bSel (bAnd (iGt (lLen x) 0) (iEq (sGet x 0) 45)) (lSub x (iNat 1) (lN x)) x)) 9))=true→True)∧((bOr (iLt (lLen (bSel (bAnd (iGt (lLen x) 0) (iEq (sGet x 0) 45)) (lSub x (iNat 1) (lN x)) x)) 1) (iGt (lLen (bSel (bAnd (iGt (lLen x) 0) (iEq (sGet x 0) 45)) (lSub x (iNat 1) (lN x)) x)) 9))=false→((LoopOk (Eg x) (ED x) (PG x) (0,0))∧(((iLt (Bb (Eg x) (ED x) (0,0)).2 (lLen (bSel (bAnd (iGt (lLen x) 0) (iEq (sGet x 0) 45)) (lSub x (iNat 1) (lN x)) x)))=true→True)∧((iLt (Bb (Eg x) (ED x) (0,0)).2 (lLen (bSel (bAnd (iGt (lLen x) 0) (iEq (sGet x 0) 45)) (lSub x (iNat 1) (lN x)) x)))=false→(F7 (bSel (iLt (lLen (bSel (bAnd (iGt (lLen x) 0) (iEq (sGet x 0) 45)) (lSub x (iNat 1) (lN x)) x)) (lLen x)) (iNeg .i64 (Bb (Eg x) (ED x) (0,0)).1) (Bb (Eg x) (ED x) (0,0)).1)))))))):=(Li.o x).trans (by kernel_rfl)
theorem Nl (x):DR x=(bSel (sEq x.2.1 [(109:UInt8),111]) (3,0,0,(Bs x.2.2).1) (bSel (sEq x.2.1 [(116:UInt8),103]) (4,0,0,(Bs x.2.2).1) (bSel (sEq x.2.1 [(116:UInt8),111]) (5,0,0,(Bs x.2.2).1) (bSel (sEq x.2.1 [(109:UInt8),97,99,114,111]) (9,0,0,(Bs x.2.2).1) (x.1,0,(Dx x.2.2),0))))):=(Nv.v x).trans (by kernel_rfl)
theorem fT (x):PW x=((JW x.2.2)∧(((sEq x.2.1 [(109:UInt8),111])=true→True)∧((sEq x.2.1 [(109:UInt8),111])=false→(((sEq x.2.1 [(116:UInt8),103])=true→True)∧((sEq x.2.1 [(116:UInt8),103])=false→(((sEq x.2.1 [(116:UInt8),111])=true→True)∧((sEq x.2.1 [(116:UInt8),111])=false→(((sEq x.2.1 [(109:UInt8),97,99,114,111])=true→True)∧((sEq x.2.1 [(109:UInt8),97,99,114,111])=false→(JR x.2.2)))))))))):=(Nv.o x).trans (by kernel_rfl)
theorem df (x):K8 x=(bSel (bOr (sEq x []) (sNe (BB ((bSel (sEq x [(110:UInt8),111,110,101]) 0 (bSel (sEq x [(112:UInt8),97,115,115]) 1 (bSel (sEq x [(99:UInt8),97,112,115]) 10 (bSel (iEq (lLen (Am (x,58))) 2) (DR (8,(lGet (Am (x,58)) (iNat 0) []),(lGet (Am (x,58)) (iNat 1) []))).1 (bSel (iEq (lLen (Am (x,47))) 2) (bSel (Bs (lGet (Am (x,47)) (iNat 0) [])).2 7 6) (bSel (iEq (lLen (Am (x,45))) 2) 2 2)))))),(bSel (sEq x [(110:UInt8),111,110,101]) 0 (bSel (sEq x [(112:UInt8),97,115,115]) 0 (bSel (sEq x [(99:UInt8),97,112,115]) 0 (bSel (iEq (lLen (Am (x,58))) 2) (DR (8,(lGet (Am (x,58)) (iNat 0) []),(lGet (Am (x,58)) (iNat 1) []))).2.1 (bSel (iEq (lLen (Am (x,47))) 2) (bSel (Bs (lGet (Am (x,47)) (iNat 0) [])).2 (Cf (lGet (Am (x,47)) (iNat 1) [])) (Cf (lGet (Am (x,47)) (iNat 1) []))) (bSel (iEq (lLen (Am (x,45))) 2) (Cf (lGet (Am (x,45)) (iNat 1) [])) (Cf x))))))),(bSel (sEq x [(110:UInt8),111,110,101]) 0 (bSel (sEq x [(112:UInt8),97,115,115]) 0 (bSel (sEq x [(99:UInt8),97,112,115]) 0 (bSel (iEq (lLen (Am (x,58))) 2) (DR (8,(lGet (Am (x,58)) (iNat 0) []),(lGet (Am (x,58)) (iNat 1) []))).2.2.1 (bSel (iEq (lLen (Am (x,47))) 2) (bSel (Bs (lGet (Am (x,47)) (iNat 0) [])).2 0 (Dx (lGet (Am (x,47)) (iNat 0) []))) (bSel (iEq (lLen (Am (x,45))) 2) (Dx (lGet (Am (x,45)) (iNat 0) [])) 0)))))),(bSel (sEq x [(110:UInt8),111,110,101]) 0 (bSel (sEq x [(112:UInt8),97,115,115]) 0 (bSel (sEq x [(99:UInt8),97,112,115]) 0 (bSel (iEq (lLen (Am (x,58))) 2) (DR (8,(lGet (Am (x,58)) (iNat 0) []),(lGet (Am (x,58)) (iNat 1) []))).2.2.2 (bSel (iEq (lLen (Am (x,47))) 2) (bSel (Bs (lGet (Am (x,47)) (iNat 0) [])).2 (Bs (lGet (Am (x,47)) (iNat 0) [])).1 0) (bSel (iEq (lLen (Am (x,45))) 2) 0 0)))))))) x)) ((0,0,0,0),false) (((bSel (sEq x [(110:UInt8),111,110,101]) 0 (bSel (sEq x [(112:UInt8),97,115,115]) 1 (bSel (sEq x [(99:UInt8),97,112,115]) 10 (bSel (iEq (lLen (Am (x,58))) 2) (DR (8,(lGet (Am (x,58)) (iNat 0) []),(lGet (Am (x,58)) (iNat 1) []))).1 (bSel (iEq (lLen (Am (x,47))) 2) (bSel (Bs (lGet (Am (x,47)) (iNat 0) [])).2 7 6) (bSel (iEq (lLen (Am (x,45))) 2) 2 2)))))),(bSel (sEq x [(110:UInt8),111,110,101]) 0 (bSel (sEq x [(112:UInt8),97,115,115]) 0 (bSel (sEq x [(99:UInt8),97,112,115]) 0 (bSel (iEq (lLen (Am (x,58))) 2) (DR (8,(lGet (Am (x,58)) (iNat 0) []),(lGet (Am (x,58)) (iNat 1) []))).2.1 (bSel (iEq (lLen (Am (x,47))) 2) (bSel (Bs (lGet (Am (x,47)) (iNat 0) [])).2 (Cf (lGet (Am (x,47)) (iNat 1) [])) (Cf (lGet (Am (x,47)) (iNat 1) []))) (bSel (iEq (lLen (Am (x,45))) 2) (Cf (lGet (Am (x,45)) (iNat 1) [])) (Cf x))))))),(bSel (sEq x [(110:UInt8),111,110,101]) 0 (bSel (sEq x [(112:UInt8),97,115,115]) 0 (bSel (sEq x [(99:UInt8),97,112,115]) 0 (bSel (iEq (lLen (Am (x,58))) 2) (DR (8,(lGet (Am (x,58)) (iNat 0) []),(lGet (Am (x,58)) (iNat 1) []))).2.2.1 (bSel (iEq (lLen (Am (x,47))) 2) (bSel (Bs (lGet (Am (x,47)) (iNat 0) [])).2 0 (Dx (lGet (Am (x,47)) (iNat 0) []))) (bSel (iEq (lLen (Am (x,45))) 2) (Dx (lGet (Am (x,45)) (iNat 0) [])) 0)))))),(bSel (sEq x [(110:UInt8),111,110,101]) 0 (bSel (sEq x [(112:UInt8),97,115,115]) 0 (bSel (sEq x [(99:UInt8),97,112,115]) 0 (bSel (iEq (lLen (Am (x,58))) 2) (DR (8,(lGet (Am (x,58)) (iNat 0) []),(lGet (Am (x,58)) (iNat 1) []))).2.2.2 (bSel (iEq (lLen (Am (x,47))) 2) (bSel (Bs (lGet (Am (x,47)) (iNat 0) [])).2 (Bs (lGet (Am (x,47)) (iNat 0) [])).1 0) (bSel (iEq (lLen (Am (x,45))) 2) 0 0))))))),true)):=(PH.v x).trans (by kernel_rfl)
theorem dr (x):PE x=((IY x)∧((IE (x,58))∧((IE (x,47))∧((IE (x,45))∧((((sEq x [(110:UInt8),111,110,101])=true→True)∧((sEq x [(110:UInt8),111,110,101])=false→(((sEq x [(112:UInt8),97,115,115])=true→True)∧((sEq x [(112:UInt8),97,115,115])=false→(((sEq x [(99:UInt8),97,112,115])=true→True)∧((sEq x [(99:UInt8),97,112,115])=false→(((iEq (lLen (Am (x,58))) 2)=true→((((0:Int)≤0)∧((0:Int)<(((List.length (Am (x,58))):Int))))∧(((iNat 0)<(List.length (Am (x,58))))∧((((0:Int)≤1)∧((1:Int)<(((List.length (Am (x,58))):Int))))∧(((iNat 1)<(List.length (Am (x,58))))∧(PW (8,(lGet (Am (x,58)) (iNat 0) []),(lGet (Am (x,58)) (iNat 1) []))))))))∧((iEq (lLen (Am (x,58))) 2)=false→(((iEq (lLen (Am (x,47))) 2)=true→((((0:Int)≤0)∧((0:Int)<(((List.length (Am (x,47))):Int))))∧(((iNat 0)<(List.length (Am (x,47))))∧((JW (lGet (Am (x,47)) (iNat 0) []))∧((((0:Int)≤1)∧((1:Int)<(((List.length (Am (x,47))):Int))))∧(((iNat 1)<(List.length (Am (x,47))))∧((((0:Int)≤0)∧((0:Int)<(((List.length (Am (x,47))):Int))))∧(((iNat 0)<(List.length (Am (x,47))))∧((IY (lGet (Am (x,47)) (iNat 1) []))∧((JR (lGet (Am (x,47)) (iNat 0) []))∧(((Bs (lGet (Am (x,47)) (iNat 0) [])).2=true→((((0:Int)≤1)∧((1:Int)<(((List.length (Am (x,47))):Int))))∧(((iNat 1)<(List.length (Am (x,47))))∧(IY (lGet (Am (x,47)) (iNat 1) [])))))∧((Bs (lGet (Am (x,47)) (iNat 0) [])).2=false→True))))))))))))∧((iEq (lLen (Am (x,47))) 2)=false→(((iEq (lLen (Am (x,45))) 2)=true→((((0:Int)≤1)∧((1:Int)<(((List.length (Am (x,45))):Int))))∧(((iNat 1)<(List.length (Am (x,45))))∧((((0:Int)≤0)∧((0:Int)<(((List.length (Am (x,45))):Int))))∧(((iNat 0)<(List.length (Am (x,45))))∧((IY (lGet (Am (x,45)) (iNat 1) []))∧(JR (lGet (Am (x,45)) (iNat 0) []))))))))∧((iEq (lLen (Am (x,45))) 2)=false→True))))))))))))∧(((sEq x [])=true→True)∧((sEq x [])=false→(MV ((bSel (sEq x [(110:UInt8),111,110,101]) 0 (bSel (sEq x [(112:UInt8),97,115,115]) 1 (bSel (sEq x [(99:UInt8),97,112,115]) 10 (bSel (iEq (lLen (Am (x,58))) 2) (DR (8,(lGet (Am (x,58)) (iNat 0) []),(lGet (Am (x,58)) (iNat 1) []))).1 (bSel (iEq (lLen (Am (x,47))) 2) (bSel (Bs (lGet (Am (x,47)) (iNat 0) [])).2 7 6) (bSel (iEq (lLen (Am (x,45))) 2) 2 2)))))),(bSel (sEq x [(110:UInt8),111,110,101]) 0 (bSel (sEq x [(112:UInt8),97,115,115]) 0 (bSel (sEq x [(99:UInt8),97,112,115]) 0 (bSel (iEq (lLen (Am (x,58))) 2) (DR (8,(lGet (Am (x,58)) (iNat 0) []),(lGet (Am (x,58)) (iNat 1) []))).2.1 (bSel (iEq (lLen (Am (x,47))) 2) (bSel (Bs (lGet (Am (x,47)) (iNat 0) [])).2 (Cf (lGet (Am (x,47)) (iNat 1) [])) (Cf (lGet (Am (x,47)) (iNat 1) []))) (bSel (iEq (lLen (Am (x,45))) 2) (Cf (lGet (Am (x,45)) (iNat 1) [])) (Cf x))))))),(bSel (sEq x [(110:UInt8),111,110,101]) 0 (bSel (sEq x [(112:UInt8),97,115,115]) 0 (bSel (sEq x [(99:UInt8),97,112,115]) 0 (bSel (iEq (lLen (Am (x,58))) 2) (DR (8,(lGet (Am (x,58)) (iNat 0) []),(lGet (Am (x,58)) (iNat 1) []))).2.2.1 (bSel (iEq (lLen (Am (x,47))) 2) (bSel (Bs (lGet (Am (x,47)) (iNat 0) [])).2 0 (Dx (lGet (Am (x,47)) (iNat 0) []))) (bSel (iEq (lLen (Am (x,45))) 2) (Dx (lGet (Am (x,45)) (iNat 0) [])) 0)))))),(bSel (sEq x [(110:UInt8),111,110,101]) 0 (bSel (sEq x [(112:UInt8),97,115,115]) 0 (bSel (sEq x [(99:UInt8),97,112,115]) 0 (bSel (iEq (lLen (Am (x,58))) 2) (DR (8,(lGet (Am (x,58)) (iNat 0) []),(lGet (Am (x,58)) (iNat 1) []))).2.2.2 (bSel (iEq (lLen (Am (x,47))) 2) (bSel (Bs (lGet (Am (x,47)) (iNat 0) [])).2 (Bs (lGet (Am (x,47)) (iNat 0) [])).1 0) (bSel (iEq (lLen (Am (x,45))) 2) 0 0))))))))))))))):=(PH.o x).trans (by kernel_rfl)
attribute [irreducible] Bs JW DR PW K8 PE
end
section
set_option maxRecDepth 8000
def fL:DCode:=(.seq [1,0] (.region [oa 0 4 (.mv (.c .undef))]) (.seq [5,1] (.region [on 0 6 0,op 1 7 LA Nx XA [(.t 6)],om 2 5 7]) (.seq [5] (.region [om 0 8 5,om 1 9 5,oa 2 10 (.nilck (.t 9)),oa 3 11 (.fieldA 2 (.t 10)),oa 4 12 (.loadH none (.t 11)),om 5 13 1,oa 6 14 (.bin .mul (.c (.int .i64 7919)) (.t 13)),oa 7 15 (.bin .add (.t 12) (.t 14)),oa 8 16 (.nilck (.t 8)),oa 9 17 (.fieldA 2 (.t 16)),os 10 (.storeH 1 (.t 17) (.t 15))]) (.seq [4] (.region [om 0 18 5,om 1 4 18]) .ret))))
def IZ:DFun:=⟨2,19,0,false,[.tmp 4],fL⟩
@[irreducible] def Lz:AU:=G2 IZ.er.er
@[irreducible] def Nq:BS:=DZ IZ.er
theorem gq:D0 Lz Nq:=by unfold Lz Nq;exact Kb (f:=IZ.er) ⟨gD,trivial⟩
def Qg:List HT:=[.one .frz (.sl (.one (.int .u8))),.one .frz (.int .i64)]
def P8:List (Ql×CT):=[(.frz,.sl (.one (.int .u8))),(.own,.int .i64),(.own,.int .i64)]
@[irreducible] def J0(x:List (Int)×Int):List (Int)×Int×Int:=(shut fun x=>Po IZ Qg P8 x).1 x
@[irreducible] def Lp(x:List (Int)×Int):Prop:=(shut fun x=>O7 IZ Qg P8 x).1 x
def Xq:Es:=Rx Qg P8 Lp J0
theorem fB:G0 Nq Xq:=by unfold Nq;exact X5 (f:=IZ) (hs:=Qg) (cs:=P8) ⟨gN,trivial⟩ (by kernel_rfl) (fun x=>by kernel_rfl) (fun x h=>by unfold Lp at h;exact Eq.mp (congrFun (shut _).2 x) h) (fun x=>by unfold J0;exact(congrFun (shut _).2 x).symm)
def fy:DCode:=(.seq [4,1,0] (.region [oa 0 4 (.allocB 0 [(.int .i64 0),(.int .i64 0),(.int .i64 0),(.int .i64 0)])]) (.seq [5,4,1,0] (.region [om 0 8 0,op 1 9 CW FH HP [(.t 8),(.c (.int .i64 56))],oa 2 10 (.bin .add (.c (.int .i64 1)) (.t 9)),om 3 5 10]) (.seq [6,5,4,1,0] (.region [om 0 11 0,op 1 12 CW FH HP [(.t 11),(.c (.int .i64 15))],oa 2 13 (.bin .add (.c (.int .i64 1)) (.t 12)),om 3 6 13]) (.seq [6,5,4,1,0] (.seq [15,6,5,4,1,0] (.region [om 0 14 0,op 1 15 Lt Nr Xv [(.t 14),(.c (.int .i64 2))]]) (.cond (.t 15) (.region [oi 0 6 2]) .skip)) (.seq [7,6,5,4,1,0] (.region [om 0 16 0,om 1 17 1,oa 2 18 (.bin .sub (.t 17) (.c (.int .i64 1))),oa 3 19 (.maxI (.c (.int .i64 1)) (.t 18)),op 4 20 CW FH HP [(.t 16),(.t 19)],oa 5 21 (.bin .add (.c (.int .i64 1)) (.t 20)),om 6 7 21]) (.seq [5,4] (.seq [23,7,6,5,4,1,0] (.region [om 0 22 0,op 1 23 CW FH HP [(.t 22),(.c (.int .i64 16))]]) (.block 0 (.seq [24,23,7,6,5,4,1,0] (.region [oa 0 25 (.bin .eql (.t 23) (.c (.int .i64 0))),om 1 24 25]) (.cond (.t 24) (.seq [4] (.region [om 0 26 5,om 1 27 6,oa 2 28 (.build [(.int .i64 0),(.int .i64 0),(.int .i64 0),(.int .i64 0)] [(0,1,(.c (.int .i64 2))),(1,1,(.t 26)),(2,1,(.t 27))]),os 3 (.storeB 0 4 (.t 4) (.t 28))]) .ret) (.seq [29,23,7,6,5,4,1,0] (.region [oa 0 30 (.bin .eql (.t 23) (.c (.int .i64 1))),om 1 29 30]) (.cond (.t 29) (.seq [4] (.region [om 0 31 6,oa 1 32 (.build [(.int .i64 0),(.int .i64 0),(.int .i64 0),(.int .i64 0)] [(0,1,(.c (.int .i64 2))),(2,1,(.t 31))]),os 2 (.storeB 0 4 (.t 4) (.t 32))]) .ret) (.seq [33,23,7,6,5,4,1,0] (.seq [33,23,7,6,5,4,1,0] (.region [oa 0 34 (.bin .eql (.t 23) (.c (.int .i64 2))),om 1 33 34]) (.cond (.t 33) .skip (.region [oa 0 35 (.bin .eql (.t 23) (.c (.int .i64 3))),om 1 33 35]))) (.cond (.t 33) (.seq [4] (.region [om 0 36 5,om 1 37 6,oa 2 38 (.build [(.int .i64 0),(.int .i64 0),(.int .i64 0),(.int .i64 0)] [(0,1,(.c (.int .i64 6))),(1,1,(.t 36)),(2,1,(.t 37))]),os 3 (.storeB 0 4 (.t 4) (.t 38))]) .ret) (.seq [39,23,7,6,5,4,1,0] (.region [oa 0 40 (.bin .eql (.t 23) (.c (.int .i64 4))),om 1 39 40]) (.cond (.t 39) (.seq [4] (.region [om 0 41 6,oa 1 42 (.build [(.int .i64 0),(.int .i64 0),(.int .i64 0),(.int .i64 0)] [(0,1,(.c (.int .i64 8))),(2,1,(.t 41))]),os 2 (.storeB 0 4 (.t 4) (.t 42))]) .ret) (.seq [43,23,7,5,4,1,0] (.region [oa 0 44 (.bin .eql (.t 23) (.c (.int .i64 5))),om 1 43 44]) (.cond (.t 43) (.seq [4] (.region [om 0 45 0,op 1 46 CW FH HP [(.t 45),(.c (.int .i64 4))],oa 2 47 (.build [(.int .i64 0),(.int .i64 0),(.int .i64 0),(.int .i64 0)] [(0,1,(.c (.int .i64 9))),(3,1,(.t 46))]),os 3 (.storeB 0 4 (.t 4) (.t 47))]) .ret) (.seq [48,23,7,5,4,1,0] (.region [oa 0 49 (.bin .eql (.t 23) (.c (.int .i64 6))),om 1 48 49]) (.cond (.t 48) (.seq [4] (.region [oa 0 50 (.build [(.int .i64 0),(.int .i64 0),(.int .i64 0),(.int .i64 0)] [(0,1,(.c (.int .i64 10)))]),os 1 (.storeB 0 4 (.t 4) (.t 50))]) .ret) (.seq [51,23,7,5,4,1,0] (.region [oa 0 52 (.bin .eql (.t 23) (.c (.int .i64 7))),om 1 51 52]) (.cond (.t 51) (.seq [4] (.region [om 0 53 0,om 1 54 1,oa 2 55 (.maxI (.c (.int .i64 1)) (.t 54)),op 3 56 CW FH HP [(.t 53),(.t 55)],oa 4 57 (.build [(.int .i64 0),(.int .i64 0),(.int .i64 0),(.int .i64 0)] [(0,1,(.c (.int .i64 5))),(3,1,(.t 56))]),os 5 (.storeB 0 4 (.t 4) (.t 57))]) .ret) (.seq [58,7,5,4,1,0] (.seq [58,23,7,5,4,1,0] (.region [oa 0 59 (.bin .eql (.t 23) (.c (.int .i64 8))),om 1 58 59]) (.cond (.t 58) .skip (.seq [58,23,7,5,4,1,0] (.region [oa 0 60 (.bin .eql (.t 23) (.c (.int .i64 9))),om 1 58 60]) (.cond (.t 58) .skip (.region [oa 0 61 (.bin .eql (.t 23) (.c (.int .i64 10))),om 1 58 61]))))) (.cond (.t 58) (.seq [63,7,5,4,0] (.region [om 0 62 1,oa 1 63 (.bin .gtr (.t 62) (.c (.int .i64 1)))]) (.cond (.t 63) (.seq [4] (.region [om 0 64 7,oa 1 65 (.build [(.int .i64 0),(.int .i64 0),(.int .i64 0),(.int .i64 0)] [(0,1,(.c (.int .i64 3))),(3,1,(.t 64))]),om 2 66 7,oa 3 67 (.build [(.int .i64 0),(.int .i64 0),(.int .i64 0),(.int .i64 0)] [(0,1,(.c (.int .i64 4))),(3,1,(.t 66))]),om 4 68 5,om 5 69 7,oa 6 70 (.build [(.int .i64 0),(.int .i64 0),(.int .i64 0),(.int .i64 0)] [(0,1,(.c (.int .i64 7))),(1,1,(.t 68)),(3,1,(.t 69))]),⟨7,some 71,.a false (.litSlice 4 3 [(.int .i64 0),(.int .i64 0),(.int .i64 0),(.int .i64 0),(.int .i64 0),(.int .i64 0),(.int .i64 0),(.int .i64 0),(.int .i64 0),(.int .i64 0),(.int .i64 0),(.int .i64 0)] [(0,4,(.t 65)),(4,4,(.t 67)),(8,4,(.t 70))]) (some qF),none,[]⟩,om 8 72 0,op 9 73 CW FH HP [(.t 72),(.c (.int .i64 3))],oa 10 74 (.indexA 4 (.t 71) (.t 73)),ob 11 75 (.loadH (some 4) (.t 74)),os 12 (.storeB 0 4 (.t 4) (.t 75))]) .ret) .skip)) .skip)))))))))))))))))) (.seq [4] (.region [om 0 76 5,oa 1 77 (.build [(.int .i64 0),(.int .i64 0),(.int .i64 0),(.int .i64 0)] [(0,1,(.c (.int .i64 2))),(1,1,(.t 76))]),os 2 (.storeB 0 4 (.t 4) (.t 77))]) .ret)))))))
def IV:DFun:=⟨2,78,1,false,[.cell 4 (some 4)],fy⟩
@[irreducible] def Lx:AU:=G2 IV.er.er
@[irreducible] def Nu:BS:=DZ IV.er
theorem ft:D0 Lx Nu:=by unfold Lx Nu;exact Kb (f:=IV.er) ⟨IM,IM,fX,IM,IM,IM,IM,IM,trivial⟩
def P9:List HT:=[.one .frz (.int .i64)]
def Qb:List (Ql×CT):=[(.frz,.sl (.one (.int .u8))),(.own,.int .i64),(.own,.int .i64)]
def P7:QT:=.one (.agg [(.own,.int .i64),(.own,.int .i64),(.own,.int .i64),(.own,.int .i64)])
@[irreducible] def J2(x:(List (Int)×Int×Int)×Int):(Int×Int×Int×Int)×(Int×Int):=(shut fun x=>KX IV P9 Qb P7 x).1 x
@[irreducible] def Lq(x:(List (Int)×Int×Int)×Int):Prop:=(shut fun x=>KH IV P9 Qb P7 x).1 x
def Xp:Es:=L8 P9 Qb P7 Lq J2
theorem fM:G0 Nu Xp:=by unfold Nu;exact QC (f:=IV) (hs:=P9) (cs:=Qb) (q:=P7) ⟨IU,IU,gg,IU,IU,IU,IU,IU,trivial⟩ (by kernel_rfl) (fun x=>by kernel_rfl) (fun x h=>by unfold Lq at h;exact Eq.mp (congrFun (shut _).2 x) h) (fun x=>by unfold J2;exact(congrFun (shut _).2 x).symm)
def dR:DCode:=(.seq [2,0] (.region [oa 0 2 (.allocB 0 [(.int .i64 0),(.int .i64 0),(.int .i64 0),(.int .i64 0)])]) (.seq [2] (.region [on 0 3 0,op 1 4 Lz Nq Xq [(.t 3),(.c (.int .i64 3))],op 2 5 Lx Nu Xp [(.t 4),(.c (.int .i64 4))],os 3 (.storeB 0 4 (.t 2) (.t 5))]) .ret))
def HH:Fn:=⟨⟨1,6,1,true,[.cell 2 (some 4)],dR⟩,[.one .frz (.sl (.one (.int .u8)))],.one (.agg [(.own,.int .i64),(.own,.int .i64),(.own,.int .i64),(.own,.int .i64)])⟩
theorem dz:HH.A:=B9 ⟨gq,ft,trivial⟩
def Ah:List (Int)→Int×Int×Int×Int:=HH.V
def PF:List (Int)→Prop:=HH.O
theorem dK:HH.B:=Ce ⟨fB,fM,trivial⟩ (by kernel_rfl) (fun x=>by kernel_rfl)
def ct:DCode:=(.seq [1,0] (.region [oa 0 4 (.mv (.c (.bool false)))]) (.seq [4] (.region [om 0 5 0,oa 1 6 (.lenT (.t 5)),om 2 7 1,oa 3 8 (.lenT (.t 7)),oa 4 9 (.bin .geq (.t 6) (.t 8)),om 5 10 9,og 6 11 (.mv (.t 0)) 10 true,og 7 12 (.mv (.t 1)) 10 true,og 8 13 (.lenT (.t 12)) 10 true,og 9 14 (.substr (.t 11) none (some (.t 13))) 10 true,og 10 15 (.mv (.t 1)) 10 true,og 11 16 (.bin .eql (.t 14) (.t 15)) 10 true,oa 12 17 (.pick (.t 10) (.t 16) (.c (.bool false))),om 13 4 17]) .ret))
def Hy:Fn:=⟨⟨2,18,0,true,[.tmp 4],ct⟩,[.one .frz (.str),.one .frz (.str)],.one (.one .own (.bool))⟩
theorem cv:Hy.A:=B9 trivial
def JN:List UInt8×List UInt8→Bool:=Hy.V
def MR:List UInt8×List UInt8→Prop:=Hy.O
theorem cx:Hy.B:=Ce trivial (by kernel_rfl) (fun x=>by kernel_rfl)
def cw:DCode:=(.seq [1,0] (.region [oa 0 4 (.mv (.c (.str []))),oa 1 5 (.mv (.c (.bool false)))]) (.seq [1,0] (.seq [9,1,0] (.region [om 0 6 0,om 1 7 1,oF 2 8 Hy [(.t 6),(.t 7)],oa 3 9 (.un .not (.t 8))]) (.cond (.t 9) (.seq [5,4] (.region [om 0 10 0,om 1 4 10,oa 2 5 (.mv (.c (.bool false)))]) .ret) .skip)) (.seq [5,4] (.region [om 0 11 0,om 1 12 1,oa 2 13 (.lenT (.t 12)),oa 3 14 (.substr (.t 11) (some (.t 13)) none),om 4 4 14,oa 5 5 (.mv (.c (.bool true)))]) .ret)))
def Hx:Fn:=⟨⟨2,15,0,true,[.tmp 4,.tmp 5],cw⟩,[.one .frz (.str),.one .frz (.str)],.tup [.one .own (.str),.one .own (.bool)]⟩
theorem cy:Hx.A:=B9 ⟨cv,trivial⟩
def SF:List UInt8×List UInt8→List UInt8×Bool:=Hx.V
def SE:List UInt8×List UInt8→Prop:=Hx.O
theorem cu:Hx.B:=Ce ⟨cx,trivial⟩ (by kernel_rfl) (fun x=>by kernel_rfl)
def cL:DCode:=(.seq [1,0] (.region [oa 0 4 (.mv (.c (.str []))),oa 1 5 (.mv (.c (.bool false)))]) (.seq [5,4] (.region [om 0 6 0,om 1 7 1,oF 2 8 Hx [(.t 6),(.t 7)],oa 3 9 (.extract (.t 8) 0),oa 4 10 (.extract (.t 8) 1),om 5 4 9,om 6 5 10]) .ret))
def F6:Fn:=⟨⟨2,11,0,true,[.tmp 4,.tmp 5],cL⟩,[.one .frz (.str),.one .frz (.str)],.tup [.one .own (.str),.one .own (.bool)]⟩
theorem Wp:F6.A:=B9 ⟨cy,trivial⟩
def Ef:List UInt8×List UInt8→List UInt8×Bool:=F6.V
def JP:List UInt8×List UInt8→Prop:=F6.O
theorem Ws:F6.B:=Ce ⟨cu,trivial⟩ (by kernel_rfl) (fun x=>by kernel_rfl)
def eS:DCode:=(.seq [0] (.region [oi 0 2 0,oa 1 3 (.mv (.c (.bool false)))]) (.seq [0] (.seq [13,0] (.region [om 0 6 0,oa 1 7 (.lenT (.t 6)),oa 2 8 (.bin .lss (.t 7) (.c (.int .i64 1))),om 3 9 8,og 4 10 (.mv (.t 0)) 9 false,og 5 11 (.lenT (.t 10)) 9 false,og 6 12 (.bin .gtr (.t 11) (.c (.int .i64 10))) 9 false,oa 7 13 (.pick (.t 9) (.c (.bool true)) (.t 12))]) (.cond (.t 13) (.seq [3,2] (.region [oi 0 2 0,oa 1 3 (.mv (.c (.bool false)))]) .ret) .skip)) (.seq [5,4,0] (.region [om 0 15 0,oc 1 16 Ni Np Xj [(.t 15)],om 2 14 16,oa 3 17 (.extract (.t 14) 0),oa 4 18 (.extract (.t 14) 1),om 5 4 17,om 6 5 18]) (.seq [4] (.seq [34,4] (.region [om 0 19 5,oa 1 20 (.eqN true (.t 19) (.c (.ifc true))),om 2 21 20,og 3 22 (.mv (.t 4)) 21 false,og 4 23 (.bin .lss (.t 22) (.c (.int .i64 (-999999999)))) 21 false,oa 5 24 (.pick (.t 21) (.c (.bool true)) (.t 23)),om 6 25 24,og 7 26 (.mv (.t 4)) 25 false,og 8 27 (.bin .gtr (.t 26) (.c (.int .i64 999999999))) 25 false,oa 9 28 (.pick (.t 25) (.c (.bool true)) (.t 27)),om 10 29 28,og 11 30 (.mv (.t 4)) 29 false,⟨12,some 31,.call false Eh.S Eh.P Eh.D [(.t 30)],(some (29,false)),[]⟩,og 13 32 (.mv (.t 0)) 29 false,og 14 33 (.bin .neq (.t 31) (.t 32)) 29 false,oa 15 34 (.pick (.t 29) (.c (.bool true)) (.t 33))]) (.cond (.t 34) (.seq [3,2] (.region [oi 0 2 0,oa 1 3 (.mv (.c (.bool false)))]) .ret) .skip)) (.seq [3,2] (.region [om 0 35 4,om 1 2 35,oa 2 3 (.mv (.c (.bool true)))]) .ret)))))
def F8:Fn:=⟨⟨1,36,0,true,[.tmp 2,.tmp 3],eS⟩,[.one .frz (.str)],.tup [.one .own (.int .i64),.one .own (.bool)]⟩
theorem WG:F8.A:=B9 ⟨fb,SO,trivial⟩
def FG:List UInt8→Int×Bool:=F8.V
def JS:List UInt8→Prop:=F8.O
theorem WL:F8.B:=Ce ⟨fq,SN,trivial⟩ (by kernel_rfl) (fun x=>by kernel_rfl)
def di:DCode:=(.seq [2,0] (.region [oa 0 2 (.allocB 0 [(.int .i64 0),(.int .i64 0),(.int .i64 0),(.int .i64 0)])]) (.seq [2,0] (.seq [19,2,0] (.region [om 0 19 0]) (.block 0 (.seq [20,19,2,0] (.region [oa 0 21 (.bin .eql (.t 19) (.c (.str [110,111,110,101]))),om 1 20 21]) (.cond (.t 20) (.seq [2] (.region [oa 0 22 (.build [(.int .i64 0),(.int .i64 0),(.int .i64 0),(.int .i64 0)] []),os 1 (.storeB 0 4 (.t 2) (.t 22))]) .ret) (.seq [23,19,2,0] (.region [oa 0 24 (.bin .eql (.t 19) (.c (.str [112,97,115,115]))),om 1 23 24]) (.cond (.t 23) (.seq [2] (.region [oa 0 25 (.build [(.int .i64 0),(.int .i64 0),(.int .i64 0),(.int .i64 0)] [(0,1,(.c (.int .i64 1)))]),os 1 (.storeB 0 4 (.t 2) (.t 25))]) .ret) (.seq [26,2,0] (.region [oa 0 27 (.bin .eql (.t 19) (.c (.str [99,97,112,115]))),om 1 26 27]) (.cond (.t 26) (.seq [2] (.region [oa 0 28 (.build [(.int .i64 0),(.int .i64 0),(.int .i64 0),(.int .i64 0)] [(0,1,(.c (.int .i64 10)))]),os 1 (.storeB 0 4 (.t 2) (.t 28))]) .ret) .skip)))))))) (.seq [2,0] (.seq [31,30,29,2,0] (.region [⟨0,some 29,.a false (.litSlice 1 4 [(.int .i64 0),(.int .i64 0),(.int .i64 0),(.int .i64 0)] [(0,1,(.c (.int .i64 3))),(1,1,(.c (.int .i64 4))),(2,1,(.c (.int .i64 5))),(3,1,(.c (.int .i64 9)))]) (some (.one (.int .i64))),none,[]⟩,oa 1 30 (.len (.t 29)),oi 2 31 0]) (.block 1 (.loop [0,2,29,30,31] 1 (.seq [32,31,30,29,2,0] (.region [oa 0 32 (.bin .lss (.t 31) (.t 30))]) (.seq [31,30,29,2,0] (.cond (.t 32) .skip (.exit 1)) (.seq [31,30,29,2,0] (.block 2 (.seq [31,30,29,4,2,0] (.region [oa 0 33 (.indexA 1 (.t 29) (.t 31)),ob 1 34 (.loadH none (.t 33)),om 2 4 34]) (.seq [31,30,29,6,5,4,2,0] (.region [om 0 36 0,om 1 37 4,oF 2 38 Gb [(.t 37)],oF 3 39 F6 [(.t 36),(.t 38)],om 4 35 39,oa 5 40 (.extract (.t 35) 0),oa 6 41 (.extract (.t 35) 1),om 7 5 40,om 8 6 41]) (.seq [42,31,30,29,5,4,2,0] (.region [om 0 42 6]) (.cond (.t 42) (.seq [7,4,2] (.region [om 0 44 5,oF 1 45 F8 [(.t 44)],om 2 43 45,oa 3 46 (.extract (.t 43) 0),oa 4 47 (.extract (.t 43) 1),om 5 7 46,om 6 8 47]) (.seq [2] (.region [om 0 48 4,om 1 49 7,oa 2 50 (.build [(.int .i64 0),(.int .i64 0),(.int .i64 0),(.int .i64 0)] [(0,1,(.t 48)),(3,1,(.t 49))]),os 3 (.storeB 0 4 (.t 2) (.t 50))]) .ret)) .skip))))) (.region [oa 0 51 (.bin .add (.t 31) (.c (.int .i64 1))),om 1 31 51]))))))) (.seq [2,0] (.seq [10,9,2,0] (.region [om 0 53 0,oF 1 54 F6 [(.t 53),(.c (.str [111,110,99,101,58]))],om 2 52 54,oa 3 55 (.extract (.t 52) 0),oa 4 56 (.extract (.t 52) 1),om 5 9 55,om 6 10 56]) (.seq [57,9,2,0] (.region [om 0 57 10]) (.cond (.t 57) (.seq [2] (.region [om 0 58 9,oF 1 59 Dy [(.t 58)],oa 2 60 (.build [(.int .i64 0),(.int .i64 0),(.int .i64 0),(.int .i64 0)] [(0,1,(.c (.int .i64 8))),(2,1,(.t 59))]),os 3 (.storeB 0 4 (.t 2) (.t 60))]) .ret) .skip))) (.seq [2,0] (.seq [13,12,11,2,0] (.region [om 0 62 0,oF 1 63 Ga [(.t 62),(.c (.str [47]))],om 2 61 63,oa 3 64 (.extract (.t 61) 0),oa 4 65 (.extract (.t 61) 1),oa 5 66 (.extract (.t 61) 2),om 6 11 64,om 7 12 65,om 8 13 66]) (.seq [67,12,11,2,0] (.region [om 0 67 13]) (.cond (.t 67) (.seq [12,11,2] (.seq [15,14,12,11,2] (.region [om 0 69 11,oF 1 70 F8 [(.t 69)],om 2 68 70,oa 3 71 (.extract (.t 68) 0),oa 4 72 (.extract (.t 68) 1),om 5 14 71,om 6 15 72]) (.seq [73,14,12,11,2] (.region [om 0 73 15]) (.cond (.t 73) (.seq [2] (.region [om 0 74 14,om 1 75 12,oF 2 76 Da [(.t 75)],oa 3 77 (.build [(.int .i64 0),(.int .i64 0),(.int .i64 0),(.int .i64 0)] [(0,1,(.c (.int .i64 7))),(3,1,(.t 74)),(1,1,(.t 76))]),os 4 (.storeB 0 4 (.t 2) (.t 77))]) .ret) .skip))) (.seq [2] (.region [om 0 78 11,oF 1 79 Dy [(.t 78)],om 2 80 12,oF 3 81 Da [(.t 80)],oa 4 82 (.build [(.int .i64 0),(.int .i64 0),(.int .i64 0),(.int .i64 0)] [(0,1,(.c (.int .i64 6))),(2,1,(.t 79)),(1,1,(.t 81))]),os 5 (.storeB 0 4 (.t 2) (.t 82))]) .ret)) .skip))) (.seq [2,0] (.seq [18,17,16,2,0] (.region [om 0 84 0,oF 1 85 Ga [(.t 84),(.c (.str [45]))],om 2 83 85,oa 3 86 (.extract (.t 83) 0),oa 4 87 (.extract (.t 83) 1),oa 5 88 (.extract (.t 83) 2),om 6 16 86,om 7 17 87,om 8 18 88]) (.seq [89,17,16,2,0] (.region [om 0 89 18]) (.cond (.t 89) (.seq [2] (.region [om 0 90 16,oF 1 91 Dy [(.t 90)],om 2 92 17,oF 3 93 Da [(.t 92)],oa 4 94 (.build [(.int .i64 0),(.int .i64 0),(.int .i64 0),(.int .i64 0)] [(0,1,(.c (.int .i64 2))),(2,1,(.t 91)),(1,1,(.t 93))]),os 5 (.storeB 0 4 (.t 2) (.t 94))]) .ret) .skip))) (.seq [2] (.region [om 0 95 0,oF 1 96 Da [(.t 95)],oa 2 97 (.build [(.int .i64 0),(.int .i64 0),(.int .i64 0),(.int .i64 0)] [(0,1,(.c (.int .i64 2))),(1,1,(.t 96))]),os 3 (.storeB 0 4 (.t 2) (.t 97))]) .ret)))))))
def HE:Fn:=⟨⟨1,98,1,true,[.cell 2 (some 4)],di⟩,[.one .frz (.str)],.one (.agg [(.own,.int .i64),(.own,.int .i64),(.own,.int .i64),(.own,.int .i64)])⟩
theorem dn:HE.A:=B9 ⟨Xa,Wp,WG,Wp,PK,Xf,WG,Nd,PK,Nd,Xf,PK,Nd,Nd,trivial⟩
def C6:List UInt8→Int×Int×Int×Int:=HE.V
def PD:List UInt8→Prop:=HE.O
theorem dh:HE.B:=Ce ⟨W5,Ws,WL,Ws,PJ,Xi,WL,Nf,PJ,Nf,Xi,PJ,Nf,Nf,trivial⟩ (by kernel_rfl) (fun x=>by kernel_rfl)
def de:DCode:=(.seq [2,0] (.region [oa 0 2 (.allocB 0 [(.int .i64 0),(.int .i64 0),(.int .i64 0),(.int .i64 0)]),oa 1 3 (.mv (.c (.bool false)))]) (.seq [4,2,0] (.region [om 0 5 0,oF 1 6 HE [(.t 5)],oa 2 4 (.allocB 1 [(.int .i64 0),(.int .i64 0),(.int .i64 0),(.int .i64 0)]),os 3 (.storeB 1 4 (.t 4) (.t 6))]) (.seq [4,2] (.seq [15,4,2] (.region [oa 0 7 (.loadB 1 (some 4) (.t 4)),oF 1 8 Ca [(.t 7)],oa 2 9 (.un .not (.t 8)),om 3 10 9,og 4 11 (.loadB 1 (some 4) (.t 4)) 10 false,⟨5,some 12,.call false EY.S EY.P EY.D [(.t 11)],(some (10,false)),[]⟩,og 6 13 (.mv (.t 0)) 10 false,og 7 14 (.bin .neq (.t 12) (.t 13)) 10 false,oa 8 15 (.pick (.t 10) (.c (.bool true)) (.t 14))]) (.cond (.t 15) (.seq [3,2] (.region [oa 0 16 (.build [(.int .i64 0),(.int .i64 0),(.int .i64 0),(.int .i64 0)] []),os 1 (.storeB 0 4 (.t 2) (.t 16)),oa 2 3 (.mv (.c (.bool false)))]) .ret) .skip)) (.seq [3,2] (.region [ob 0 17 (.loadB 1 (some 4) (.t 4)),os 1 (.storeB 0 4 (.t 2) (.t 17)),oa 2 3 (.mv (.c (.bool true)))]) .ret))))
def HG:Fn:=⟨⟨1,18,2,true,[.cell 2 (some 4),.tmp 3],de⟩,[.one .frz (.str)],.tup [.agg [(.own,.int .i64),(.own,.int .i64),(.own,.int .i64),(.own,.int .i64)],.one .own (.bool)]⟩
theorem dx:HG.A:=B9 ⟨dn,IH,Wr,trivial⟩
def BZ:List UInt8→(Int×Int×Int×Int)×Bool:=HG.V
def K6:List UInt8→Prop:=HG.O
theorem dg:HG.B:=Ce ⟨dh,IJ,Wq,trivial⟩ (by kernel_rfl) (fun x=>by kernel_rfl)
def dU:DCode:=(.seq [1] (.region [oa 0 1 (.boxB 0 4 (.t 0)),oa 1 2 (.mv (.c (.bool false)))]) (.seq [2] (.region [oa 0 3 (.loadB 0 (some 4) (.t 1)),oF 1 4 Ca [(.t 3)],om 2 5 4,og 3 6 (.fieldA 0 (.t 1)) 5 true,og 4 7 (.loadB 0 none (.t 6)) 5 true,og 5 8 (.bin .eql (.t 7) (.c (.int .i64 6))) 5 true,og 6 9 (.mv (.t 8)) 5 true,og 7 10 (.fieldA 0 (.t 1)) 9 false,og 8 11 (.loadB 0 none (.t 10)) 9 false,og 9 12 (.bin .eql (.t 11) (.c (.int .i64 7))) 9 false,og 10 13 (.pick (.t 9) (.c (.bool true)) (.t 12)) 5 true,oa 11 14 (.pick (.t 5) (.t 13) (.c (.bool false))),om 12 2 14]) .ret))
def Ci:Fn:=⟨⟨1,15,1,true,[.tmp 2],dU⟩,[.agg [(.frz,.int .i64),(.frz,.int .i64),(.frz,.int .i64),(.frz,.int .i64)]],.one (.one .own (.bool))⟩
theorem La:Ci.A:=B9 ⟨IH,trivial⟩
def BD:Int×Int×Int×Int→Bool:=Ci.V
def HJ:Int×Int×Int×Int→Prop:=Ci.O
theorem K9:Ci.B:=Ce ⟨IJ,trivial⟩ (by kernel_rfl) (fun x=>by kernel_rfl)
def gC:DCode:=(.seq [2,1] (.region [oa 0 1 (.boxB 0 4 (.t 0)),oa 1 2 (.allocB 1 [(.int .i64 0),(.int .i64 0),(.int .i64 0),(.int .i64 0)])]) (.seq [2,1] (.seq [5,2,1] (.region [oa 0 3 (.loadB 0 (some 4) (.t 1)),oF 1 4 Ci [(.t 3)],oa 2 5 (.un .not (.t 4))]) (.cond (.t 5) (.seq [2] (.region [ob 0 6 (.loadB 0 (some 4) (.t 1)),os 1 (.storeB 1 4 (.t 2) (.t 6))]) .ret) .skip)) (.seq [2] (.region [oa 0 7 (.fieldA 1 (.t 1)),ob 1 8 (.loadB 0 none (.t 7)),oa 2 9 (.build [(.int .i64 0),(.int .i64 0),(.int .i64 0),(.int .i64 0)] [(0,1,(.c (.int .i64 2))),(1,1,(.t 8))]),os 3 (.storeB 1 4 (.t 2) (.t 9))]) .ret)))
def HS:Fn:=⟨⟨1,10,2,true,[.cell 2 (some 4)],gC⟩,[.agg [(.frz,.int .i64),(.frz,.int .i64),(.frz,.int .i64),(.frz,.int .i64)]],.one (.agg [(.own,.int .i64),(.own,.int .i64),(.own,.int .i64),(.own,.int .i64)])⟩
theorem gY:HS.A:=B9 ⟨La,trivial⟩
def Bw:Int×Int×Int×Int→Int×Int×Int×Int:=HS.V
def Qf:Int×Int×Int×Int→Prop:=HS.O
theorem gJ:HS.B:=Ce ⟨K9,trivial⟩ (by kernel_rfl) (fun x=>by kernel_rfl)
def fH:DCode:=(.seq [2,1] (.region [oa 0 1 (.boxB 0 4 (.t 0)),oa 1 2 (.allocB 1 [(.int .i64 0),(.int .i64 0),(.int .i64 0),(.int .i64 0)])]) (.seq [2,1] (.block 0 (.seq [3,2,1] (.region [oa 0 4 (.loadB 0 (some 4) (.t 1)),oF 1 5 Ci [(.t 4)],oa 2 6 (.un .not (.t 5)),om 3 3 6]) (.cond (.t 3) (.seq [2] (.region [ob 0 7 (.loadB 0 (some 4) (.t 1)),os 1 (.storeB 1 4 (.t 2) (.t 7))]) .ret) (.seq [8,2,1] (.region [oa 0 9 (.fieldA 0 (.t 1)),oa 1 10 (.loadB 0 none (.t 9)),oa 2 11 (.bin .eql (.t 10) (.c (.int .i64 6))),om 3 8 11]) (.cond (.t 8) (.seq [2] (.region [oa 0 12 (.fieldA 2 (.t 1)),ob 1 13 (.loadB 0 none (.t 12)),oa 2 14 (.build [(.int .i64 0),(.int .i64 0),(.int .i64 0),(.int .i64 0)] [(0,1,(.c (.int .i64 2))),(2,1,(.t 13))]),os 3 (.storeB 1 4 (.t 2) (.t 14))]) .ret) .skip))))) (.seq [2] (.region [oa 0 15 (.fieldA 3 (.t 1)),ob 1 16 (.loadB 0 none (.t 15)),oa 2 17 (.build [(.int .i64 0),(.int .i64 0),(.int .i64 0),(.int .i64 0)] [(0,1,(.c (.int .i64 3))),(3,1,(.t 16))]),os 3 (.storeB 1 4 (.t 2) (.t 17))]) .ret)))
def HR:Fn:=⟨⟨1,18,2,true,[.cell 2 (some 4)],fH⟩,[.agg [(.frz,.int .i64),(.frz,.int .i64),(.frz,.int .i64),(.frz,.int .i64)]],.one (.agg [(.own,.int .i64),(.own,.int .i64),(.own,.int .i64),(.own,.int .i64)])⟩
theorem fP:HR.A:=B9 ⟨La,trivial⟩
def BM:Int×Int×Int×Int→Int×Int×Int×Int:=HR.V
def PU:Int×Int×Int×Int→Prop:=HR.O
theorem fO:HR.B:=Ce ⟨K9,trivial⟩ (by kernel_rfl) (fun x=>by kernel_rfl)
def ez:DCode:=(.seq [0] (.region [oa 0 2 (.mv (.c (.bool false)))]) (.seq [0] (.seq [11,0] (.region [on 0 10 0,oF 1 11 H4 [(.t 10)]]) (.cond (.t 11) (.seq [2] (.region [oa 0 2 (.mv (.c (.bool true)))]) .ret) .skip)) (.seq [3] (.region [on 0 12 0,oF 1 13 HH [(.t 12)],oa 2 3 (.allocB 0 [(.int .i64 0),(.int .i64 0),(.int .i64 0),(.int .i64 0)]),os 3 (.storeB 0 4 (.t 3) (.t 13))]) (.seq [5,4,3] (.region [oa 0 15 (.loadB 0 (some 4) (.t 3)),oF 1 16 EY [(.t 15)],oF 2 17 HG [(.t 16)],om 3 14 17,oa 4 18 (.extract (.t 14) 0),oa 5 19 (.extract (.t 14) 1),oa 6 4 (.allocB 1 [(.int .i64 0),(.int .i64 0),(.int .i64 0),(.int .i64 0)]),os 7 (.storeB 1 4 (.t 4) (.t 18)),om 8 5 19]) (.seq [7,6,5,4,3] (.region [oa 0 21 (.loadB 0 (some 4) (.t 3)),oF 1 22 HK [(.t 21)],oF 2 23 HC [(.t 22)],om 3 20 23,oa 4 24 (.extract (.t 20) 0),oa 5 25 (.extract (.t 20) 1),oa 6 6 (.allocB 2 [(.int .i64 0),(.int .i64 0),(.int .i64 0),(.int .i64 0)]),os 7 (.storeB 2 4 (.t 6) (.t 24)),om 8 7 25]) (.seq [8,7,6,5,4,3] (.region [oa 0 26 (.loadB 0 (some 4) (.t 3)),oF 1 27 HS [(.t 26)],oa 2 8 (.allocB 3 [(.int .i64 0),(.int .i64 0),(.int .i64 0),(.int .i64 0)]),os 3 (.storeB 3 4 (.t 8) (.t 27))]) (.seq [9,8,7,6,5,4,3] (.region [oa 0 28 (.loadB 0 (some 4) (.t 3)),oF 1 29 HR [(.t 28)],oa 2 9 (.allocB 4 [(.int .i64 0),(.int .i64 0),(.int .i64 0),(.int .i64 0)]),os 3 (.storeB 4 4 (.t 9) (.t 29))]) (.seq [9,8,3] (.seq [68,9,8,3] (.region [oa 0 30 (.loadB 0 (some 4) (.t 3)),oF 1 31 Ca [(.t 30)],oa 2 32 (.un .not (.t 31)),om 3 33 32,og 4 34 (.mv (.t 5)) 33 false,og 5 35 (.un .not (.t 34)) 33 false,oa 6 36 (.pick (.t 33) (.c (.bool true)) (.t 35)),om 7 37 36,og 8 38 (.mv (.t 7)) 37 false,og 9 39 (.un .not (.t 38)) 37 false,oa 10 40 (.pick (.t 37) (.c (.bool true)) (.t 39)),om 11 41 40,og 12 42 (.loadB 1 (some 4) (.t 4)) 41 false,og 13 43 (.loadB 0 (some 4) (.t 3)) 41 false,og 14 44 (.eqA 4 true (.t 42) (.t 43)) 41 false,oa 15 45 (.pick (.t 41) (.c (.bool true)) (.t 44)),om 16 46 45,og 17 47 (.loadB 2 (some 4) (.t 6)) 46 false,og 18 48 (.loadB 0 (some 4) (.t 3)) 46 false,og 19 49 (.eqA 4 true (.t 47) (.t 48)) 46 false,oa 20 50 (.pick (.t 46) (.c (.bool true)) (.t 49)),om 21 51 50,og 22 52 (.loadB 3 (some 4) (.t 8)) 51 false,⟨23,some 53,.call false Ca.S Ca.P Ca.D [(.t 52)],(some (51,false)),[]⟩,og 24 54 (.un .not (.t 53)) 51 false,oa 25 55 (.pick (.t 51) (.c (.bool true)) (.t 54)),om 26 56 55,og 27 57 (.loadB 4 (some 4) (.t 9)) 56 false,⟨28,some 58,.call false Ca.S Ca.P Ca.D [(.t 57)],(some (56,false)),[]⟩,og 29 59 (.un .not (.t 58)) 56 false,oa 30 60 (.pick (.t 56) (.c (.bool true)) (.t 59)),om 31 61 60,og 32 62 (.loadB 3 (some 4) (.t 8)) 61 false,⟨33,some 63,.call false Ci.S Ci.P Ci.D [(.t 62)],(some (61,false)),[]⟩,oa 34 64 (.pick (.t 61) (.c (.bool true)) (.t 63)),om 35 65 64,og 36 66 (.loadB 4 (some 4) (.t 9)) 65 false,⟨37,some 67,.call false Ci.S Ci.P Ci.D [(.t 66)],(some (65,false)),[]⟩,oa 38 68 (.pick (.t 65) (.c (.bool true)) (.t 67))]) (.cond (.t 68) (.seq [2] (.region [oa 0 2 (.mv (.c (.bool false)))]) .ret) .skip)) (.seq [2] (.region [oa 0 69 (.loadB 0 (some 4) (.t 3)),oa 2 71 (.loadB 3 (some 4) (.t 8)),oa 3 72 (.loadB 0 (some 4) (.t 3)),xA 4 73 (.eqA 4 true (.t 71) (.t 72)) [2,3],xF 1 70 Ci [(.t 69)] (rg 1),xA 5 74 (.eqB false (.t 70) (.t 73)) (rg 5),xA 6 75 (.mv (.t 74)) (rg 6),⟨7,some 76,.a false (.loadB 0 (some 4) (.t 3)) none,(some (75,true)),[0,1,2,3,4,5,6]⟩,⟨9,some 78,.a false (.loadB 4 (some 4) (.t 9)) none,(some (75,true)),[0,1,2,3,4,5,6]⟩,⟨10,some 79,.a false (.loadB 0 (some 4) (.t 3)) none,(some (75,true)),[0,1,2,3,4,5,6]⟩,⟨11,some 80,.a false (.eqA 4 true (.t 78) (.t 79)) none,(some (75,true)),[0,1,2,3,4,5,6,9,10]⟩,⟨8,some 77,.call false Ci.S Ci.P Ci.D [(.t 76)],(some (75,true)),[0,1,2,3,4,5,6,7]⟩,⟨12,some 81,.a false (.eqB false (.t 77) (.t 80)) none,(some (75,true)),[0,1,2,3,4,5,6,7,8,9,10,11]⟩,xA 13 82 (.pick (.t 75) (.t 81) (.c (.bool false))) (rg 13),xA 14 83 (.mv (.t 82)) (rg 14),⟨15,some 84,.a false (.fieldA 1 (.t 3)) none,(some (83,true)),[0,1,2,3,4,5,6,7,8,9,10,11,12,13,14]⟩,⟨16,some 85,.a false (.loadB 0 none (.t 84)) none,(some (83,true)),[0,1,2,3,4,5,6,7,8,9,10,11,12,13,14,15]⟩,⟨19,some 88,.a false (.fieldA 1 (.t 3)) none,(some (83,true)),[0,1,2,3,4,5,6,7,8,9,10,11,12,13,14]⟩,⟨20,some 89,.a false (.loadB 0 none (.t 88)) none,(some (83,true)),[0,1,2,3,4,5,6,7,8,9,10,11,12,13,14,19]⟩,⟨17,some 86,.call false C9.S C9.P C9.D [(.t 85)],(some (83,true)),[0,1,2,3,4,5,6,7,8,9,10,11,12,13,14,15,16]⟩,⟨18,some 87,.call false Da.S Da.P Da.D [(.t 86)],(some (83,true)),[0,1,2,3,4,5,6,7,8,9,10,11,12,13,14,15,16,17]⟩,⟨21,some 90,.a false (.bin .eql (.t 87) (.t 89)) none,(some (83,true)),[0,1,2,3,4,5,6,7,8,9,10,11,12,13,14,15,16,17,18,19,20]⟩,xA 22 91 (.pick (.t 83) (.t 90) (.c (.bool false))) (rg 22),xA 23 92 (.mv (.t 91)) (rg 23),⟨24,some 93,.a false (.fieldA 2 (.t 3)) none,(some (92,true)),[0,1,2,3,4,5,6,7,8,9,10,11,12,13,14,15,16,17,18,19,20,21,22,23]⟩,⟨25,some 94,.a false (.loadB 0 none (.t 93)) none,(some (92,true)),[0,1,2,3,4,5,6,7,8,9,10,11,12,13,14,15,16,17,18,19,20,21,22,23,24]⟩,⟨28,some 97,.a false (.fieldA 2 (.t 3)) none,(some (92,true)),[0,1,2,3,4,5,6,7,8,9,10,11,12,13,14,15,16,17,18,19,20,21,22,23]⟩,⟨29,some 98,.a false (.loadB 0 none (.t 97)) none,(some (92,true)),[0,1,2,3,4,5,6,7,8,9,10,11,12,13,14,15,16,17,18,19,20,21,22,23,28]⟩,⟨26,some 95,.call false C7.S C7.P C7.D [(.t 94)],(some (92,true)),[0,1,2,3,4,5,6,7,8,9,10,11,12,13,14,15,16,17,18,19,20,21,22,23,24,25]⟩,⟨27,some 96,.call false Dy.S Dy.P Dy.D [(.t 95)],(some (92,true)),[0,1,2,3,4,5,6,7,8,9,10,11,12,13,14,15,16,17,18,19,20,21,22,23,24,25,26]⟩,⟨30,some 99,.a false (.bin .eql (.t 96) (.t 98)) none,(some (92,true)),[0,1,2,3,4,5,6,7,8,9,10,11,12,13,14,15,16,17,18,19,20,21,22,23,24,25,26,27,28,29]⟩,xA 31 100 (.pick (.t 92) (.t 99) (.c (.bool false))) (rg 31),xA 32 2 (.mv (.t 100)) (rg 32)]) .ret)))))))))
def FE:Fn:=⟨⟨1,101,5,true,[.tmp 2],ez⟩,[.one .frz (.sl (.one (.int .u8)))],.one (.one .own (.bool))⟩
theorem ed:FE.A:=B9 ⟨iK,dz,Wr,dx,dM,cQ,gY,fP,IH,IH,IH,La,La,La,La,M7,Nd,M4,PK,trivial⟩
def PM:List (Int)→Bool:=FE.V
def PL:List (Int)→Prop:=FE.O
end
section
set_option maxRecDepth 100000
theorem fG (x):J0 x=((HY x.1).1,(HY x.1).2.1,(iAdd .i64 (HY x.1).2.2 (iMul .i64 7919 x.2))):=by unfold J0;exact(congrFun (shut _).2 x).trans (by kernel_rfl)
theorem fN (x):Lp x=(Ls x.1):=by unfold Lp;exact(congrFun (shut _).2 x).trans (by kernel_rfl)
def FF(x:(List (Int)×Int×Int)×Int):=B1 ((x.1.1,(B1 (x.1,56)).2),15)
def BL(x:(List (Int)×Int×Int)×Int):=Lw ((x.1.1,(FF x).2),2)
def C8(x:(List (Int)×Int×Int)×Int):=B1 ((x.1.1,(bSel (BL x).1 (BL x).2.1 (BL x).2.1),(bSel (BL x).1 (BL x).2.2 (BL x).2.2)),(iMax 1 (iSub .i64 x.2 1)))
def Au(x:(List (Int)×Int×Int)×Int):=B1 ((x.1.1,(C8 x).2),16)
def Lg(x:(List (Int)×Int×Int)×Int):=B1 ((x.1.1,(Au x).2),4)
def HM(x:(List (Int)×Int×Int)×Int):=B1 ((x.1.1,(Au x).2),3)
def Lf(x:(List (Int)×Int×Int)×Int):=B1 ((x.1.1,(Au x).2),(iMax 1 x.2))
theorem fu (x):J2 x=(bSel (bAnd (bNot (iEq (Au x).1 0)) (bAnd (bNot (iEq (Au x).1 1)) (bAnd (bNot (bOr (iEq (Au x).1 2) (iEq (Au x).1 3))) (bAnd (bNot (iEq (Au x).1 4)) (bAnd (bNot (iEq (Au x).1 5)) (bAnd (bNot (iEq (Au x).1 6)) (bAnd (bNot (iEq (Au x).1 7)) (bOr (bNot (bOr (iEq (Au x).1 8) (bOr (iEq (Au x).1 9) (iEq (Au x).1 10)))) (bNot (iGt x.2 1)))))))))) ((2,(iAdd .i64 1 (B1 (x.1,56)).1),0,0),(bSel (bOr (iEq (Au x).1 8) (bOr (iEq (Au x).1 9) (iEq (Au x).1 10))) (Au x).2.1 (Au x).2.1),(bSel (bOr (iEq (Au x).1 8) (bOr (iEq (Au x).1 9) (iEq (Au x).1 10))) (Au x).2.2 (Au x).2.2)) (bSel (iEq (Au x).1 0) ((2,(iAdd .i64 1 (B1 (x.1,56)).1),(bSel (BL x).1 2 (iAdd .i64 1 (FF x).1)),0),(Au x).2) (bSel (iEq (Au x).1 1) ((2,0,(bSel (BL x).1 2 (iAdd .i64 1 (FF x).1)),0),(Au x).2) (bSel (bOr (iEq (Au x).1 2) (iEq (Au x).1 3)) ((6,(iAdd .i64 1 (B1 (x.1,56)).1),(bSel (BL x).1 2 (iAdd .i64 1 (FF x).1)),0),(Au x).2) (bSel (iEq (Au x).1 4) ((8,0,(bSel (BL x).1 2 (iAdd .i64 1 (FF x).1)),0),(Au x).2) (bSel (iEq (Au x).1 5) ((9,0,0,(Lg x).1),(Lg x).2) (bSel (iEq (Au x).1 6) ((10,0,0,0),(Au x).2) (bSel (iEq (Au x).1 7) ((5,0,0,(Lf x).1),(Lf x).2) ((lGet [(3,0,0,(iAdd .i64 1 (C8 x).1)),(4,0,0,(iAdd .i64 1 (C8 x).1)),(7,(iAdd .i64 1 (B1 (x.1,56)).1),0,(iAdd .i64 1 (C8 x).1))] (iNat (HM x).1) (0,0,0,0)),(HM x).2))))))))):=by unfold J2;exact(congrFun (shut _).2 x).trans (by kernel_rfl)
theorem fY (x):Lq x=((E1 (x.1,56))∧((E1 ((x.1.1,(B1 (x.1,56)).2),15))∧((Lr ((x.1.1,(FF x).2),2))∧((E1 ((x.1.1,(bSel (BL x).1 (BL x).2.1 (BL x).2.1),(bSel (BL x).1 (BL x).2.2 (BL x).2.2)),(iMax 1 (iSub .i64 x.2 1))))∧((E1 ((x.1.1,(C8 x).2),16))∧(((iEq (Au x).1 0)=true→True)∧((iEq (Au x).1 0)=false→(((iEq (Au x).1 1)=true→True)∧((iEq (Au x).1 1)=false→(((bOr (iEq (Au x).1 2) (iEq (Au x).1 3))=true→True)∧((bOr (iEq (Au x).1 2) (iEq (Au x).1 3))=false→(((iEq (Au x).1 4)=true→True)∧((iEq (Au x).1 4)=false→(((iEq (Au x).1 5)=true→(E1 ((x.1.1,(Au x).2),4)))∧((iEq (Au x).1 5)=false→(((iEq (Au x).1 6)=true→True)∧((iEq (Au x).1 6)=false→(((iEq (Au x).1 7)=true→(E1 ((x.1.1,(Au x).2),(iMax 1 x.2))))∧((iEq (Au x).1 7)=false→(((bOr (iEq (Au x).1 8) (bOr (iEq (Au x).1 9) (iEq (Au x).1 10)))=true→(((iGt x.2 1)=true→((E1 ((x.1.1,(Au x).2),3))∧((((0:Int)≤(HM x).1)∧((HM x).1<(((List.length [(3,0,0,(iAdd .i64 1 (C8 x).1)),(4,0,0,(iAdd .i64 1 (C8 x).1)),(7,(iAdd .i64 1 (B1 (x.1,56)).1),0,(iAdd .i64 1 (C8 x).1))]):Int))))∧((iNat (HM x).1)<(List.length [(3,0,0,(iAdd .i64 1 (C8 x).1)),(4,0,0,(iAdd .i64 1 (C8 x).1)),(7,(iAdd .i64 1 (B1 (x.1,56)).1),0,(iAdd .i64 1 (C8 x).1))])))))∧((iGt x.2 1)=false→True)))∧((bOr (iEq (Au x).1 8) (bOr (iEq (Au x).1 9) (iEq (Au x).1 10)))=false→True))))))))))))))))))))):=by unfold Lq;exact(congrFun (shut _).2 x).trans (by kernel_rfl)
theorem dO (x):Ah x=(J2 ((J0 (x,3)),4)).1:=(HH.v x).trans (by kernel_rfl)
theorem dF (x):PF x=((Lp (x,3))∧(Lq ((J0 (x,3)),4))):=(HH.o x).trans (by kernel_rfl)
theorem Wi (x):JN x=(bAnd (iGe (lLen x.1) (lLen x.2)) (sEq (lSub x.1 0 (iNat (lLen x.2))) x.2)):=(Hy.v x).trans (by kernel_rfl)
theorem Wh (x):MR x=(((iGe (lLen x.1) (lLen x.2))=true→(((0:Int)≤(lLen x.2))∧((0≤(iNat (lLen x.2)))∧((iNat (lLen x.2))≤(List.length x.1)))))∧((iGe (lLen x.1) (lLen x.2))=false→True)):=(Hy.o x).trans (by kernel_rfl)
theorem Wg (x):SF x=(bSel (bNot (JN x)) (x.1,false) ((lSub x.1 (iNat (lLen x.2)) (lN x.1)),true)):=(Hx.v x).trans (by kernel_rfl)
theorem Wj (x):SE x=((MR x)∧(((bNot (JN x))=true→True)∧((bNot (JN x))=false→(((0:Int)≤(lLen x.2))∧(((iNat (lLen x.2))≤(lN x.1))∧((lN x.1)≤(List.length x.1))))))):=(Hx.o x).trans (by kernel_rfl)
theorem Wt (x):Ef x=(SF x):=(F6.v x).trans (by kernel_rfl)
theorem Wu (x):JP x=(SE x):=(F6.o x).trans (by kernel_rfl)
theorem eX (x):FG x=(bSel (bOr (iLt (lLen x) 1) (iGt (lLen x) 10)) (0,false) (bSel (bOr (bNot (Dm x).2) (bOr (iLt (Dm x).1 (-999999999)) (bOr (iGt (Dm x).1 999999999) (sNe (E0 (Dm x).1) x)))) (0,false) ((Dm x).1,true))):=(F8.v x).trans (by kernel_rfl)
theorem eR (x):JS x=(((bOr (iLt (lLen x) 1) (iGt (lLen x) 10))=true→True)∧((bOr (iLt (lLen x) 1) (iGt (lLen x) 10))=false→((Lj x)∧(((bNot (Dm x).2)=true→True)∧((bNot (Dm x).2)=false→(((iLt (Dm x).1 (-999999999))=true→True)∧((iLt (Dm x).1 (-999999999))=false→(((iGt (Dm x).1 999999999)=true→True)∧((iGt (Dm x).1 999999999)=false→(HI (Dm x).1)))))))))):=(F8.o x).trans (by kernel_rfl)
def EX(x:List UInt8)(x0:Int):Bool:=(bAnd (iLt x0 (lLen [(3:Int),4,5,9])) (bNot (Ef (x,(Gc (lGet [3,4,5,9] (iNat x0) 0)))).2))
def FC(x0:Int):Int:=(iAdd .i64 x0 1)
def Px(x:List UInt8)(x0:Int):Prop:=(((iLt x0 (lLen [(3:Int),4,5,9]))=true→((((0:Int)≤x0)∧(x0<(((List.length [(3:Int),4,5,9]):Int))))∧(((iNat x0)<(List.length [(3:Int),4,5,9]))∧((Nn (lGet [3,4,5,9] (iNat x0) 0))∧((JP (x,(Gc (lGet [3,4,5,9] (iNat x0) 0))))∧(((Ef (x,(Gc (lGet [3,4,5,9] (iNat x0) 0)))).2=true→(JS (Ef (x,(Gc (lGet [3,4,5,9] (iNat x0) 0)))).1))∧((Ef (x,(Gc (lGet [3,4,5,9] (iNat x0) 0)))).2=false→True)))))))∧((iLt x0 (lLen [(3:Int),4,5,9]))=false→True))
theorem K7 (x):C6 x=(bSel (sEq x [(110:UInt8),111,110,101]) (0,0,0,0) (bSel (sEq x [(112:UInt8),97,115,115]) (1,0,0,0) (bSel (sEq x [(99:UInt8),97,112,115]) (10,0,0,0) (bSel (iLt (Bb (EX x) FC 0) (lLen [(3:Int),4,5,9])) ((lGet [3,4,5,9] (iNat (Bb (EX x) FC 0)) 0),0,0,(FG (Ef (x,(Gc (lGet [3,4,5,9] (iNat (Bb (EX x) FC 0)) 0)))).1).1) (bSel (Ef (x,[(111:UInt8),110,99,101,58])).2 (8,0,(GQ (Ef (x,[(111:UInt8),110,99,101,58])).1),0) (bSel (Bv (x,[(47:UInt8)])).2.2 (bSel (FG (Bv (x,[(47:UInt8)])).1).2 (7,(Ej (Bv (x,[(47:UInt8)])).2.1),0,(FG (Bv (x,[(47:UInt8)])).1).1) (6,(Ej (Bv (x,[(47:UInt8)])).2.1),(GQ (Bv (x,[(47:UInt8)])).1),0)) (bSel (Bv (x,[(45:UInt8)])).2.2 (2,(Ej (Bv (x,[(45:UInt8)])).2.1),(GQ (Bv (x,[(45:UInt8)])).1),0) (2,(Ej x),0,0)))))))):=(HE.v x).trans (by kernel_rfl)
theorem dc (x):PD x=(((sEq x [(110:UInt8),111,110,101])=true→True)∧((sEq x [(110:UInt8),111,110,101])=false→(((sEq x [(112:UInt8),97,115,115])=true→True)∧((sEq x [(112:UInt8),97,115,115])=false→(((sEq x [(99:UInt8),97,112,115])=true→True)∧((sEq x [(99:UInt8),97,112,115])=false→((LoopOk (EX x) FC (Px x) 0)∧(((iLt (Bb (EX x) FC 0) (lLen [(3:Int),4,5,9]))=true→True)∧((iLt (Bb (EX x) FC 0) (lLen [(3:Int),4,5,9]))=false→((JP (x,[(111:UInt8),110,99,101,58]))∧(((Ef (x,[(111:UInt8),110,99,101,58])).2=true→(IF (Ef (x,[(111:UInt8),110,99,101,58])).1))∧((Ef (x,[(111:UInt8),110,99,101,58])).2=false→((JY (x,[(47:UInt8)]))∧(((Bv (x,[(47:UInt8)])).2.2=true→((JS (Bv (x,[(47:UInt8)])).1)∧(((FG (Bv (x,[(47:UInt8)])).1).2=true→(HO (Bv (x,[(47:UInt8)])).2.1))∧((FG (Bv (x,[(47:UInt8)])).1).2=false→((IF (Bv (x,[(47:UInt8)])).1)∧(HO (Bv (x,[(47:UInt8)])).2.1))))))∧((Bv (x,[(47:UInt8)])).2.2=false→((JY (x,[(45:UInt8)]))∧(((Bv (x,[(45:UInt8)])).2.2=true→((IF (Bv (x,[(45:UInt8)])).1)∧(HO (Bv (x,[(45:UInt8)])).2.1)))∧((Bv (x,[(45:UInt8)])).2.2=false→(HO x))))))))))))))))))):=(HE.o x).trans (by kernel_rfl)
theorem dk (x):BZ x=(bSel (bOr (bNot (BE (C6 x))) (sNe (BJ (C6 x)) x)) ((0,0,0,0),false) ((C6 x),true)):=(HG.v x).trans (by kernel_rfl)
theorem c8 (x):K6 x=((PD x)∧((EZ (C6 x))∧(((bNot (BE (C6 x)))=true→True)∧((bNot (BE (C6 x)))=false→(MW (C6 x)))))):=(HG.o x).trans (by kernel_rfl)
theorem WD (x):BD x=(bAnd (BE x) (bOr (iEq x.1 6) (iEq x.1 7))):=(Ci.v x).trans (by kernel_rfl)
theorem eE (x):HJ x=(EZ x):=(Ci.o x).trans (by kernel_rfl)
theorem gz (x):Bw x=(bSel (bNot (BD x)) x (2,x.2.1,0,0)):=(HS.v x).trans (by kernel_rfl)
theorem gW (x):Qf x=(HJ x):=(HS.o x).trans (by kernel_rfl)
theorem gb (x):BM x=(bSel (bNot (BD x)) x (bSel (iEq x.1 6) (2,0,x.2.2.1,0) (3,0,0,x.2.2.2))):=(HR.v x).trans (by kernel_rfl)
theorem fR (x):PU x=(HJ x):=(HR.o x).trans (by kernel_rfl)
theorem eF (x):PM x=(bOr (I5 x) (bAnd (bNot (bOr (bNot (BE (Ah x))) (bOr (bNot (BZ (BJ (Ah x))).2) (bOr (bNot (B0 (BU (Ah x))).2) (bOr (bNot (bAnd (iEq (BZ (BJ (Ah x))).1.1 (Ah x).1) (bAnd (iEq (BZ (BJ (Ah x))).1.2.1 (Ah x).2.1) (bAnd (iEq (BZ (BJ (Ah x))).1.2.2.1 (Ah x).2.2.1) (iEq (BZ (BJ (Ah x))).1.2.2.2 (Ah x).2.2.2))))) (bOr (bNot (bAnd (iEq (B0 (BU (Ah x))).1.1 (Ah x).1) (bAnd (iEq (B0 (BU (Ah x))).1.2.1 (Ah x).2.1) (bAnd (iEq (B0 (BU (Ah x))).1.2.2.1 (Ah x).2.2.1) (iEq (B0 (BU (Ah x))).1.2.2.2 (Ah x).2.2.2))))) (bOr (bNot (BE (Bw (Ah x)))) (bOr (bNot (BE (BM (Ah x)))) (bOr (BD (Bw (Ah x))) (BD (BM (Ah x)))))))))))) (bAnd (bIff (BD (Ah x)) (bNot (bAnd (iEq (Bw (Ah x)).1 (Ah x).1) (bAnd (iEq (Bw (Ah x)).2.1 (Ah x).2.1) (bAnd (iEq (Bw (Ah x)).2.2.1 (Ah x).2.2.1) (iEq (Bw (Ah x)).2.2.2 (Ah x).2.2.2)))))) (bAnd (bIff (BD (Ah x)) (bNot (bAnd (iEq (BM (Ah x)).1 (Ah x).1) (bAnd (iEq (BM (Ah x)).2.1 (Ah x).2.1) (bAnd (iEq (BM (Ah x)).2.2.1 (Ah x).2.2.1) (iEq (BM (Ah x)).2.2.2 (Ah x).2.2.2)))))) (bAnd (iEq (Ej (DP (Ah x).2.1)) (Ah x).2.1) (iEq (GQ (Dw (Ah x).2.2.1)) (Ah x).2.2.1)))))):=(FE.v x).trans (by kernel_rfl)
theorem ew (x):PL x=((Qq x)∧(((I5 x)=true→True)∧((I5 x)=false→((PF x)∧((MW (Ah x))∧((K6 (BJ (Ah x)))∧((PI (Ah x))∧((PA (BU (Ah x)))∧((Qf (Ah x))∧((PU (Ah x))∧(((EZ (Ah x))∧(((bNot (BE (Ah x)))=true→True)∧((bNot (BE (Ah x)))=false→(((bNot (BZ (BJ (Ah x))).2)=true→True)∧((bNot (BZ (BJ (Ah x))).2)=false→(((bNot (B0 (BU (Ah x))).2)=true→True)∧((bNot (B0 (BU (Ah x))).2)=false→(((bNot (bAnd (iEq (BZ (BJ (Ah x))).1.1 (Ah x).1) (bAnd (iEq (BZ (BJ (Ah x))).1.2.1 (Ah x).2.1) (bAnd (iEq (BZ (BJ (Ah x))).1.2.2.1 (Ah x).2.2.1) (iEq (BZ (BJ (Ah x))).1.2.2.2 (Ah x).2.2.2)))))=true→True)∧((bNot (bAnd (iEq (BZ (BJ (Ah x))).1.1 (Ah x).1) (bAnd (iEq (BZ (BJ (Ah x))).1.2.1 (Ah x).2.1) (bAnd (iEq (BZ (BJ (Ah x))).1.2.2.1 (Ah x).2.2.1) (iEq (BZ (BJ (Ah x))).1.2.2.2 (Ah x).2.2.2)))))=false→(((bNot (bAnd (iEq (B0 (BU (Ah x))).1.1 (Ah x).1) (bAnd (iEq (B0 (BU (Ah x))).1.2.1 (Ah x).2.1) (bAnd (iEq (B0 (BU (Ah x))).1.2.2.1 (Ah x).2.2.1) (iEq (B0 (BU (Ah x))).1.2.2.2 (Ah x).2.2.2)))))=true→True)∧((bNot (bAnd (iEq (B0 (BU (Ah x))).1.1 (Ah x).1) (bAnd (iEq (B0 (BU (Ah x))).1.2.1 (Ah x).2.1) (bAnd (iEq (B0 (BU (Ah x))).1.2.2.1 (Ah x).2.2.1) (iEq (B0 (BU (Ah x))).1.2.2.2 (Ah x).2.2.2)))))=false→((EZ (Bw (Ah x)))∧(((bNot (BE (Bw (Ah x))))=true→True)∧((bNot (BE (Bw (Ah x))))=false→((EZ (BM (Ah x)))∧(((bNot (BE (BM (Ah x))))=true→True)∧((bNot (BE (BM (Ah x))))=false→((HJ (Bw (Ah x)))∧(((BD (Bw (Ah x)))=true→True)∧((BD (Bw (Ah x)))=false→(HJ (BM (Ah x)))))))))))))))))))))))∧(((bOr (bNot (BE (Ah x))) (bOr (bNot (BZ (BJ (Ah x))).2) (bOr (bNot (B0 (BU (Ah x))).2) (bOr (bNot (bAnd (iEq (BZ (BJ (Ah x))).1.1 (Ah x).1) (bAnd (iEq (BZ (BJ (Ah x))).1.2.1 (Ah x).2.1) (bAnd (iEq (BZ (BJ (Ah x))).1.2.2.1 (Ah x).2.2.1) (iEq (BZ (BJ (Ah x))).1.2.2.2 (Ah x).2.2.2))))) (bOr (bNot (bAnd (iEq (B0 (BU (Ah x))).1.1 (Ah x).1) (bAnd (iEq (B0 (BU (Ah x))).1.2.1 (Ah x).2.1) (bAnd (iEq (B0 (BU (Ah x))).1.2.2.1 (Ah x).2.2.1) (iEq (B0 (BU (Ah x))).1.2.2.2 (Ah x).2.2.2))))) (bOr (bNot (BE (Bw (Ah x)))) (bOr (bNot (BE (BM (Ah x)))) (bOr (BD (Bw (Ah x))) (BD (BM (Ah x)))))))))))=true→True)∧((bOr (bNot (BE (Ah x))) (bOr (bNot (BZ (BJ (Ah x))).2) (bOr (bNot (B0 (BU (Ah x))).2) (bOr (bNot (bAnd (iEq (BZ (BJ (Ah x))).1.1 (Ah x).1) (bAnd (iEq (BZ (BJ (Ah x))).1.2.1 (Ah x).2.1) (bAnd (iEq (BZ (BJ (Ah x))).1.2.2.1 (Ah x).2.2.1) (iEq (BZ (BJ (Ah x))).1.2.2.2 (Ah x).2.2.2))))) (bOr (bNot (bAnd (iEq (B0 (BU (Ah x))).1.1 (Ah x).1) (bAnd (iEq (B0 (BU (Ah x))).1.2.1 (Ah x).2.1) (bAnd (iEq (B0 (BU (Ah x))).1.2.2.1 (Ah x).2.2.1) (iEq (B0 (BU (Ah x))).1.2.2.2 (Ah x).2.2.2))))) (bOr (bNot (BE (Bw (Ah x)))) (bOr (bNot (BE (BM (Ah x)))) (bOr (BD (Bw (Ah x))) (BD (BM (Ah x)))))))))))=false→((HJ (Ah x))∧(((bIff (BD (Ah x)) (bNot (bAnd (iEq (Bw (Ah x)).1 (Ah x).1) (bAnd (iEq (Bw (Ah x)).2.1 (Ah x).2.1) (bAnd (iEq (Bw (Ah x)).2.2.1 (Ah x).2.2.1) (iEq (Bw (Ah x)).2.2.2 (Ah x).2.2.2))))))=true→((HJ (Ah x))∧(((bIff (BD (Ah x)) (bNot (bAnd (iEq (BM (Ah x)).1 (Ah x).1) (bAnd (iEq (BM (Ah x)).2.1 (Ah x).2.1) (bAnd (iEq (BM (Ah x)).2.2.1 (Ah x).2.2.1) (iEq (BM (Ah x)).2.2.2 (Ah x).2.2.2))))))=true→((IL (Ah x).2.1)∧((HO (DP (Ah x).2.1))∧(((iEq (Ej (DP (Ah x).2.1)) (Ah x).2.1)=true→((HF (Ah x).2.2.1)∧(IF (Dw (Ah x).2.2.1))))∧((iEq (Ej (DP (Ah x).2.1)) (Ah x).2.1)=false→True)))))∧((bIff (BD (Ah x)) (bNot (bAnd (iEq (BM (Ah x)).1 (Ah x).1) (bAnd (iEq (BM (Ah x)).2.1 (Ah x).2.1) (bAnd (iEq (BM (Ah x)).2.2.1 (Ah x).2.2.1) (iEq (BM (Ah x)).2.2.2 (Ah x).2.2.2))))))=false→True))))∧((bIff (BD (Ah x)) (bNot (bAnd (iEq (Bw (Ah x)).1 (Ah x).1) (bAnd (iEq (Bw (Ah x)).2.1 (Ah x).2.1) (bAnd (iEq (Bw (Ah x)).2.2.1 (Ah x).2.2.1) (iEq (Bw (Ah x)).2.2.2 (Ah x).2.2.2))))))=false→True)))))))))))))))):=(FE.o x).trans (by kernel_rfl)
attribute [irreducible] Ah PF JN MR SF SE Ef JP FG JS C6 PD BZ K6 BD HJ Bw Qf BM PU PM PL
end
theorem Bz(a:Bool):bNot a=!a:=by simp only[Mt]
theorem Bc(a b:Bool):bAnd a b=(a&&b):=by simp only[Vh]
theorem CP(a b:Bool):bOr a b=(a||b):=by simp only[bJ]
theorem az(a b:Bool):bIff a b=(a == b):=by simp only[bz]
theorem Bh{α:Type}(c:Bool)(x y:α):bSel c x y=if c=true then x else y:=by cases c<;>simp[A9,AX]
theorem Ck(a b:Int):iEq a b=decide (a=b):=by
 rw[Sf];by_cases h:a=b<;>simp[h]
theorem Gs(a b:Int):iNe a b=!decide (a=b):=by
 rw[bU];by_cases h:a=b<;>simp[h]
theorem BO(a b:Int):iLt a b=decide (a<b):=by simp only[bY]
theorem Cx(a b:Int):iLe a b=decide (a≤b):=by simp only[bK]
theorem FW(a b:Int):iGt a b=decide (b<a):=by simp only[bO]
theorem D2(a b:Int):iGe a b=decide (b≤a):=by simp only[bI]
theorem BV(a b:List UInt8):sEq a b=(a == b):=by simp only[bQ]
theorem Mq(a b:List UInt8):sNe a b=!(a == b):=by simp only[bX]
section
variable {α:Type}
theorem A3(l:List α):lLen l=(l.length:Int):=by simp only[Vv]
theorem O4(l:List α):lN l=l.length:=by simp only[Ps]
theorem EJ(l:List α)(j:Nat)(d:α):lGet l j d=l.getD j d:=by simp only[Mk]
theorem n8(l:List α)(j:Nat)(x:α):lSet l j x=l.set j x:=by simp only[OA]
theorem Jl(l:List α)(a b:Nat):lSub l a b=(l.drop a).take (b-a):=by simp only[Vi]
theorem mL(l:List α)(n:Nat):lTake l n=l.take n:=by simp only[Uz]
theorem ZX(l m:List α):lApp l m=l++m:=by simp only[Ks]
theorem od(n:Int)(x:α):lRep n x=List.replicate n.toNat x:=by simp only[aN]
theorem Bx(a:Int):iNat a=a.toNat:=by simp only[Vl]
theorem Jn(a b:List UInt8):sAdd a b=a++b:=by simp only[aX]
end
def AD(n:Int):Prop:=-9223372036854775808≤n∧n≤9223372036854775807
theorem GW{n:Int}(h:AD n):IntKind.i64.wrap n=n:=by
 obtain⟨h1,h2⟩:=h;show (if decide (n % 18446744073709551616≥9223372036854775808)=true then n % 18446744073709551616-18446744073709551616 else n % 18446744073709551616)=n;simp only[BN];split<;>omega
theorem Cw{a b:Int}(h:AD (a+b)):iAdd .i64 a b=a+b:=by rw[aM];exact GW h
theorem Q8{a b:Int}(h:AD (a-b)):iSub .i64 a b=a-b:=by rw[bl];exact GW h
theorem NY{a b:Int}(h:AD (a*b)):iMul .i64 a b=a*b:=by rw[bm];exact GW h
theorem Zf{a:Int}(h:AD (0-a)):iNeg .i64 a=-a:=by rw[bp];rw[GW h];omega
theorem k8{a:Int}(h:AD a):iConv .i64 a=a:=by rw[UL];exact GW h
theorem ZS{a b:Int}(ha:0≤a)(h:AD (a / b)):iQuo .i64 a b=a / b:=by
 rw[U1];rw[Int.tdiv_eq_ediv_of_nonneg ha];exact GW h
theorem Rn{a b:Int}(ha:0≤a):iRem a b=a % b:=by rw[Vf];exact Int.tmod_eq_emod_of_nonneg ha
section
variable {X:Type} {c:X→Bool} {f:X→X} {p:X→Prop}
theorem N6(I:X→Prop)(m:X→Nat)(h:∀ x,I x→p x∧(c x=true→I (f x)∧m (f x)<m x)){x0:X}(h0:I x0) :
 LoopOk c f p x0∧I (Bb c f x0)∧c (Bb c f x0)=false:=by
 have go:∀ (n:Nat) (x:X),m x<n→I x→∃ y,LoopTo c f p x y∧I y∧c y=false:=by
  intro n
  induction n with
  |zero=>intro x hm;exact absurd hm (Nat.not_lt_zero _)
  | succ n ih=>
    intro x hm hI;obtain⟨h1,h2⟩:=h x hI
    cases hc:c x with
    |false=>exact⟨x,.stop h1 hc,hI,hc⟩
    | true=>
      obtain⟨h3,h4⟩:=h2 hc;obtain⟨y,h5,h6,h7⟩:=ih (f x) (by omega) h3;exact⟨y,.go h1 hc h5,h6,h7⟩
 obtain⟨y,h1,h2,h3⟩:=go _ x0 (Nat.lt_succ_self _) h0
 rw[h1.val]
 exact⟨⟨y,h1⟩,h2,h3⟩
theorem Ja(n:Nat)(st:Nat→X){x0:X}(h0:st 0=x0)(hs:∀ k,k<n→p (st k)∧c (st k)=true∧f (st k)=st (k+1))(he:p (st n)∧c (st n)=false):LoopOk c f p x0∧Bb c f x0=st n:=by
 have go:∀ k,k≤n→LoopTo c f p (st (n-k)) (st n):=by
  intro k
  induction k with
  |zero=>intro _;exact .stop he.1 he.2
  | succ k ih=>
    intro hk;obtain⟨h1,h2,h3⟩:=hs (n-(k+1)) (by omega);refine .go h1 h2 ?_;rw[h3,show n-(k+1)+1=n-k by omega];exact ih (by omega)
 have:=go n (AP _);rw[R4,h0] at this;exact⟨⟨_,this⟩,this.val⟩
end
theorem mM{α:Type}(x:List α)(i:Nat)(d:α)(h:i<x.length):x.getD i d∈x:=by
 rw[Ff,AG h];exact D5 h
theorem oP{X:Type}{c:X→Bool}{f:X→X}{p:X→Prop}(ix:X→Int)(n:Int)(hn:n≤9223372036854775806)(hc:∀ x,0≤ix x→ix x≤n→c x=true→ix x<n)(hf:∀ x,ix (f x)=iAdd .i64 (ix x) 1)(hp:∀ x,0≤ix x→ix x≤n→p x){x0:X}(h0:0≤ix x0)(h1:ix x0≤n):LoopOk c f p x0:=by
 refine(N6 (fun x=>0≤ix x∧ix x≤n) (fun x=>(n-ix x).toNat) (fun x hI=>⟨hp x hI.1 hI.2,fun hcc=>?_⟩) ⟨h0,h1⟩).1;have:=hc x hI.1 hI.2 hcc;obtain⟨k1,k2⟩:=hI;have e:=hf x;rw[Cw (by unfold AD;omega)] at e;refine⟨by omega,by omega⟩
theorem HZ(x:Int×Int×Int×Int):Cj x=BE x:=by
 simp only[SQ,WM,HV,W4,W7,WZ,Bz,Bc,CP,az,Bh,Ck,Gs,BO,Cx,FW,D2,BV,Mq,A3,O4,EJ,n8,Jl,mL,ZX,od,Bx,Jn];rw[Bool.eq_iff_iff]
 repeat' split
 all_goals simp only[Ak,Ch,DD,Mz,MB,D4,BN,CC,O2,Bool.not_eq_false,AH,L4] at *
 all_goals omega
theorem Wx(x:Int×Int×Int×Int):Ld x:=by
 have h:∀ y,HW y:=fun y=>by rw[Qp];trivial
 rw[eU];simp[h]
theorem M3(x:Int×Int×Int×Int):EZ x:=by
 have h1:∀ y,Lo y:=fun y=>by rw[fU];trivial
 have h2:∀ y,JZ y:=fun y=>by rw[gj];trivial
 have h3:∀ y,Nb y:=fun y=>by rw[e9];trivial
 rw[eG];simp[h1,h2,h3]
theorem n6{n:Int}(h0:0≤n)(h1:n<256):IntKind.u8.wrap n=n:=by
 simp only[IntKind.wrap,IntKind.bits,IntKind.signed,Sj,As,Az];omega
theorem Oo{n:Int}(h0:0≤n)(h1:n<256):iConv .u8 n=n:=by rw[UL];exact n6 h0 h1
theorem N1{n:Int}(h0:0≤n)(h1:n<9223372036854775808):iConv .i64 n=n:=k8 (by unfold AD;omega)
theorem ny{a b:Nat}(ha:a<9223372036854775808)(hb:b<9223372036854775808):iAnd .i64 (a:Int) (b:Int)=((a &&& b:Nat):Int):=by
 have e:(BitVec.ofInt 64 (a:Int) &&& BitVec.ofInt 64 (b:Int)).toNat=a &&& b:=by
  rw[BitVec.ofInt_natCast,BitVec.ofInt_natCast,BitVec.toNat_and,BitVec.toNat_ofNat,BitVec.toNat_ofNat,Nat.mod_eq_of_lt (by omega),Nat.mod_eq_of_lt (by omega)]
 have h:a &&& b≤a:=Nat.and_le_left;rw[VC];show IntKind.i64.wrap ((BitVec.ofInt 64 (a:Int) &&& BitVec.ofInt 64 (b:Int)).toNat:Int)=_;rw[e];exact GW (by unfold AD;omega)
theorem ox(a k:Nat)(h:k≤64):iShr .i64 (a:Int) (k:Int)=((a / 2^k:Nat):Int):=by
 rw[aT];show Int.fdiv (a:Int) (2^min (k:Int).toNat 64)=_;rw[Df,Nat.min_eq_left h,Int.fdiv_eq_ediv_of_nonneg _ (by exact_mod_cast G9 _)];norm_cast
def Bytes(x:List Int):Prop:=∀ a∈x,0≤a∧a<256
theorem Bytes.get{x:List Int}(h:Bytes x)(i:Nat):∃ n:Nat,n<256∧x.getD i 0=(n:Int):=by
 by_cases hi:i<x.length
 · obtain⟨h0,h1⟩:=h _ (mM x i 0 hi);exact⟨(x.getD i 0).toNat,by omega,by omega⟩
 · exact⟨0,by omega,by rw[Ff,A8 (by omega)];rfl⟩
theorem Bytes.of{x:List Int}(h:CT.wf (.sl (.one (.int .u8))) x):Bytes x:=by
 intro a ha;have:=h.2 a ha;simp only[RT.wf,CT.wf] at this
 have h:IntKind.u8.min≤a∧a≤IntKind.u8.max:=by simpa [Lit.wf] using this
 have e1:IntKind.u8.min=0:=by decide
 have e2:IntKind.u8.max=255:=by decide
 rw[e1,e2] at h;omega
def RepOk(x:Int×List Int):Prop:=(0≤x.1∧x.1≤15)∧∀ i,i<x.2.length→(1≤x.2.getD i 0∧x.2.getD i 0≤56)∧(0<i→x.2.getD (i-1) 0<x.2.getD i 0)
theorem RepOk.code{x:Int×List Int}(h:RepOk x)(i:Nat)(hi:i<x.2.length):(i:Int)+1≤x.2.getD i 0:=by
 induction i with
 |zero=>have:=(h.2 0 hi).1;omega
 | succ i ih=>
   have h1:=ih (by omega);have h2:=(h.2 (i+1) hi).2 (by omega);rw[Nat.add_sub_cancel] at h2;omega
theorem RepOk.len{x:Int×List Int}(h:RepOk x):x.2.length≤56:=by
 rcases A0 56 x.2.length with h1|h1
 · have h2:=h.code 56 h1;have h3:=(h.2 56 h1).1;omega
 · exact h1
section
set_option maxRecDepth 20000
theorem l7{n:Nat}(h:n≤1048577000):BA n:=by unfold BA;exact Gu h (by decide)
theorem Ro(s:List UInt8)(j:Int):sGet s j=((s.getD j.toNat 0).toNat:Int):=by simp only[bw]
theorem ai(l:List Int):rowS l=l.map fun n=>UInt8.ofNat n.toNat:=by simp only[bB]
def Fh:List UInt8→Int→List (List UInt8)
 |[],_=>[[]]
 |b::r,c=>if (b.toNat:Int)=c then []::Fh r c else match Fh r c with|[]=>[[b]]|w::ws=>(b::w)::ws
theorem Qr:∀ (s:List UInt8) (c:Int),(∀ b∈s,(b.toNat:Int)≠c)→Fh s c=[s]
 |[],_,_=>rfl
 | b::r,c,h=>by
   have e:=Qr r c (fun x hx=>h x (by simp[hx]))
   simp[Fh,h b (by simp),e]
theorem TE:∀ (a:List UInt8) (b:UInt8) (r:List UInt8) (c:Int),(∀ x∈a,(x.toNat:Int)≠c)→(b.toNat:Int)=c→Fh (a++b::r) c=a::Fh r c
 |[],b,r,c,_,h=>by simp[Fh,h]
 | x::a,b,r,c,ha,h=>by
   have e:=TE a b r c (fun y hy=>ha y (by simp[hy])) h
   simp[Fh,ha x (by simp),e]
theorem jx{s:List UInt8}{F I:Nat}(h:F≤I)(hI:I<s.length):s.drop F=(s.drop F).take (I-F)++s.getD I 0::s.drop (I+1):=by
 rw[Ff,AG hI,GC]
 conv=>lhs;rw[← List.take_append_drop (I-F) (s.drop F)]
 rw[List.drop_drop,show F+(I-F)=I by omega,OQ hI]
theorem QS(s:List UInt8)(c:Int)(h:s.length≤1048576):IE (s,c)∧Am (s,c)=Fh s c:=by
 rw[dW,dX]
 have key:=N6 (c:=M1 (s,c)) (f:=PB (s,c)) (p:=SL (s,c))
  (fun st=>∃ (out:List (List UInt8)) (F I:Nat),st=(out,(F:Int),(I:Int))∧out.length≤I∧((F≤I∧I≤s.length∧(∀ b∈(s.drop F).take (I-F),(b.toNat:Int)≠c)∧Fh s c=out++Fh (s.drop F) c)∨(I=s.length+1∧Fh s c=out)))
  (fun st=>s.length+1-st.2.2.toNat) (fun st hI=>?_) (x0:=([],0,0)) ⟨[],0,0,rfl,by simp,.inl ⟨AP _,G9 _,by simp,rfl⟩⟩
 · obtain⟨k1,⟨out,F,I,e,_,hh⟩,k2⟩:=key;refine⟨k1,?_⟩;rw[e] at k2 ⊢;simp only[M1,Cx,A3,CC] at k2;rcases hh with⟨_,h1,_⟩|⟨_,h1⟩
   · omega
   · exact h1.symm
 · obtain⟨out,F,I,rfl,hl,hh⟩:=hI;simp only[M1,PB,SL,Cx,Ck,A3,Bx,Df,Jl,ZX,Ro,CP,Bh,BN,CC,A4,Be]
   have ha:iAdd .i64 (I:Int) 1=((I+1:Nat):Int):=by
    rw[Cw (by unfold AD;rcases hh with⟨_,h1,_⟩|⟨h1,_⟩<;>omega)];rfl
   rw[ha];rcases hh with⟨hFI,hIl,hfree,hs⟩|⟨hI1,hs⟩
   · refine⟨⟨fun _=>⟨⟨fun _=>trivial,fun hne=>⟨by omega,by omega⟩⟩,fun _=>⟨⟨⟨by omega,by omega⟩,by omega,by omega⟩,l7 (by omega)⟩,fun _=>trivial⟩,fun _=>trivial⟩,fun _=>?_⟩;by_cases hlt:I<s.length
     · have hne:decide ((I:Int)=(s.length:Int))=false:=FK (by omega);rw[hne,Bool.false_or];by_cases hc:((s.getD I 0).toNat:Int)=c
       · simp only[hc,decide_true,AB];refine⟨⟨_,I+1,I+1,rfl,by simp;omega,.inl ⟨AP _,by omega,by simp,?_⟩⟩,by simp only[Df];omega⟩;rw[hs]
         conv=>lhs;rw[jx hFI hlt,TE _ _ _ _ hfree hc]
         simp
       · simp only[hc,decide_false,As,Az];refine⟨⟨_,F,I+1,rfl,by omega,.inl ⟨by omega,by omega,fun b hb=>?_,hs⟩⟩,by simp only[Df];omega⟩
         have e:(s.drop F).take (I+1-F)=(s.drop F).take (I-F)++[s.getD I 0]:=by
          rw[show I+1-F=(I-F)+1 by omega,List.take_add_one,Kr,show F+(I-F)=I by omega,AG hlt,Ff,AG hlt];rfl
         rw[e,C5,List.mem_singleton] at hb;rcases hb with hb|rfl
         · exact hfree b hb
         · exact hc
     · have e:I=s.length:=by omega
       subst e;simp only[decide_true,Bool.true_or,AB];refine⟨⟨_,s.length+1,s.length+1,rfl,by simp;omega,.inr ⟨rfl,?_⟩⟩,by simp only[Df];omega⟩;have e2:(s.drop F).take (s.length-F)=s.drop F:=Mn (by rw[List.length_drop];exact AP _);rw[e2] at hfree ⊢;rw[hs,Qr _ _ hfree]
   · subst hI1;refine⟨⟨fun hh=>by omega,fun _=>trivial⟩,fun hh=>by omega⟩
theorem iT:Fh QO 32=Cb:=by decide
theorem Yc:PT PUnit.unit∧Lm PUnit.unit=Cb:=by
 rw[fj,fo];have:=QS QO 32 (by decide);rw[iT] at this;exact this
theorem PZ:DN ([97,32,98,32,99,32,100,32,101,32,102,32,103,32,104,32,105,32,106,32,107,32,108,32,109,32,110,32,111,32,112,32,113,32,114,32,115,32,116,32,117,32,118,32,119,32,120,32,121,32,122,32,49,32,50,32,51,32,52,32,53,32,54,32,55,32,56,32,57,32,48,32,101,110,116,101,114,32,101,115,99,32,98,97,99,107,32,116,97,98,32,115,112,97,99,101,32,109,105,110,117,115,32,101,113,117,97,108,32,108,101,102,116,32,114,105,103,104,116,32,117,112,32,100,111,119,110,32,102,49,32,102,50,32,102,51,32,102,52,32,102,53,32,102,54,32,102,55,32,102,56,32,102,57],[32])=Cb:=by
 rw[WK]
 have e:Lib.split QO [32]=Cb:=by kernel_rfl
 exact e
theorem Xm:IG ([97,32,98,32,99,32,100,32,101,32,102,32,103,32,104,32,105,32,106,32,107,32,108,32,109,32,110,32,111,32,112,32,113,32,114,32,115,32,116,32,117,32,118,32,119,32,120,32,121,32,122,32,49,32,50,32,51,32,52,32,53,32,54,32,55,32,56,32,57,32,48,32,101,110,116,101,114,32,101,115,99,32,98,97,99,107,32,116,97,98,32,115,112,97,99,101,32,109,105,110,117,115,32,101,113,117,97,108,32,108,101,102,116,32,114,105,103,104,116,32,117,112,32,100,111,119,110,32,102,49,32,102,50,32,102,51,32,102,52,32,102,53,32,102,54,32,102,55,32,102,56,32,102,57],[32])=True:=by
 rw[WJ]
 have e:QO.length<4294967281∧1≤([32]:List UInt8).length:=by decide
 exact eq_true e
theorem J5(k:Int):II k∧IL k∧DP k=Bl k∧(Bl k).length≤5:=by
 obtain⟨n1,n2⟩:=Yc;have hl:Cb.length=56:=rfl
 have hw:∀ w∈Cb,w.length≤5:=by decide
 rw[eJ,eY,PQ,eL,n2,PZ,Xm];simp only[Qp,HV,Bz,Bc,CP,Bh,D2,Cx,BO,FW,EJ,Bx,hl];by_cases h:1≤k∧k≤56
 · have e:iSub .i64 k 1=k-1:=Q8 (by unfold AD;omega);rw[e];have d1:decide (1≤k)=true:=C4 h.1;have d2:decide (k≤56)=true:=C4 h.2;have d3:decide (k<1)=false:=FK (by omega);have d4:decide (56<k)=false:=FK (by omega);simp only[d1,d2,d3,d4];refine⟨⟨trivial,fun h=>(by cases h),fun _=>⟨n1,⟨by omega,by omega⟩,by omega⟩⟩,⟨fun h=>(by cases h),fun _=>⟨trivial,⟨by omega,by omega⟩,by omega⟩⟩,rfl,?_⟩;show (Cb.getD (k-1).toNat []).length≤5;rw[Ff,AG (show (k-1).toNat<Cb.length by omega)];exact hw _ (D5 _)
 · have d:(decide (1≤k)&&decide (k≤56))=false:=by
    rw[MB,CC,CC];omega
   have d':(decide (k<1)||decide (56<k))=true:=by
    rw[Ch,BN,BN];omega
   simp only[d,d'];exact⟨⟨trivial,fun _=>trivial,fun h=>(by cases h)⟩,⟨fun _=>trivial,fun h=>(by cases h)⟩,rfl,by simp⟩
def Wd(m:Int)(k:Nat):Bool:=iEq (iAnd .i64 (iShr .i64 m (k:Int)) 1) 1
def fm(m:Int):Nat→List UInt8
 |0=>[]
 |k+1=>if Wd m k then fm m k++[([67,83,65,71]:List UInt8).getD k 0] else fm m k
theorem OE(m:Int):∀ k,(fm m k).length≤k
 |0=>AP _
 | k+1=>by
   unfold fm
   split
   · simp;exact OE m k
   · exact Nat.le_succ_of_le (OE m k)
theorem T8(m:Int):IC m∧HF m∧Dw m=BC m∧BC m=(if 1≤m∧m≤15 then fm m 4 else []):=by
 rw[dG,dN,dT,dP];by_cases h:1≤m∧m≤15
 · have d1:CA (m,1,15)=true:=by simp only[HV,Bc,D2,Cx];simp[h.1,h.2]
   have d2:bOr (iLt m 1) (iGt m 15)=false:=by simp only[CP,BO,FW,D4,CC];omega
   have hk:∀ k:Nat,k<4→k=0∨k=1∨k=2∨k=3:=fun k hk=>by omega
   have ad:∀ k:Nat,k<4→iAdd .i64 (k:Int) 1=((k+1:Nat):Int):=fun k hk=>by rw[Cw (by unfold AD;omega)];rfl
   have sub:∀ k:Nat,k<4→lSub ([67,83,65,71]:List UInt8) k (k+1)=[([67,83,65,71]:List UInt8).getD k 0]:=fun k h4=>by
    rw[Jl];rcases hk k h4 with rfl|rfl|rfl|rfl<;>rfl
   have gt:∀ k:Nat,k<4→lGet ([[67],[83],[65],[71]]:List (List UInt8)) k []=[([67,83,65,71]:List UInt8).getD k 0]:=fun k h4=>by
    rw[EJ];rcases hk k h4 with rfl|rfl|rfl|rfl<;>rfl
   have L1:=Ja (c:=JO m) (f:=MX m) (p:=K5 m) 4 (fun k=>(fm m k,(k:Int))) (x0:=([],0)) rfl (fun k h4=>by
    have i4:iLt (k:Int) 4=true:=by rw[BO];exact C4 (by omega)
    have len:=OE m k;simp only[JO,MX,K5,d1,i4,ad k h4,sub k h4,Bc,Cn,Qp,Bx,Df,A4,Be];refine⟨⟨⟨fun _=>trivial,fun h=>(by cases h)⟩,fun _=>⟨by omega,fun _=>⟨⟨⟨by omega,by omega⟩,by omega,by omega⟩,by omega⟩,fun _=>trivial⟩,fun h=>(by cases h)⟩,trivial,?_⟩;rw[fm,Bh,Jn]
    rfl) (by
    have i4:iLt ((4:Nat):Int) 4=false:=by rw[BO];rfl
    simp only[JO,K5,i4,Bc,Sj]
    exact⟨⟨⟨fun h=>(by cases h),fun _=>trivial⟩,fun h=>(by cases h),fun _=>trivial⟩,trivial⟩)
   have L2:=Ja (c:=MY) (f:=Pz m) (p:=Py m) 4 (fun k=>(fm m k,(k:Int))) (x0:=([],0)) rfl (fun k h4=>by
    have i4:iLt (k:Int) (lLen ([[67],[83],[65],[71]]:List (List UInt8)))=true:=by rw[BO,A3];exact C4 (by simp;omega)
    have len:=OE m k;simp only[MY,Pz,Py,i4,ad k h4,gt k h4,iG,iN,Bx,Df,A4,Be];refine⟨⟨fun _=>⟨⟨by omega,by omega⟩,by omega,by omega,fun _=>by omega,fun _=>trivial⟩,fun h=>(by cases h)⟩,trivial,?_⟩;rw[fm,Bh,Jn]
    rfl) (by
    have i4:iLt ((4:Nat):Int) (lLen ([[67],[83],[65],[71]]:List (List UInt8)))=false:=by rw[BO,A3];rfl
    simp only[MY,Py,i4]
    exact⟨⟨fun h=>(by cases h),fun _=>trivial⟩,trivial⟩)
   rw[L1.2,L2.2,d2];exact⟨L1.1,⟨fun h=>(by cases h),fun _=>L2.1⟩,by rw[Bh];rfl,by rw[Ab h]⟩
 · have d1:CA (m,1,15)=false:=by
    simp only[HV,Bc,D2,Cx,MB,CC];omega
   have d2:bOr (iLt m 1) (iGt m 15)=true:=by simp only[CP,BO,FW,Ch,BN];omega
   have L1:=Ja (c:=JO m) (f:=MX m) (p:=K5 m) 0 (fun _=>([],0)) (x0:=([],0)) rfl (fun k h=>by omega) (by
    simp only[JO,K5,d1,Bc,Bool.and_false,Qp]
    exact⟨⟨⟨fun _=>trivial,fun _=>trivial⟩,fun h=>(by cases h),fun _=>trivial⟩,trivial⟩)
   rw[L1.2,d2];exact⟨L1.1,⟨fun _=>trivial,fun h=>(by cases h)⟩,by rw[Bh];rfl,by rw[Ad h]⟩
theorem LR(m:Int):IC m∧HF m∧Dw m=BC m∧(BC m).length≤4:=by
 obtain⟨a,b,c,d⟩:=T8 m;refine⟨a,b,c,?_⟩;rw[d];split
 · exact OE m 4
 · simp
end
section
set_option maxRecDepth 20000
theorem Zt:∀ (s:List UInt8) (b:UInt8),b ∉ s∨∃ x y,s=x++b::y∧b ∉ x
 |[],b=>.inl (by simp)
 | z :: r,b=>by
   by_cases h:z=b
   · subst h;exact .inr ⟨[],r,rfl,by simp⟩
   · rcases Zt r b with h1|⟨x,y,rfl,h2⟩
     · exact .inl (by simp[h1,Fc h])
     · exact .inr ⟨z::x,y,rfl,by simp[h2,Fc h]⟩
theorem W3:∀ (s:List UInt8) (b:UInt8),b ∉ s→Lib.indexByte s b=-1
 |[],_,_=>rfl
 | z::r,b,h=>by
   have h1:z≠b:=fun e=>h (by simp[e])
   have h2:=W3 r b (fun e=>h (by simp[e]))
   unfold Lib.indexByte
   rw[Ad (by simpa using h1),h2];rfl
theorem XE:∀ (x y:List UInt8) (b:UInt8),b ∉ x→Lib.indexByte (x++b::y) b=(x.length:Int)
 |[],y,b,_=>by simp[Lib.indexByte]
 | z::x,y,b,h=>by
   have h1:z≠b:=fun e=>h (by simp[e])
   have h2:=XE x y b (fun e=>h (by simp[e]))
   rw[Cs]
   unfold Lib.indexByte
   rw[Ad (by simpa using h1),h2,Ad (by simp<;>omega),A4]
   try rfl
theorem Rf(s:List UInt8)(b:UInt8)(h:b ∉ s):JY (s,[b])∧Bv (s,[b])=(s,[],false):=by
 have hi:Dv (s,[b])=-1:=by rw[SH];exact W3 s b h
 have ho:IB (s,[b]):=by rw[SG];rfl
 have e:iGe (-1) 0=false:=by rw[D2];rfl
 rw[Xg,W9,Wo,Wn,hi,e,AX];exact⟨⟨ho,fun h=>(by cases h),fun _=>trivial⟩,rfl⟩
theorem Vu(x y:List UInt8)(b:UInt8)(h:b ∉ x)(hl:(x++b::y).length≤1048576):JY (x++b::y,[b])∧Bv (x++b::y,[b])=(x,y,true):=by
 have hi:Dv (x++b::y,[b])=(x.length:Int):=by rw[SH];exact XE x y b h
 have ho:IB (x++b::y,[b]):=by rw[SG];rfl
 have e:iGe (x.length:Int) 0=true:=by rw[D2];exact C4 (by omega)
 rw[EO,A4] at hl
 have ad:iAdd .i64 (x.length:Int) (lLen [b])=((x.length+1:Nat):Int):=by
  rw[A3,Cw (by unfold AD;simp only[A4,Be];omega)];rfl
 rw[Xg,W9,Wo,Wn,hi,e,A9];simp only[ad,Bx,Df,Jl,O4,EO,A4];refine⟨⟨ho,fun _=>⟨⟨by omega,by omega,by omega⟩,by omega,by omega,by omega⟩,fun h=>(by cases h)⟩,?_⟩
 have e1:((x++b::y).drop 0).take (x.length-0)=x:=by simp
 have e2:(x++b::y).drop (x.length+1)=y:=by
  rw[← List.drop_drop,List.drop_left];rfl
 rw[e1,e2,Mn (by omega)]
theorem LB(k:Nat)(h:k<56):Bl ((k:Int)+1)=Cb.getD k []:=by
 obtain⟨_,n2⟩:=Yc;rw[PQ,n2]
 have e:iSub .i64 ((k:Int)+1) 1=(k:Int):=by rw[Q8 (by unfold AD;omega)];omega
 have d:CA ((k:Int)+1,1,56)=true:=by
  simp only[HV,Bc,D2,Cx,Ak,BN];omega
 rw[e,d,Bz,Bh,EJ,Bx];rfl
def CU(x:List UInt8):Nat:=Cb.findIdx (· == x)
theorem U4(x:List UInt8):CU x≤56:=List.findIdx_le_length
theorem Vk(x:List UInt8){k:Nat}(h:k<CU x):Cb.getD k []≠x:=by
 have hl:Cb.length=56:=rfl;have h56:=U4 x
 have hk:k<Cb.length:=by omega
 have:=List.not_of_lt_findIdx h;rw[Ff,AG hk];simpa using this
theorem U3(x:List UInt8)(h:CU x<56):Cb.getD (CU x) []=x:=by
 have hl:Cb.length=56:=rfl
 have hk:CU x<Cb.length:=by omega
 have:=List.findIdx_getElem (w:=hk);rw[Ff,AG hk];exact eq_of_beq this
theorem Ka(x:List UInt8):IY x∧HO x∧Ej x=Cf x:=by
 have hl:Cb.length=56:=rfl;have h56:=U4 x;rw[fJ,fS,Xc,gi,Xm]
 have L1:=Ja (c:=HL x) (f:=JU) (p:=JV) (CU x) (fun k=>(k:Int)+1) (x0:=1) rfl (fun k hk=>by
  have i1:iLe ((k:Int)+1) 56=true:=by rw[Cx];exact C4 (by omega)
  have i2:sEq (Bl ((k:Int)+1)) x=false:=by rw[LB k (by omega),BV];simpa using Vk x hk
  simp only[HL,JU,JV,i1,i2,Bc,Bz]
  exact⟨⟨fun _=>(J5 _).1,fun h=>(by cases h)⟩,rfl,by rw[Cw (by unfold AD;omega)];simp⟩) (by
  simp only[HL,JV,Bc,Bz];refine⟨⟨fun _=>(J5 _).1,fun _=>trivial⟩,?_⟩;rcases A0 (CU x) 56 with h|h
  · rw[LB _ h,U3 x h,BV];simp
  · have i1:iLe ((CU x:Int)+1) 56=false:=by rw[Cx];exact FK (by omega)
    rw[i1];rfl)
 have L2:=Ja (c:=Lb x) (f:=M9) (p:=PR) (CU x) (fun k=>(k:Int)) (x0:=0) rfl (fun k hk=>by
  have i2:sEq (lGet Cb k []) x=false:=by rw[EJ,BV];simpa using Vk x hk
  simp only[Lb,M9,PR,PZ,Bx,Df,i2,Bc,Bz,BO,A3,hl]
  exact⟨⟨fun _=>⟨⟨by omega,by omega⟩,by omega⟩,fun _=>trivial⟩,by simp;omega,by rw[Cw (by unfold AD;omega)];simp⟩) (by
  simp only[Lb,PR,PZ,Bx,Df,Bc,Bz,BO,A3,hl,EJ,BV,BN];refine⟨⟨fun h=>⟨⟨by omega,by omega⟩,by omega⟩,fun _=>trivial⟩,?_⟩;rcases A0 (CU x) 56 with h|h
  · rw[U3 x h];simp
  · simp;omega)
 rw[L1.2,L2.2];refine⟨L1.1,⟨trivial,L2.1⟩,?_⟩;rw[PZ,BO,Cx,A3,hl,Bh,Bh,Cw (by unfold AD;omega)];rcases A0 (CU x) 56 with h|h
 · rw[Ab (C4 (by omega)),Ab (C4 (by omega))]
 · rw[Ad (by simp;omega),Ad (by simp;omega)]
theorem J3(x:List UInt8):JR x∧IF x∧GQ x=Dx x:=by
 have ec:MZ x=F5 x:=by
  funext m;simp only[MZ,F5,(LR m).2.2.1]
 have ef:PC=HA:=rfl
 have key:∀ {p:Int→Prop},(∀ m,p m)→LoopOk (F5 x) HA p 1:=fun hp=>
  (N6 (fun st=>1≤st∧st≤16) (fun st=>(16-st).toNat) (fun st hI=>⟨hp st,fun hc=>by
   simp only[F5,Bc,Cx,Ak,BN] at hc;rw[show HA st=st+1 by unfold HA;exact Cw (by unfold AD;omega)]
   omega⟩) (by omega)).1
 rw[dY,eC,WB,eo,ec,ef];exact⟨key fun m=>⟨fun _=>(LR m).1,fun _=>trivial⟩,key fun m=>⟨fun _=>(LR m).2.1,fun _=>trivial⟩,rfl⟩
end
section
set_option maxRecDepth 20000
theorem I6(n:Nat)(h:n<10):Lib.decDigits n=[UInt8.ofNat (48+n)]:=by
 unfold Lib.decDigits;rw[dif_pos h]
theorem gT(n:Int)(h0:0≤n)(h1:n≤3):F7 n∧HI n∧E0 n=CV n∧(CV n).length≤1:=by
 obtain⟨k,rfl⟩:∃ k:Nat,n=k:=⟨n.toNat,by omega⟩
 have hk:k=0∨k=1∨k=2∨k=3:=by omega
 have ei:E0 (k:Int)=[UInt8.ofNat (48+k)]:=by
  rw[WC,SW];unfold Lib.itoa;rw[Ad (by omega),Df,I6 k (by omega)]
 have oi:HI (k:Int):=by rw[Wy,SX];omega
 rw[ei]
 have hne:iNe (0:Int) 0=false:=by rw[Gs];rfl
 rw[Wz,WA];rcases OO k with rfl|hp
 · have e:iEq ((0:Nat):Int) 0=true:=by rw[Ck];rfl
   rw[e,A9];exact⟨⟨fun _=>trivial,fun h=>(by cases h)⟩,oi,rfl,by simp⟩
 · have e:iEq (k:Int) 0=false:=by rw[Ck];exact FK (by omega)
   have e2:iLt (k:Int) 0=false:=by rw[BO];exact FK (by omega)
   have e3:iNe (k:Int) 0=true:=by rw[Gs];simp;omega
   have hr:iRem (k:Int) 10=(k:Int):=by rw[Rn (by omega)];omega
   have hq:iQuo .i64 (k:Int) 10=0:=by rw[ZS (by omega) (by unfold AD;omega)];omega
   have hd:rowS [iConv .u8 (iAdd .i64 48 (bSel (iLt (iRem (k:Int) 10) 0) (iNeg .i64 (iRem (k:Int) 10)) (iRem (k:Int) 10)))]=[UInt8.ofNat (48+k)]:=by
    rw[hr,e2,AX,Cw (by unfold AD;omega),Oo (by omega) (by omega),ai]
    have:((48:Int)+(k:Int)).toNat=48+k:=by omega
    simp[this]
   have L:=Ja (c:=FD) (f:=HB) (p:=HD) 1 (fun j=>if j=0 then ([],(k:Int)) else ([UInt8.ofNat (48+k)],0)) (x0:=([],(k:Int))) rfl (fun j hj=>by
    have:j=0:=by omega
    subst this;simp only[FD,HB,HD,hd,hq,e3,Jn,AB]
    exact⟨⟨fun _=>⟨by decide,by simp,by decide⟩,fun h=>(by cases h)⟩,trivial,rfl⟩) (by
    simp only[FD,HD,Ad (show ¬ (1:Nat)=0 by decide),hne]
    exact⟨⟨fun h=>(by cases h),fun _=>trivial⟩,trivial⟩)
   rw[e,e2,AX,AX,L.2];exact⟨⟨fun h=>(by cases h),fun _=>⟨L.1,fun h=>(by cases h),fun _=>trivial⟩⟩,oi,rfl,by simp⟩
theorem QR(k c m n:Int)(h:Cj (k,c,m,n)=true):(0≤k∧k≤10)∧(k=3∨k=4∨k=5∨k=7∨k=9→0≤n∧n≤3):=by
 rw[SQ] at h;simp only[HV,Bh,CP,Bc,Ck,D2,Cx] at h;by_cases h0:k=0∨k=1∨k=10
 · omega
 · by_cases h2:k=2
   · omega
   · by_cases h3:k=3∨k=4
     · rcases h3 with rfl|rfl<;>simp at h<;>omega
     · by_cases h5:k=5∨k=9
       · rcases h5 with rfl|rfl<;>simp at h<;>omega
       · by_cases h6:k=6
         · omega
         · by_cases h7:k=7
           · subst h7;simp at h;omega
           · by_cases h8:k=8
             · omega
             · have a0:(k=0)=False:=eq_false (by omega);have a1:(k=1)=False:=eq_false (by omega);have a2:(k=10)=False:=eq_false (by omega);have a3:(k=3)=False:=eq_false (by omega);have a4:(k=4)=False:=eq_false (by omega);have a5:(k=5)=False:=eq_false (by omega);have a9:(k=9)=False:=eq_false (by omega);simp[a0,a1,a2,a3,a4,a5,a9,h2,h6,h7,h8] at h
theorem Lc(x:Int×Int×Int×Int):MV x∧MW x∧BJ x=BB x∧(BB x).length≤20:=by
 obtain⟨k,c,m,n⟩:=x;obtain⟨c1,c2,c3,c4⟩:=J5 c;obtain⟨m1,m2,m3,m4⟩:=LR m;have a1:Ld (k,c,m,n):=Wx _;have a2:EZ (k,c,m,n):=M3 _;rw[cU,cV,SK,cT,← HZ]
 cases hv:Cj (k,c,m,n) with
 | false=>
   rw[Bz];simp only[Bool.not_false,A9];exact⟨⟨a1,fun _=>trivial,fun h=>(by cases h)⟩,⟨a2,fun _=>trivial,fun h=>(by cases h)⟩,by first|rfl|trivial,by simp⟩
 | true=>
   obtain⟨hk,hn⟩:=QR k c m n hv
   have hn:k=3∨k=4∨k=5∨k=7∨k=9→F7 n∧HI n∧E0 n=CV n∧(CV n).length≤1:=fun h=>gT n (hn h).1 (hn h).2
   simp only[Bz,EN,AX,Ck,Gs,Bh,Jn,c3,m3,Xk,Xe,a1,a2];rcases (show k=0∨k=1∨k=2∨k=3∨k=4∨k=5∨k=6∨k=7∨k=8∨k=9∨k=10 by omega) with rfl|rfl|rfl|rfl|rfl|rfl|rfl|rfl|rfl|rfl|rfl
   · simp
   · simp
   · by_cases h0:m=0
     · subst h0;simp[c1,c2,c4];omega
     · simp[h0,c1,c2,m1,m2];omega
   · obtain⟨i1,i2,i3,i4⟩:=hn (by omega);simp[i1,i2,i3];omega
   · obtain⟨i1,i2,i3,i4⟩:=hn (by omega);simp[i1,i2,i3];omega
   · obtain⟨i1,i2,i3,i4⟩:=hn (by omega);simp[i1,i2,i3];omega
   · simp[c1,c2,m1,m2];omega
   · obtain⟨i1,i2,i3,i4⟩:=hn (by omega);simp[i1,i2,i3,c1,c2];omega
   · simp[m1,m2];omega
   · obtain⟨i1,i2,i3,i4⟩:=hn (by omega);simp[i1,i2,i3];omega
   · simp
end
section
set_option maxRecDepth 20000
theorem Rv(u:Nat)(h:10≤u):Lib.decDigits u=Lib.decDigits (u / 10)++[UInt8.ofNat (48+u % 10)]:=by
 rw[Lib.decDigits,dif_neg (by omega)]
theorem XQ(d:Nat)(h:d<10):Lib.digitVal (UInt8.ofNat (48+d))=some d:=by
 unfold Lib.digitVal
 have:(UInt8.ofNat (48+d)).toNat=48+d:=by
  rw[UInt8.toNat_ofNat'];exact Nat.mod_eq_of_lt (by omega)
 rw[this,Ab (by omega)];congr 1;omega
theorem Te:∀ (l r:List UInt8) (a:Nat),Lib.decFrom a (l++r)=(Lib.decFrom a l).bind fun n=>Lib.decFrom n r
 |[],_,_=>rfl
 | b::l,r,a=>by
   rw[Cs,Lib.decFrom,Lib.decFrom]
   cases Lib.digitVal b with
   |none=>rfl
   |some d=>exact Te l r _
theorem Qs:∀ (m u:Nat),u<10^m→Lib.decFrom 0 (Lib.decDigits u)=some u
 | 0,u,h=>by
   have:u=0:=by simpa using h
   subst this;rw[I6 0 (by decide)];rfl
 | m+1,u,h=>by
   by_cases hu:u<10
   · rw[I6 u hu];simp only[Lib.decFrom,XQ u hu,Ir,Bj]
   · rw[Rv u (by omega),Te,Qs m (u / 10) (by rw[Nat.pow_succ] at h;omega)];simp only[EM,Lib.decFrom,XQ (u % 10) (by omega)];congr 1;omega
theorem L9:∀ (m u:Nat),u<10^m→0<m→1≤(Lib.decDigits u).length∧(Lib.decDigits u).length≤m
 |0,_,_,h=>absurd h (by decide)
 | m + 1,u,h,_=>by
   by_cases hu:u<10
   · rw[I6 u hu];simp
   · rw[Rv u (by omega)]
     have hm:0<m:=by
      rcases OO m with rfl|h'
      · simp at h;omega
      · exact h'
     have:=L9 m (u / 10) (by rw[Nat.pow_succ] at h;omega) hm;simp;omega
theorem N4:∀ (m u:Nat),u<10^m→∀ b∈Lib.decDigits u,48≤b.toNat∧b.toNat≤57
 | 0,u,h,b,hb=>by
   have:u=0:=by simpa using h
   subst this;rw[I6 0 (by decide)] at hb;simp only[List.mem_singleton] at hb;subst hb;decide
 | m + 1,u,h,b,hb=>by
   have key:∀ d,d<10→48≤(UInt8.ofNat (48+d)).toNat∧(UInt8.ofNat (48+d)).toNat≤57:=fun d hd=>by
    have:(UInt8.ofNat (48+d)).toNat=48+d:=by
     rw[UInt8.toNat_ofNat'];exact Nat.mod_eq_of_lt (by omega)
    rw[this];omega
   by_cases hu:u<10
   · rw[I6 u hu] at hb;simp only[List.mem_singleton] at hb;subst hb;exact key u hu
   · rw[Rv u (by omega),C5] at hb;rcases hb with hb|hb
     · exact N4 m (u / 10) (by rw[Nat.pow_succ] at h;omega) b hb
     · simp only[List.mem_singleton] at hb;subst hb;exact key _ (by omega)
theorem mb(k:Nat):(-(k:Int)).tdiv 10=-((k / 10:Nat):Int):=by
 rw[Int.neg_tdiv,Int.tdiv_eq_ediv_of_nonneg (by omega)];omega
theorem mN(k:Nat):(-(k:Int)).tmod 10=-((k % 10:Nat):Int):=by
 rw[Int.neg_tmod,Int.tmod_eq_emod_of_nonneg (by omega)];omega
theorem oC(x:Int):bSel (iLt (iRem x 10) 0) (iNeg .i64 (iRem x 10)) (iRem x 10)=((x.natAbs % 10:Nat):Int):=by
 rw[Vf];rcases Int.le_total 0 x with h|h
 · obtain⟨k,rfl⟩:∃ k:Nat,x=k:=⟨x.toNat,by omega⟩;rw[Int.tmod_eq_emod_of_nonneg (by omega),Bh,BO,Ad (by simp;omega)];simp only[Int.natAbs_natCast];omega
 · obtain⟨k,rfl⟩:∃ k:Nat,x=-(k:Int):=⟨x.natAbs,by omega⟩;rw[mN,Bh,BO]
   have e:(-(k:Int)).natAbs=k:=by omega
   rw[e];by_cases h0:k % 10=0
   · rw[h0];simp
   · rw[Ab (by simp;omega),Zf (by unfold AD;omega)];omega
theorem ou(x:Int)(h:AD x):(iQuo .i64 x 10).natAbs=x.natAbs / 10∧AD (iQuo .i64 x 10):=by
 rw[U1];rcases Int.le_total 0 x with hx|hx
 · obtain⟨k,rfl⟩:∃ k:Nat,x=k:=⟨x.toNat,by omega⟩;rw[Int.tdiv_eq_ediv_of_nonneg (by omega),GW (by unfold AD at *;omega)];unfold AD at *;omega
 · obtain⟨k,rfl⟩:∃ k:Nat,x=-(k:Int):=⟨x.natAbs,by omega⟩;rw[mb,GW (by unfold AD at *;omega)];unfold AD at *;omega
theorem Zn:∀ (m:Nat) (x:Int) (s:List UInt8),x.natAbs<10^m→s.length+m≤100→AD x →
 ∃ y,LoopTo FD HB HD (s,x) y∧y.1=(if x=0 then s else Lib.decDigits x.natAbs++s)
 | 0,x,s,h,hl,hi=>by
   have hx:x=0:=by simp at h;exact h
   subst hx;refine⟨(s,0),.stop ?_ ?_,by simp⟩
   · simp only[HD,Gs];exact⟨fun h=>(by simp at h),fun _=>trivial⟩
   · simp[FD,Gs]
 | m + 1,x,s,h,hl,hi=>by
   by_cases hx:x=0
   · subst hx;refine⟨(s,0),.stop ?_ ?_,by simp⟩
     · simp only[HD,Gs];exact⟨fun h=>(by simp at h),fun _=>trivial⟩
     · simp[FD,Gs]
   · have e1:rowS [iConv .u8 (iAdd .i64 48 (bSel (iLt (iRem x 10) 0) (iNeg .i64 (iRem x 10)) (iRem x 10)))]=[UInt8.ofNat (48+x.natAbs % 10)]:=by
      rw[oC,Cw (by unfold AD;omega),Oo (by omega) (by omega),ai]
      have:((48:Int)+((x.natAbs % 10:Nat):Int)).toNat=48+x.natAbs % 10:=by omega
      simp only[BR,Mu,this]
     obtain⟨q1,q2⟩:=ou x hi
     have e2:HB (s,x)=(UInt8.ofNat (48+x.natAbs % 10)::s,iQuo .i64 x 10):=by
      simp only[HB,e1,Jn];rfl
     have c1:FD (s,x)=true:=by simp[FD,Gs,hx]
     have p1:HD (s,x):=by
      simp only[HD,e1];refine⟨fun _=>⟨by decide,?_,by decide⟩,fun _=>trivial⟩;simp;omega
     obtain⟨y,y1,y2⟩:=Zn m (iQuo .i64 x 10) (UInt8.ofNat (48+x.natAbs % 10)::s) (by rw[q1];rw[Nat.pow_succ] at h;omega) (by simp;omega) q2;refine⟨y,.go p1 c1 (by rw[e2];exact y1),?_⟩;rw[y2,Ad hx,q1];by_cases h10:x.natAbs<10
     · have:iQuo .i64 x 10=0:=by omega
       rw[Ab this,I6 _ h10,Nat.mod_eq_of_lt h10];rfl
     · rw[Ad (by omega),Rv x.natAbs (by omega)];simp
theorem Xd(n:Int)(h:n.natAbs<10^18):F7 n∧CV n=Lib.itoa n:=by
 rw[Wz,WA]
 have hi:AD n:=by unfold AD;omega
 obtain⟨y,y1,y2⟩:=Zn 18 n [] h (by simp) hi;have hv:=y1.val;by_cases h0:n=0
 · subst h0
   have e:iEq (0:Int) 0=true:=by rw[Ck];rfl
   rw[e,A9];refine⟨⟨fun _=>trivial,fun h=>(by cases h)⟩,?_⟩;unfold Lib.itoa;rw[Ad (by decide),show (0:Int).toNat=0 from rfl,I6 0 (by decide)];rfl
 · have e:iEq n 0=false:=by rw[Ck];exact FK h0
   rw[Ad h0,Mh] at y2;obtain⟨l1,l2⟩:=L9 18 n.natAbs h (by decide);rw[e,AX,hv,y2];refine⟨⟨fun h=>(by cases h),fun _=>⟨⟨_,y1⟩,fun _=>?_,fun _=>trivial⟩⟩,?_⟩
   · simp;omega
   · unfold Lib.itoa;rw[Bh,BO,Jn];by_cases hn:n<0
     · rw[Ab (C4 hn),Ab hn];rfl
     · rw[Ad (by simpa using hn),Ad hn,show n.natAbs=n.toNat by omega]
theorem gf(n:Int)(h:n.natAbs<10^18):HI n∧E0 n=Lib.itoa n:=by
 rw[Wy,WC,SX,SW];exact⟨by omega,rfl⟩
theorem LG(n:Int)(h:n.natAbs<10^9):1≤(Lib.itoa n).length∧(Lib.itoa n).length≤10∧Lib.atoi (Lib.itoa n)=some n:=by
 obtain⟨l1,l2⟩:=L9 9 n.natAbs h (by decide);have hd:=Qs 9 n.natAbs h;unfold Lib.itoa;by_cases hn:n<0
 · rw[Ab hn];refine⟨by simp,by simp;omega,?_⟩;simp only[Lib.atoi,beq_self_eq_true,AB,Lib.decNat];rw[Ad (by simp;intro hh;rw[hh] at l1;simp at l1),hd];simp only[BQ];congr 1;omega
 · rw[Ad hn,show n.toNat=n.natAbs by omega];refine⟨l1,by omega,?_⟩;have hs:=N4 9 n.natAbs h
   cases hl:Lib.decDigits n.natAbs with
   |nil=>rw[hl] at l1;simp at l1
   | cons b r=>
     rw[hl] at hs hd;have hb:=hs b (by simp)
     have n1:(b == 45)=false:=by
      rw[L4];intro e;subst e;exact absurd hb.1 (by decide)
     have n2:(b == 43)=false:=by
      rw[L4];intro e;subst e;exact absurd hb.1 (by decide)
     simp only[Lib.atoi,n1,n2,Lib.decNat,List.isEmpty_cons,As,Az,hd,BQ];congr 1;omega
theorem S6(s:List UInt8):JS s∧(FG s=(0,false)∧(∀ n:Int,n.natAbs<10^9→Lib.itoa n≠s)∨∃ n:Int,n.natAbs<10^9∧Lib.itoa n=s∧FG s=(n,true)):=by
 rw[eR,eX];simp only[CP,Bh,BO,FW,A3,Mq,Bz,WR,WX];by_cases hl:s.length<1∨10<s.length
 · have e:(decide ((s.length:Int)<1)||decide (10<(s.length:Int)))=true:=by
    rw[Ch,BN,BN];omega
   rw[e];refine⟨⟨fun _=>trivial,fun h=>(by cases h)⟩,.inl ⟨rfl,fun n hn e=>?_⟩⟩;have:=LG n hn;rw[e] at this;omega
 · have e:(decide ((s.length:Int)<1)||decide (10<(s.length:Int)))=false:=by
    rw[D4,CC,CC];omega
   rw[e]
   cases ha:Lib.atoi s with
   | none=>
     simp only[Option.isSome_none,Bool.not_false,Bool.true_or,AB,As,Az];refine⟨⟨fun h=>(by cases h),fun _=>⟨by omega,fun _=>trivial,fun h=>(by cases h)⟩⟩,.inl ⟨by first|rfl|trivial,fun n hn e=>?_⟩⟩;have:=(LG n hn).2.2;rw[e,ha] at this;cases this
   | some n=>
     simp only[Option.isSome_some,EN,Bool.false_or,GC,As,Az];by_cases hr:n < -999999999∨999999999<n
     · have hc:(decide (n < -999999999)||(decide (999999999<n)||decide (E0 n≠s)))=true:=by
        rcases hr with hr|hr
        · simp[hr]
        · simp[hr]
       rw[Ab (by simpa using hc)];refine⟨⟨fun h=>(by cases h),fun _=>⟨by omega,fun h=>(by cases h),fun _=>⟨fun _=>trivial,fun h1=>⟨fun _=>trivial,fun h2=>?_⟩⟩⟩⟩,.inl ⟨rfl,fun k hk e=>?_⟩⟩
       · simp at h1 h2;omega
       · have:=(LG k hk).2.2;rw[e,ha] at this;cases this;omega
     · obtain⟨f1,f2⟩:=gf n (by omega);rw[f2]
       have h1:decide (n < -999999999)=false:=by simp;omega
       have h2:decide (999999999<n)=false:=by simp;omega
       simp only[h1,h2,Bool.false_or];refine⟨⟨fun h=>(by cases h),fun _=>⟨by omega,fun h=>(by cases h),fun _=>⟨fun h=>(by cases h),fun _=>⟨fun h=>(by cases h),fun _=>f1⟩⟩⟩⟩,?_⟩;by_cases he:Lib.itoa n=s
       · exact .inr ⟨n,by omega,he,by simp[he]⟩
       · refine .inl ⟨by simp[he],fun k hk e=>?_⟩;have:=(LG k hk).2.2;rw[e,ha] at this;cases this;exact he e
def BT:List UInt8→List UInt8
 |[]=>[]
 |b::r=>if b.toNat=45 then r else b::r
theorem Vb(s:List UInt8):bSel (bAnd (iGt (lLen s) 0) (iEq (sGet s 0) 45)) (lSub s (iNat 1) (lN s)) s=BT s:=by
 rw[Bh,Bc,FW,Ck,A3,Ro,Jl,Bx,O4]
 cases s with
 |nil=>rfl
 | cons b r=>
   have e1:decide (0<((b::r).length:Int))=true:=C4 (by simp);rw[e1,RV];by_cases h:b.toNat=45
   · rw[Ab (by simp[h])];simp[BT,h]
   · rw[Ad (by simp;omega)];simp[BT,h]
theorem jC(s:List UInt8)(h9:(BT s).length≤9):LoopOk (Eg s) (ED s) (PG s) (0,0) ∧
 ∃ k m:Nat,Bb (Eg s) (ED s) (0,0)=((m:Int),(k:Int))∧k≤(BT s).length∧Lib.decFrom 0 ((BT s).take k)=some m∧m<10^k∧(k<(BT s).length→Lib.decFrom 0 (BT s)=none):=by
 have key:=N6 (c:=Eg s) (f:=ED s) (p:=PG s)
  (fun st=>∃ k m:Nat,st=((m:Int),(k:Int))∧k≤(BT s).length∧Lib.decFrom 0 ((BT s).take k)=some m∧m<10^k)
  (fun st=>(BT s).length-st.2.toNat) (fun st hI=>?_) (x0:=(0,0)) ⟨0,0,rfl,G9 _,rfl,by decide⟩
 · obtain⟨k1,⟨k,m,e,h1,h2,h3⟩,k2⟩:=key
   refine⟨k1,k,m,e,h1,h2,h3,fun hk=>?_⟩;rw[e] at k2;simp only[Eg,Vb] at k2;generalize BT s=t at *;rw[Bc,Bz,CP,BO,BO,FW,A3,Ro,Df,C4 (show (k:Int)<(t.length:Int) by omega),RV] at k2
   have hd:Lib.digitVal (t.getD k 0)=none:=by
    unfold Lib.digitVal;rw[Ad];intro hh;simp only[Mz,Ch,BN] at k2;omega
   have e2:t=t.take k++t.getD k 0::t.drop (k+1):=by
    rw[Ff,AG hk,GC]
    conv=>lhs;rw[← List.take_append_drop k t,OQ hk]
   rw[e2,Te,h2,EM,Lib.decFrom,hd]
 · obtain⟨k,m,rfl,h1,h2,h3⟩:=hI
   simp only[Eg,ED,PG,Vb];generalize BT s=t at *
   have hp:(m:Int)<1000000000:=by
    have:10^k≤10^9:=Nat.pow_le_pow_right (by decide) (by omega);omega
   simp only[Bc,Bz,CP,BO,FW,A3,Ro,Df,BN,CC];refine⟨⟨fun hk=>⟨⟨⟨by omega,by omega⟩,fun _=>trivial,fun _=>⟨by omega,by omega⟩⟩,fun _=>trivial,fun _=>⟨by omega,by omega⟩⟩,fun _=>trivial⟩,fun hc=>?_⟩;rw[Ak,BN] at hc;obtain⟨hk,hd⟩:=hc
   have hkl:k<t.length:=by omega
   have hd':48≤(t.getD k 0).toNat∧(t.getD k 0).toNat≤57:=by simp only[DD,D4,CC] at hd;omega
   rw[NY (by unfold AD;omega),N1 (by omega) (by omega),Cw (by unfold AD;omega),Q8 (by unfold AD;omega),Cw (by unfold AD;omega)];refine⟨⟨k+1,m*10+((t.getD k 0).toNat-48),?_,by omega,?_,?_⟩,?_⟩
   · rw[Aj];omega
   · refine Lib.decFrom_take t k 0 m (t.getD k 0) _ h2 ?_ ?_
     · rw[Ff,AG hkl];rfl
     · unfold Lib.digitVal;rw[Ab hd']
   · rw[Nat.pow_succ];omega
   · show t.length-((k:Int)+1).toNat<t.length-(k:Int).toNat;omega
theorem Ue(n:Int)(h:n.natAbs<10^9):BT (Lib.itoa n)=Lib.decDigits n.natAbs∧((BT (Lib.itoa n)).length<(Lib.itoa n).length↔n<0):=by
 obtain⟨l1,_⟩:=L9 9 n.natAbs h (by decide);unfold Lib.itoa;by_cases hn:n<0
 · rw[Ab hn];exact⟨rfl,by simp[BT,hn]⟩
 · rw[Ad hn,show n.toNat=n.natAbs by omega];have hs:=N4 9 n.natAbs h
   cases hl:Lib.decDigits n.natAbs with
   |nil=>rw[hl] at l1;simp at l1
   | cons b r=>
     rw[hl] at hs;have hb:=hs b (by simp)
     have:BT (b::r)=b::r:=by show (if b.toNat=45 then r else b::r)=b::r;rw[Ad (by omega)]
     rw[this];exact⟨rfl,by simp[hn]⟩
theorem Qe(s:List UInt8):JW s∧(Bs s=(0,false)∧(∀ n:Int,n.natAbs<10^9→Lib.itoa n≠s)∨∃ n:Int,n.natAbs<10^9∧Lib.itoa n=s∧Bs s=(n,true)):=by
 rw[eW,eO];simp only[Vb]
 have h0:((iGt (lLen s) 0=true→(0:Int)≤0∧(0:Int)<(s.length:Int))∧(iGt (lLen s) 0=false→True))∧((bAnd (iGt (lLen s) 0) (iEq (sGet s 0) 45))=true→(0:Int)≤1∧iNat 1≤lN s∧lN s≤s.length)∧((bAnd (iGt (lLen s) 0) (iEq (sGet s 0) 45))=false→True):=by
  rw[Bc,FW,A3,Bx,O4];simp only[BN,Ak];refine⟨⟨fun h=>⟨by decide,h⟩,fun _=>trivial⟩,fun h=>⟨by decide,?_,AP _⟩,fun _=>trivial⟩;have:=h.1;show 1≤s.length;omega
 have no:∀ {P:Prop},(∀ n:Int,n.natAbs<10^9→Lib.itoa n=s→P)→∀ n:Int,n.natAbs<10^9→Lib.itoa n=s→P:=fun h=>h
 by_cases hl:(BT s).length<1∨9<(BT s).length
 · have e:bOr (iLt (lLen (BT s)) 1) (iGt (lLen (BT s)) 9)=true:=by
    rw[CP,BO,FW,A3,Ch,BN,BN];omega
   rw[e,A9];refine⟨⟨h0,fun _=>trivial,fun h=>(by cases h)⟩,.inl ⟨rfl,fun n hn e=>?_⟩⟩;have h1:=(Ue n hn).1;have h2:=L9 9 n.natAbs hn (by decide);rw[e] at h1;rw[h1] at hl;omega
 · have e:bOr (iLt (lLen (BT s)) 1) (iGt (lLen (BT s)) 9)=false:=by
    rw[CP,BO,FW,A3,D4,CC,CC];omega
   obtain⟨k1,k,m,k2,k3,k4,k5,k6⟩:=jC s (by omega);rw[e,AX,k2];by_cases hk:k<(BT s).length
   · have e3:iLt ((k:Int)) (lLen (BT s))=true:=by rw[BO,A3];exact C4 (by omega)
     rw[e3,A9];refine⟨⟨h0,fun h=>(by cases h),fun _=>⟨k1,fun _=>trivial,fun h=>(by cases h)⟩⟩,.inl ⟨rfl,fun n hn e=>?_⟩⟩;have h1:=(Ue n hn).1;have h2:=Qs 9 n.natAbs hn;rw[e] at h1;rw[← h1,k6 hk] at h2;cases h2
   · have e3:iLt ((k:Int)) (lLen (BT s))=false:=by rw[BO,A3];exact FK (by omega)
     have hkl:k=(BT s).length:=by omega
     rw[hkl,RA] at k4;have hm:m<10^9:=G5 k5 (Nat.pow_le_pow_right (by decide) (by omega))
     have hn:bSel (iLt (lLen (BT s)) (lLen s)) (iNeg .i64 (m:Int)) (m:Int)=if (BT s).length<s.length then -(m:Int) else m:=by
      rw[Bh,BO,A3,A3,Zf (by unfold AD;omega)];by_cases hh:(BT s).length<s.length
      · rw[Ab (C4 (by omega)),Ab hh]
      · rw[Ad (by simp;omega),Ad hh]
     rw[e3,AX,hn];generalize hN:(if (BT s).length<s.length then -(m:Int) else (m:Int))=N
     have hNa:N.natAbs=m:=by subst hN;split<;>omega
     obtain⟨f1,f2⟩:=Xd N (by omega);rw[f2];refine⟨⟨h0,fun h=>(by cases h),fun _=>⟨k1,fun h=>(by cases h),fun _=>f1⟩⟩,?_⟩;rw[Bh,Mq];by_cases he:Lib.itoa N=s
     · exact .inr ⟨N,by omega,he,by simp[he]⟩
     · refine .inl ⟨by simp[he],fun n hn e=>he ?_⟩;have h1:=Ue n hn;have h2:=Qs 9 n.natAbs hn;rw[e] at h1;rw[← h1.1,k4] at h2
       have h3:m=n.natAbs:=by simpa using h2
       have:N=n:=by
        subst hN;by_cases hh:n<0
        · rw[Ab (h1.2.2 hh)];omega
        · rw[Ad (fun hq=>hh (h1.2.1 hq))];omega
       rw[this];exact e
theorem Zu{a b:Int}(ha:a.natAbs<10^9)(hb:b.natAbs<10^9)(h:Lib.itoa a=Lib.itoa b):a=b:=by
 have h1:=(LG a ha).2.2;rw[h,(LG b hb).2.2] at h1;exact(by simpa using h1:b=a).symm
theorem XD(s:List UInt8):JW s∧JS s∧FG s=Bs s:=by
 obtain⟨a1,a2⟩:=Qe s;obtain⟨b1,b2⟩:=S6 s;refine⟨a1,b1,?_⟩;rcases a2 with⟨a2,a3⟩|⟨n,n1,n2,n3⟩
 · rcases b2 with⟨b2,_⟩|⟨k,k1,k2,_⟩
   · rw[a2,b2]
   · exact absurd k2 (a3 k k1)
 · rcases b2 with⟨_,b3⟩|⟨k,k1,k2,k3⟩
   · exact absurd n2 (b3 n n1)
   · rw[n3,k3,Zu k1 n1 (k2.trans n2.symm)]
end
section
set_option maxRecDepth 20000
theorem Yv(x:List UInt8):Cf x=if CU x<56 then (CU x:Int)+1 else 0:=by
 have hl:Cb.length=56:=rfl;have h56:=U4 x;rw[Xc]
 have L1:=Ja (c:=HL x) (f:=JU) (p:=JV) (CU x) (fun k=>(k:Int)+1) (x0:=1) rfl (fun k hk=>by
  have i1:iLe ((k:Int)+1) 56=true:=by rw[Cx];exact C4 (by omega)
  have i2:sEq (Bl ((k:Int)+1)) x=false:=by rw[LB k (by omega),BV];simpa using Vk x hk
  simp only[HL,JU,JV,i1,i2,Bc,Bz]
  exact⟨⟨fun _=>(J5 _).1,fun h=>(by cases h)⟩,rfl,by rw[Cw (by unfold AD;omega)];simp⟩) (by
  simp only[HL,JV,Bc,Bz];refine⟨⟨fun _=>(J5 _).1,fun _=>trivial⟩,?_⟩;rcases A0 (CU x) 56 with h|h
  · rw[LB _ h,U3 x h,BV];simp
  · have i1:iLe ((CU x:Int)+1) 56=false:=by rw[Cx];exact FK (by omega)
    rw[i1];rfl)
 rw[L1.2,Cx,Bh];rcases A0 (CU x) 56 with h|h
 · rw[Ab (C4 (by omega)),Ab h]
 · rw[Ad (by simp;omega),Ad (by omega)]
theorem kO:((List.range 56).all fun k=>Cb.findIdx (· == Cb.getD k []) == k)=true:=by kernel_rfl
theorem iW(k:Int)(h1:1≤k)(h2:k≤56):Cf (Bl k)=k:=by
 obtain⟨j,rfl⟩:∃ j:Nat,k=(j:Int)+1:=⟨(k-1).toNat,by omega⟩
 have hj:j<56:=by omega
 have:=Ct.1 kO j (List.mem_range.2 hj)
 have e:CU (Cb.getD j [])=j:=by unfold CU;exact eq_of_beq this
 rw[LB j hj,Yv,e,Ab hj]
theorem Gf(k:Int)(h0:0≤k)(h1:k≤56):Cf (Bl k)=k:=by
 by_cases h:k=0
 · subst h
   have e:Bl 0=[]:=by
    rw[PQ,HV];simp only[Bz,Bc,Bh,D2,Cx];rfl
   have c:CU []=56:=by unfold CU;exact(by kernel_rfl:Cb.findIdx (· == [])=56)
   rw[e,Yv,c];rfl
 · exact iW k (by omega) h1
def F2(m:Nat):Nat→List UInt8
 |0=>[]
 |k+1=>if m.testBit k then F2 m k++[([67,83,65,71]:List UInt8).getD k 0] else F2 m k
theorem n5{m k:Nat}(hm:m<16)(hk:k<4):Wd (m:Int) k=m.testBit k:=by
 have h:m / 2^k≤m:=Nat.div_le_self _ _;have e:iAnd .i64 ((m / 2^k:Nat):Int) 1=((m / 2^k &&& 1:Nat):Int):=ny (b:=1) (by omega) (by omega);unfold Wd;rw[ox _ _ (by omega),e,Ck,Nat.and_one_is_mod,Nat.testBit_eq_decide_div_mod_eq];exact decide_eq_decide.2 (by omega)
theorem aW{m:Nat}(hm:m<16):∀ k,k≤4→fm (m:Int) k=F2 m k
 |0,_=>rfl
 | k+1,h=>by
   unfold fm F2
   rw[n5 hm (by omega),aW hm k (by omega)]
theorem Ug{m:Nat}(hm:m<16):BC (m:Int)=F2 m 4:=by
 rw[(T8 _).2.2.2];split
 · exact aW hm 4 (AP _)
 · have:m=0:=by omega
   subst this;rfl
theorem ni:∀ a,a<16→∀ b,b<16→F2 a 4=F2 b 4→a=b:=by decide
theorem fv{m:Nat}(hm:m<16):Dx (BC (m:Int))=(m:Int):=by
 rw[Ug hm,WB]
 have L:=Ja (c:=F5 (F2 m 4)) (f:=HA) (p:=fun _=>True) (if m=0 then 15 else m-1) (fun k=>(k:Int)+1) (x0:=1) rfl (fun k hk=>by
  have hk15:k+1<16:=by split at hk<;>omega
  have hne:k+1≠m:=by split at hk<;>omega
  have i1:iLe ((k:Int)+1) 15=true:=by rw[Cx];exact C4 (by omega)
  have e:BC ((k:Int)+1)=F2 (k+1) 4:=Ug (m:=k+1) hk15
  have i2:sEq (BC ((k:Int)+1)) (F2 m 4)=false:=by
   rw[e,BV]
   have:F2 (k+1) 4≠F2 m 4:=fun h=>hne (ni _ hk15 _ hm h)
   simpa using this
  refine⟨trivial,by simp only[F5,i1,i2,Bc,Bz];rfl,?_⟩;unfold HA
  rw[Cw (by unfold AD;omega)];simp) ⟨trivial,by
  by_cases h0:m=0
  · subst h0;simp only[F5,Bc,AB]
    have i1:iLe (((15:Nat):Int)+1) 15=false:=by rw[Cx];rfl
    rw[i1];rfl
  · simp only[F5,Bc,Ad h0]
    have e:((m-1:Nat):Int)+1=(m:Int):=by omega
    rw[e,Ug hm,BV,Bz];simp⟩
 rw[L.2,Cx,Bh];by_cases h0:m=0
 · subst h0;rfl
 · rw[Ad h0,Ab (C4 (by omega))];omega
theorem aP(m:Int):∀ k,k≤4→∀ b∈fm m k,b∈([67,83,65,71]:List UInt8)
 |0,_,b,hb=>by simp[fm] at hb
 | k + 1,h,b,hb=>by
   have i:=aP m k (by omega) b
   unfold fm at hb
   split at hb
   · rw[C5,List.mem_singleton] at hb
     rcases hb with h1|h1
     · exact i h1
     · rcases (show k=0∨k=1∨k=2∨k=3 by omega) with rfl|rfl|rfl|rfl<;>(subst h1;decide)
   · exact i hb
theorem Zw(m:Int):∀ b∈BC m,b∈([67,83,65,71]:List UInt8):=by
 rw[(T8 m).2.2.2];split
 · exact aP m 4 (AP _)
 · intro b hb;simp at hb
theorem Tz(k:Int):Bl k=[]∨(1≤k∧k≤56∧Bl k∈Cb):=by
 by_cases h:1≤k∧k≤56
 · obtain⟨j,rfl⟩:∃ j:Nat,k=(j:Int)+1:=⟨(k-1).toNat,by omega⟩;right;refine⟨h.1,h.2,?_⟩
   have hj:j<Cb.length:=by show j<56;omega
   rw[LB j (by omega),Ff,AG hj];exact D5 _
 · left;rw[PQ,HV]
   have e:(decide (1≤k)&&decide (k≤56))=false:=by
    rw[MB,CC,CC];omega
   simp only[Bz,Bc,Bh,D2,Cx,e];rfl
theorem kN(k:Int):∀ b∈Bl k,b ∉ ([32,45,47,58,61,124]:List UInt8):=by
 have key:∀ w∈Cb,∀ b∈w,b ∉ ([32,45,47,58,61,124]:List UInt8):=by decide
 rcases Tz k with h|⟨_,_,h⟩
 · rw[h];intro b hb;simp at hb
 · exact key _ h
end
section
set_option maxRecDepth 20000
abbrev Ez:=Int×Int×Int×Int
theorem LM(k c m n:Int)(h:Cj (k,c,m,n)=true) :
 ((k=0∨k=1∨k=10)∧c=0∧m=0∧n=0)∨(k=2∧n=0∧0≤c∧c≤56∧0≤m∧m≤15∧(c≠0∨m≠0))∨((k=3∨k=4)∧c=0∧m=0∧1≤n∧n≤3)∨((k=5∨k=9)∧c=0∧m=0∧0≤n∧n≤3) ∨
 (k=6∧n=0∧1≤c∧c≤56∧1≤m∧m≤15)∨(k=7∧m=0∧1≤c∧c≤56∧1≤n∧n≤3)∨(k=8∧c=0∧n=0∧1≤m∧m≤15):=by
 obtain⟨hk,_⟩:=QR k c m n h
 rw[SQ] at h
 simp only[HV,Bh,CP,Bc,Ck,D2,Cx] at h
 rcases (show k=0∨k=1∨k=2∨k=3∨k=4∨k=5∨k=6∨k=7∨k=8∨k=9∨k=10 by omega) with rfl|rfl|rfl|rfl|rfl|rfl|rfl|rfl|rfl|rfl|rfl<;>simp at h
 all_goals first|omega|(obtain⟨h1,h2⟩:=h;split at h2<;>omega)
theorem Qo(p t:List UInt8)(h:(p++t).length≤1048576):JP (p++t,p)∧Ef (p++t,p)=(t,true):=by
 rw[EO] at h
 have e1:JN (p++t,p)=true:=by
  rw[Wi,D2,A3,A3,BV,Jl,Bx,Bc];simp;omega
 have o1:MR (p++t,p):=by
  rw[Wh,D2,A3,A3,Bx];simp
 rw[Wu,Wt,Wj,Wg,e1,Bz,A3,Bx,O4,Jl,EN,AX];refine⟨⟨o1,fun h=>(by cases h),fun _=>⟨by omega,by simp,AP _⟩⟩,?_⟩;simp only[Df];rw[List.drop_left,Mn (by simp)]
theorem Tb(s p:List UInt8)(h:¬ p <+: s):JP (s,p)∧Ef (s,p)=(s,false):=by
 have e1:JN (s,p)=false:=by
  rw[Wi,D2,A3,A3,BV,Jl,Bx,Bc,MB,CC,L4];simp only[Df,Ms,Nat.sub_zero];by_cases hl:p.length≤s.length
  · right;intro e;exact h (e▸List.take_prefix _ _)
  · left;omega
 have o1:MR (s,p):=by
  rw[Wh,D2,A3,A3,Bx];simp only[BN,CC,Df];exact⟨fun h=>⟨by omega,by omega,by omega⟩,fun _=>trivial⟩
 rw[Wu,Wt,Wj,Wg,e1,Bz,Bool.not_false,A9];exact⟨⟨o1,fun _=>trivial,fun h=>(by cases h)⟩,rfl⟩
theorem XN(s p:List UInt8)(h:s.length≤1048576):JP (s,p):=by
 by_cases hp:p <+: s
 · obtain⟨t,rfl⟩:=hp;exact(Qo p t h).1
 · exact(Tb s p hp).1
theorem aS(s:List UInt8)(b:UInt8)(h:s.length≤1048576):JY (s,[b]):=by
 rcases Zt s b with h1|⟨x,y,rfl,h2⟩
 · exact(Rf s b h1).1
 · exact(Vu x y b h2 h).1
def wd(i:Nat):List UInt8:=([[109,111,58],[116,103,58],[116,111,58],[109,97,99,114,111,58]]:List (List UInt8)).getD i []
theorem Rj(i:Nat)(h:i<4):Nn (lGet [3,4,5,9] i 0)∧Gc (lGet [3,4,5,9] i 0)=wd i:=by
 rw[Xk,Xe,EJ];rcases (show i=0∨i=1∨i=2∨i=3 by omega) with rfl|rfl|rfl|rfl<;>simp only[Bh,Ck]<;>exact⟨by simp,rfl⟩
theorem Tm(s:List UInt8)(h:s.length≤1048576):LoopOk (EX s) FC (Px s) 0 ∧
 ∃ k:Nat,k≤4∧Bb (EX s) FC 0=(k:Int)∧(∀ j,j<k→¬ wd j <+: s)∧(k<4→wd k <+: s):=by
 have key:=N6 (c:=EX s) (f:=FC) (p:=Px s)
  (fun st=>∃ k:Nat,st=(k:Int)∧k≤4∧∀ j,j<k→¬ wd j <+: s) (fun st=>4-st.toNat) (fun st hI=>?_) (x0:=0) ⟨0,rfl,by decide,fun j hj=>absurd hj (by omega)⟩
 · obtain⟨k1,⟨k,e,h1,h2⟩,k2⟩:=key
   refine⟨k1,k,h1,e,h2,fun hk=>?_⟩;rw[e] at k2;simp only[EX,Bc,Bz,BO,A3,Bx,Df] at k2;rw[(Rj k hk).2] at k2;apply Classical.byContradiction;intro hn;rw[(Tb s _ hn).2] at k2;simp at k2;omega
 · obtain⟨k,rfl,h1,h2⟩:=hI
   simp only[EX,FC,Px,Bc,Bz,BO,A3,Bx,Df];have hl:(([3,4,5,9]:List Int).length:Int)=4:=rfl;have hl':([3,4,5,9]:List Int).length=4:=rfl;rw[hl];refine⟨⟨fun hk=>?_,fun _=>trivial⟩,fun hc=>?_⟩
   · have hk:k<4:=by simp only[BN] at hk;omega
     obtain⟨w1,w2⟩:=Rj k hk;rw[w2];exact⟨⟨by omega,by omega⟩,by omega,w1,XN _ _ h,fun _=>(S6 _).1,fun _=>trivial⟩
   · rw[Ak,BN] at hc;obtain⟨hk,hc⟩:=hc
     have hk:k<4:=by omega
     rw[Cw (by unfold AD;omega)];refine⟨⟨k+1,by omega,by omega,fun j hj=>?_⟩,by omega⟩;by_cases hjk:j<k
     · exact h2 j hjk
     · have:j=k:=by omega
       subst this;rintro⟨t,rfl⟩;rw[(Rj j hk).2,(Qo _ t h).2] at hc;cases hc
theorem mB(s:List UInt8)(h:s.length≤1048576):PD s:=by
 rw[dc]
 have pm:∀ x,IF x:=fun x=>(J3 x).2.1
 have co:∀ x,HO x:=fun x=>(Ka x).2.1
 have pi:∀ x,JS x:=fun x=>(S6 x).1
 exact⟨fun _=>trivial,fun _=>⟨fun _=>trivial,fun _=>⟨fun _=>trivial,fun _=>⟨(Tm s h).1,fun _=>trivial,fun _=>⟨XN _ _ h,fun _=>pm _,fun _=>⟨aS _ _ h,
  fun _=>⟨pi _,fun _=>co _,fun _=>⟨pm _,co _⟩⟩,fun _=>⟨aS _ _ h,fun _=>⟨pm _,co _⟩,fun _=>co _⟩⟩⟩⟩⟩⟩⟩
theorem fV(s:List UInt8)(h:s.length≤1048576):K6 s:=by
 rw[c8];exact⟨mB s h,M3 _,fun _=>trivial,fun _=>(Lc _).2.1⟩
def JA:List UInt8:=[110,111,110,101]
def Ho:List UInt8:=[112,97,115,115]
def FX:List UInt8:=[99,97,112,115]
theorem QY(i:Nat)(h:i<4):(58:UInt8)∈wd i:=by
 rcases (show i=0∨i=1∨i=2∨i=3 by omega) with rfl|rfl|rfl|rfl<;>decide
theorem YR(s:List UInt8)(h:s.length≤1048576)(hc:∀ j,j<4→¬ wd j <+: s):Bb (EX s) FC 0=4:=by
 obtain⟨_,k,k1,k2,_,k4⟩:=Tm s h;rw[k2];rcases A0 k 4 with hk|hk
 · exact absurd (k4 hk) (hc k hk)
 · have:k=4:=by omega
   subst this;rfl
theorem km(s:List UInt8)(h:s.length≤1048576)(i:Nat)(hi:i<4)(h1:wd i <+: s)(h2:∀ j,j<i→¬ wd j <+: s):Bb (EX s) FC 0=(i:Int):=by
 obtain⟨_,k,k1,k2,k3,k4⟩:=Tm s h;rw[k2]
 have:k=i:=by
  rcases Nat.lt_trichotomy k i with hk|hk|hk
  · exact absurd (k4 (by omega)) (h2 k hk)
  · exact hk
  · exact absurd h1 (k3 i hk)
 rw[this]
theorem YP{s p:List UInt8}{b:UInt8}(h1:b∈p)(h2:b ∉ s):¬ p <+: s:=fun h=>h2 (h.subset h1)
theorem B3{a b:List UInt8}(h:a≠b):sEq a b=false:=by rw[BV];exact L4.2 h
theorem Tx(s:List UInt8)(h:s.length≤1048576)(h58:(58:UInt8) ∉ s)(n1:s≠JA)(n2:s≠Ho)(n3:s≠FX) :
 C6 s=(bSel (Bv (s,[(47:UInt8)])).2.2 (bSel (FG (Bv (s,[(47:UInt8)])).1).2 (7,(Ej (Bv (s,[(47:UInt8)])).2.1),0,(FG (Bv (s,[(47:UInt8)])).1).1) (6,(Ej (Bv (s,[(47:UInt8)])).2.1),(GQ (Bv (s,[(47:UInt8)])).1),0)) (bSel (Bv (s,[(45:UInt8)])).2.2 (2,(Ej (Bv (s,[(45:UInt8)])).2.1),(GQ (Bv (s,[(45:UInt8)])).1),0) (2,(Ej s),0,0))):=by
 have e1:sEq s [(110:UInt8),111,110,101]=false:=B3 n1
 have e2:sEq s [(112:UInt8),97,115,115]=false:=B3 n2
 have e3:sEq s [(99:UInt8),97,112,115]=false:=B3 n3
 have e4:=YR s h (fun j hj=>YP (QY j hj) h58)
 have e5:(Ef (s,[(111:UInt8),110,99,101,58])).2=false:=by rw[(Tb s _ (YP (b:=58) (by decide) h58)).2]
 have e6:iLt 4 (lLen [(3:Int),4,5,9])=false:=by rw[BO,A3];rfl
 rw[K7,e1,e2,e3,e4,e5,e6]
 simp only[AX]
theorem Cc{s t:List UInt8}{b:UInt8}(h1:b∈s)(h2:b ∉ t):s≠t:=fun e=>h2 (e▸h1)
theorem XO(x y:List UInt8)(h:(x++47::y).length≤1048576)(h58:(58:UInt8) ∉ x++47::y)(h47:(47:UInt8) ∉ x) :
 C6 (x++47::y)=bSel (Bs x).2 (7,Cf y,0,(Bs x).1) (6,Cf y,Dx x,0):=by
 have hm:(47:UInt8)∈x++47::y:=by simp
 rw[Tx _ h h58 (Cc hm (by decide)) (Cc hm (by decide)) (Cc hm (by decide)),(Vu x y 47 h47 h).2,A9]
 simp only[(XD x).2.2,(Ka y).2.2,(J3 x).2.2]
theorem jT(x y:List UInt8)(h:(x++45::y).length≤1048576)(h58:(58:UInt8) ∉ x++45::y)(h47:(47:UInt8) ∉ x++45::y)(h45:(45:UInt8) ∉ x) :
 C6 (x++45::y)=(2,Cf y,Dx x,0):=by
 have hm:(45:UInt8)∈x++45::y:=by simp
 rw[Tx _ h h58 (Cc hm (by decide)) (Cc hm (by decide)) (Cc hm (by decide)),(Rf _ 47 h47).2,AX,(Vu x y 45 h45 h).2,A9]
 simp only[(Ka y).2.2,(J3 x).2.2]
theorem iU(s:List UInt8)(h:s.length≤1048576)(h58:(58:UInt8) ∉ s)(h47:(47:UInt8) ∉ s)(h45:(45:UInt8) ∉ s)(n1:s≠JA)(n2:s≠Ho)(n3:s≠FX) :
 C6 s=(2,Cf s,0,0):=by
 rw[Tx s h h58 n1 n2 n3,(Rf _ 47 h47).2,AX,(Rf _ 45 h45).2,AX,(Ka s).2.2]
theorem j0(i:Nat)(hi:i<4)(t:List UInt8)(h:(wd i++t).length≤1048576):C6 (wd i++t)=(([3,4,5,9]:List Int).getD i 0,0,0,(Bs t).1):=by
 have hm:(58:UInt8)∈wd i++t:=by rw[C5];exact .inl (QY i hi)
 have e1:sEq (wd i++t) [(110:UInt8),111,110,101]=false:=B3 (Cc hm (by decide));have e2:sEq (wd i++t) [(112:UInt8),97,115,115]=false:=B3 (Cc hm (by decide));have e3:sEq (wd i++t) [(99:UInt8),97,112,115]=false:=B3 (Cc hm (by decide))
 have e4:=km (wd i++t) h i hi ⟨t,rfl⟩ (fun j hj hp=>by
  rcases (show i=0∨i=1∨i=2∨i=3 by omega) with rfl|rfl|rfl|rfl
  · omega
  · have:j=0:=by omega
    subst this;simp[wd] at hp
  · rcases (show j=0∨j=1 by omega) with rfl|rfl<;>simp[wd] at hp
  · rcases (show j=0∨j=1∨j=2 by omega) with rfl|rfl|rfl<;>simp[wd] at hp)
 have e6:iLt (i:Int) (lLen [(3:Int),4,5,9])=true:=by rw[BO,A3];exact C4 (by show (i:Int)<4;omega)
 rw[K7,e1,e2,e3,e4,e6,Bx,Df,(Rj i hi).2,(Qo (wd i) t h).2,A9];simp only[AX,EJ,(XD t).2.2]
theorem jK(t:List UInt8)(h:([111,110,99,101,58]++t:List UInt8).length≤1048576):C6 ([111,110,99,101,58]++t)=(8,0,Dx t,0):=by
 have hm:(58:UInt8)∈([111,110,99,101,58]++t:List UInt8):=by simp
 have e1:sEq ([111,110,99,101,58]++t) [(110:UInt8),111,110,101]=false:=B3 (Cc hm (by decide));have e2:sEq ([111,110,99,101,58]++t) [(112:UInt8),97,115,115]=false:=B3 (Cc hm (by decide));have e3:sEq ([111,110,99,101,58]++t) [(99:UInt8),97,112,115]=false:=B3 (Cc hm (by decide))
 have e4:=YR ([111,110,99,101,58]++t) h (fun j hj hp=>by
  rcases (show j=0∨j=1∨j=2∨j=3 by omega) with rfl|rfl|rfl|rfl<;>simp[wd] at hp)
 have e6:iLt 4 (lLen [(3:Int),4,5,9])=false:=by rw[BO,A3];rfl
 rw[K7,e1,e2,e3,e4,e6,(Qo [111,110,99,101,58] t h).2,A9];simp only[AX,(J3 t).2.2]
theorem Zc(m:Int):Bs (BC m)=(0,false):=by
 rcases (Qe (BC m)).2 with⟨h,_⟩|⟨n,n1,n2,_⟩
 · exact h
 · obtain⟨l1,_⟩:=L9 9 n.natAbs n1 (by decide);exfalso
   cases hl:Lib.decDigits n.natAbs with
   |nil=>rw[hl] at l1;simp at l1
   | cons b r=>
     have hb:=N4 9 n.natAbs n1 b (by rw[hl];simp)
     have hm:b∈BC m:=by
      rw[← n2];unfold Lib.itoa;split
      · rw[hl];simp
      · rw[show n.toNat=n.natAbs by omega,hl];simp
     have:=Zw m b hm;simp only[BW,List.not_mem_nil,or_false] at this;rcases this with rfl|rfl|rfl|rfl<;>exact absurd hb.2 (by decide)
theorem Qy(n:Int)(h:n.natAbs<10^9):Bs (Lib.itoa n)=(n,true):=by
 rcases (Qe (Lib.itoa n)).2 with⟨_,h2⟩|⟨k,k1,k2,k3⟩
 · exact absurd rfl (h2 n h)
 · rw[k3,Zu k1 h k2]
theorem TV(k c m n:Int)(h:Cj (k,c,m,n)=true) :
 (k=0∧BB (k,c,m,n)=JA)∨(k=1∧BB (k,c,m,n)=Ho)∨(k=10∧BB (k,c,m,n)=FX) ∨
 (k=2∧m=0∧BB (k,c,m,n)=Bl c)∨(k=2∧m≠0∧BB (k,c,m,n)=BC m++45::Bl c) ∨
 (∃ i,i<4∧k=([3,4,5,9]:List Int).getD i 0∧BB (k,c,m,n)=wd i++Lib.itoa n) ∨
 (k=6∧BB (k,c,m,n)=BC m++47::Bl c)∨(k=7∧BB (k,c,m,n)=Lib.itoa n++47::Bl c)∨(k=8∧BB (k,c,m,n)=[111,110,99,101,58]++BC m):=by
 obtain⟨hk,hn⟩:=QR k c m n h
 rw[SK,h,Bz]
 have hi:k=3∨k=4∨k=5∨k=7∨k=9→CV n=Lib.itoa n:=fun hk=>(Xd n (by have:=hn hk;omega)).2
 simp only[EN,AX,Ck,Bh,Jn]
 rcases (show k=0∨k=1∨k=2∨k=3∨k=4∨k=5∨k=6∨k=7∨k=8∨k=9∨k=10 by omega) with rfl|rfl|rfl|rfl|rfl|rfl|rfl|rfl|rfl|rfl|rfl
 · exact .inl ⟨rfl,by simp[JA]⟩
 · exact .inr (.inl ⟨rfl,by simp[Ho]⟩)
 · by_cases hm:m=0
   · exact .inr (.inr (.inr (.inl ⟨rfl,hm,by simp[hm]⟩)))
   · exact .inr (.inr (.inr (.inr (.inl ⟨rfl,hm,by simp[hm]⟩))))
 · exact .inr (.inr (.inr (.inr (.inr (.inl ⟨0,by decide,rfl,by rw[hi (by omega)];simp[wd]⟩)))))
 · exact .inr (.inr (.inr (.inr (.inr (.inl ⟨1,by decide,rfl,by rw[hi (by omega)];simp[wd]⟩)))))
 · exact .inr (.inr (.inr (.inr (.inr (.inl ⟨2,by decide,rfl,by rw[hi (by omega)];simp[wd]⟩)))))
 · exact .inr (.inr (.inr (.inr (.inr (.inr (.inl ⟨rfl,by simp⟩))))))
 · exact .inr (.inr (.inr (.inr (.inr (.inr (.inr (.inl ⟨rfl,by rw[hi (by omega)];simp⟩)))))))
 · exact .inr (.inr (.inr (.inr (.inr (.inr (.inr (.inr ⟨rfl,by simp⟩)))))))
 · exact .inr (.inr (.inr (.inr (.inr (.inl ⟨3,by decide,rfl,by rw[hi (by omega)];simp[wd]⟩)))))
 · exact .inr (.inr (.inl ⟨rfl,by simp[FX]⟩))
end
section
set_option maxRecDepth 20000
theorem UG(a:Ez):(BB a).length≤20:=(Lc a).2.2.2
theorem Dz{b:UInt8}(hb:b∈([32,45,47,58,61,124]:List UInt8))(k:Int):b ∉ Bl k:=fun h=>kN k b h hb
theorem Gg{b:UInt8}(hb:b ∉ ([67,83,65,71]:List UInt8))(m:Int):b ∉ BC m:=fun h=>hb (Zw m b h)
theorem N5{b:UInt8}(hb:b.toNat<48∨57<b.toNat)(n:Int)(h0:0≤n)(h1:n≤3):b ∉ Lib.itoa n:=fun h=>by
 unfold Lib.itoa at h
 rw[Ad (by omega)] at h
 have:=N4 9 n.toNat (by omega) b h
 omega
theorem UE(c:Int)(h1:1≤c)(h2:c≤56):Bl c≠[]∧Bl c≠JA∧Bl c≠Ho∧Bl c≠FX:=by
 have key:∀ w∈Cb,w≠[]∧w≠JA∧w≠Ho∧w≠FX:=by decide
 have hb:=Gf c (by omega) h2;rcases Tz c with h|⟨_,_,h⟩
 · exfalso;have h0:=Gf 0 (by decide) (by decide)
   have e:Bl 0=[]:=by
    rcases Tz 0 with h|⟨h,_⟩
    · exact h
    · omega
   rw[e] at h0;rw[h,h0] at hb;omega
 · exact key _ h
theorem oU(a:Ez)(h:Cj a=true):BB a≠[]:=by
 obtain⟨k,c,m,n⟩:=a;have hc:=LM k c m n h;rcases TV k c m n h with⟨_,e⟩|⟨_,e⟩|⟨_,e⟩|⟨h1,h2,e⟩|⟨_,_,e⟩|⟨i,hi,_,e⟩|⟨_,e⟩|⟨_,e⟩|⟨_,e⟩<;>rw[e]
 · decide
 · decide
 · decide
 · exact(UE c (by omega) (by omega)).1
 · simp
 · have:=QY i hi;intro h0;have:wd i=[]:=(List.append_eq_nil_iff.1 h0).1;rw[this] at *;simp_all
 · simp
 · simp
 · simp
theorem Kq(m:Int)(h0:0≤m)(h1:m≤15):Dx (BC m)=m:=by
 obtain⟨k,rfl⟩:∃ k:Nat,m=k:=⟨m.toNat,by omega⟩;exact fv (by omega)
theorem Jq{b:UInt8}{x y:List UInt8}(c:UInt8)(h1:b ∉ x)(h2:b≠c)(h3:b ∉ y):b ∉ x++c::y:=by
 simp[h1,h2,h3]
theorem Tu(a:Ez)(h:Cj a=true):C6 (BB a)=a:=by
 obtain⟨k,c,m,n⟩:=a;have hc:=LM k c m n h;have hl:(BB (k,c,m,n)).length≤1048576:=Gu (UG _) (by decide);rcases TV k c m n h with⟨h1,e⟩|⟨h1,e⟩|⟨h1,e⟩|⟨h1,h2,e⟩|⟨h1,h2,e⟩|⟨i,hi,h1,e⟩|⟨h1,e⟩|⟨h1,e⟩|⟨h1,e⟩<;>rw[e] at hl ⊢
 · have e1:sEq JA [(110:UInt8),111,110,101]=true:=by rw[BV];rfl
   obtain⟨rfl,rfl,rfl⟩:c=0∧m=0∧n=0:=by omega
   rw[K7,e1,A9,h1]
 · have e1:sEq Ho [(110:UInt8),111,110,101]=false:=by rw[BV];rfl
   have e2:sEq Ho [(112:UInt8),97,115,115]=true:=by rw[BV];rfl
   obtain⟨rfl,rfl,rfl⟩:c=0∧m=0∧n=0:=by omega
   rw[K7,e1,e2,AX,A9,h1]
 · have e1:sEq FX [(110:UInt8),111,110,101]=false:=by rw[BV];rfl
   have e2:sEq FX [(112:UInt8),97,115,115]=false:=by rw[BV];rfl
   have e3:sEq FX [(99:UInt8),97,112,115]=true:=by rw[BV];rfl
   obtain⟨rfl,rfl,rfl⟩:c=0∧m=0∧n=0:=by omega
   rw[K7,e1,e2,e3,AX,AX,A9,h1]
 · obtain⟨q1,q2,q3,q4⟩:=UE c (by omega) (by omega);rw[iU _ hl (Dz (by decide) c) (Dz (by decide) c) (Dz (by decide) c) q2 q3 q4,Gf c (by omega) (by omega)]
   obtain rfl:n=0:=by omega
   rw[h1,h2]
 · rw[jT _ _ hl (Jq 45 (Gg (by decide) m) (by decide) (Dz (by decide) c)) (Jq 45 (Gg (by decide) m) (by decide) (Dz (by decide) c)) (Gg (by decide) m),Gf c (by omega) (by omega),Kq m (by omega) (by omega)]
   obtain rfl:n=0:=by omega
   rw[h1]
 · have hk:c=0∧m=0∧0≤n∧n≤3:=by
    rcases (show i=0∨i=1∨i=2∨i=3 by omega) with rfl|rfl|rfl|rfl<;>(have h1:k=_:=h1;simp at h1;omega)
   obtain⟨rfl,rfl,h3,h4⟩:=hk;rw[j0 i hi _ hl,Qy n (by omega),← h1]
 · rw[XO _ _ hl (Jq 47 (Gg (by decide) m) (by decide) (Dz (by decide) c)) (Gg (by decide) m),Zc,AX,Gf c (by omega) (by omega),Kq m (by omega) (by omega)]
   obtain rfl:n=0:=by omega
   rw[h1]
 · rw[XO _ _ hl (Jq 47 (N5 (by decide) n (by omega) (by omega)) (by decide) (Dz (by decide) c)) (N5 (by decide) n (by omega) (by omega)),Qy n (by omega),A9,Gf c (by omega) (by omega)]
   obtain rfl:m=0:=by omega
   rw[h1]
 · rw[jK _ hl,Kq m (by omega) (by omega)]
   obtain⟨rfl,rfl⟩:c=0∧n=0:=by omega
   rw[h1]
def gS(x:List UInt8):Ez:=
 bSel (sEq x [(110:UInt8),111,110,101]) (0,0,0,0) (bSel (sEq x [(112:UInt8),97,115,115]) (1,0,0,0) (bSel (sEq x [(99:UInt8),97,112,115]) (10,0,0,0)
 (bSel (iEq (lLen (Am (x,58))) 2) (DR (8,(lGet (Am (x,58)) (iNat 0) []),(lGet (Am (x,58)) (iNat 1) [])))
 (bSel (iEq (lLen (Am (x,47))) 2) (bSel (Bs (lGet (Am (x,47)) (iNat 0) [])).2 (7,Cf (lGet (Am (x,47)) (iNat 1) []),0,(Bs (lGet (Am (x,47)) (iNat 0) [])).1) (6,Cf (lGet (Am (x,47)) (iNat 1) []),Dx (lGet (Am (x,47)) (iNat 0) []),0))
 (bSel (iEq (lLen (Am (x,45))) 2) (2,Cf (lGet (Am (x,45)) (iNat 1) []),Dx (lGet (Am (x,45)) (iNat 0) []),0) (2,Cf x,0,0))))))
theorem lK(x:List UInt8):K8 x=bSel (bOr (sEq x []) (sNe (BB (gS x)) x)) ((0,0,0,0),false) (gS x,true):=by
 rw[df];unfold gS;generalize sEq x [(110:UInt8),111,110,101]=b1;generalize sEq x [(112:UInt8),97,115,115]=b2;generalize sEq x [(99:UInt8),97,112,115]=b3;generalize iEq (lLen (Am (x,58))) 2=b4;generalize iEq (lLen (Am (x,47))) 2=b5;generalize iEq (lLen (Am (x,45))) 2=b6;generalize Bs (lGet (Am (x,47)) (iNat 0) [])=b7;obtain⟨n7,b7⟩:=b7;cases b1
 · cases b2
   · cases b3
     · cases b4
       · cases b5
         · cases b6<;>simp only[AX,A9]
         · cases b7<;>simp only[AX,A9]
       · simp only[AX,A9]
     · simp only[AX,A9]
   · simp only[AX,A9]
 · simp only[A9]
theorem VR{y c:UInt8}(h:y≠c):((y.toNat:Nat):Int)≠((c.toNat:Nat):Int):=fun e=>h (UInt8.toNat_inj.1 (by omega))
theorem J8{x:List UInt8}(c:UInt8)(h:c ∉ x)(hl:x.length≤1048576):Am (x,(c.toNat:Int))=[x]:=by
 rw[(QS x _ hl).2]
 exact Qr x _ fun b hb=>VR (c:=c) fun e=>h (e▸hb)
theorem NT{x y:List UInt8}(c:UInt8)(h1:c ∉ x)(h2:c ∉ y)(hl:(x++c::y).length≤1048576):Am (x++c::y,(c.toNat:Int))=[x,y]:=by
 rw[(QS _ _ hl).2,TE x c y _ (fun b hb=>VR (c:=c) fun e=>h1 (e▸hb)) rfl,Qr y _ fun b hb=>VR (c:=c) fun e=>h2 (e▸hb)]
theorem n1(a:List UInt8):iEq (lLen [a]) 2=false:=by rw[Ck,A3];rfl
theorem n2(a b:List UInt8):iEq (lLen [a,b]) 2=true:=by rw[Ck,A3];rfl
theorem g0(a b:List UInt8):lGet [a,b] (iNat 0) []=a:=by rw[EJ,Bx];rfl
theorem g1(a b:List UInt8):lGet [a,b] (iNat 1) []=b:=by rw[EJ,Bx];rfl
theorem nP(a:Ez)(h:Cj a=true):gS (BB a)=a:=by
 obtain⟨k,c,m,n⟩:=a;have hc:=LM k c m n h;have hl:(BB (k,c,m,n)).length≤1048576:=Gu (UG _) (by decide);rcases TV k c m n h with⟨h1,e⟩|⟨h1,e⟩|⟨h1,e⟩|⟨h1,h2,e⟩|⟨h1,h2,e⟩|⟨i,hi,h1,e⟩|⟨h1,e⟩|⟨h1,e⟩|⟨h1,e⟩<;>rw[e] at hl ⊢<;>unfold gS
 · have e1:sEq JA [(110:UInt8),111,110,101]=true:=by rw[BV];rfl
   obtain⟨rfl,rfl,rfl⟩:c=0∧m=0∧n=0:=by omega
   rw[e1,A9,h1]
 · have e1:sEq Ho [(110:UInt8),111,110,101]=false:=by rw[BV];rfl
   have e2:sEq Ho [(112:UInt8),97,115,115]=true:=by rw[BV];rfl
   obtain⟨rfl,rfl,rfl⟩:c=0∧m=0∧n=0:=by omega
   rw[e1,e2,AX,A9,h1]
 · have e1:sEq FX [(110:UInt8),111,110,101]=false:=by rw[BV];rfl
   have e2:sEq FX [(112:UInt8),97,115,115]=false:=by rw[BV];rfl
   have e3:sEq FX [(99:UInt8),97,112,115]=true:=by rw[BV];rfl
   obtain⟨rfl,rfl,rfl⟩:c=0∧m=0∧n=0:=by omega
   rw[e1,e2,e3,AX,AX,A9,h1]
 · obtain⟨q1,q2,q3,q4⟩:=UE c (by omega) (by omega);have s1:=J8 58 (Dz (by decide) c) hl;have s2:=J8 47 (Dz (by decide) c) hl;have s3:=J8 45 (Dz (by decide) c) hl;have q2:sEq (Bl c) [(110:UInt8),111,110,101]=false:=B3 q2;have q3:sEq (Bl c) [(112:UInt8),97,115,115]=false:=B3 q3;have q4:sEq (Bl c) [(99:UInt8),97,112,115]=false:=B3 q4;rw[q2,q3,q4,show (58:Int)=((58:UInt8).toNat:Int) from rfl,s1,show (47:Int)=((47:UInt8).toNat:Int) from rfl,s2,show (45:Int)=((45:UInt8).toNat:Int) from rfl,s3];simp only[n1,AX]
   obtain rfl:n=0:=by omega
   rw[Gf c (by omega) (by omega),h1,h2]
 · have hm:(45:UInt8)∈BC m++45::Bl c:=by simp
   have s1:=J8 58 (Jq 45 (Gg (by decide) m) (by decide) (Dz (by decide) c)) hl;have s2:=J8 47 (Jq 45 (Gg (by decide) m) (by decide) (Dz (by decide) c)) hl;have s3:=NT 45 (Gg (by decide) m) (Dz (by decide) c) hl;rw[B3 (Cc hm (by decide)),B3 (Cc hm (by decide)),B3 (Cc hm (by decide)),show (58:Int)=((58:UInt8).toNat:Int) from rfl,s1,show (47:Int)=((47:UInt8).toNat:Int) from rfl,s2,show (45:Int)=((45:UInt8).toNat:Int) from rfl,s3];simp only[n1,n2,g0,g1,AX,A9]
   obtain rfl:n=0:=by omega
   rw[Gf c (by omega) (by omega),Kq m (by omega) (by omega),h1]
 · have hk:c=0∧m=0∧0≤n∧n≤3:=by
    rcases (show i=0∨i=1∨i=2∨i=3 by omega) with rfl|rfl|rfl|rfl<;>(have h1:k=_:=h1;simp at h1;omega)
   obtain⟨rfl,rfl,h3,h4⟩:=hk
   have hm:(58:UInt8)∈wd i++Lib.itoa n:=by rw[C5];exact .inl (QY i hi)
   obtain⟨w,hw,hw2,hw3⟩:∃ w,wd i=w++[58]∧(58:UInt8) ∉ w∧∀ t,DR (8,w,t)=(([3,4,5,9]:List Int).getD i 0,0,0,(Bs t).1):=by
    rcases (show i=0∨i=1∨i=2∨i=3 by omega) with rfl|rfl|rfl|rfl
    · exact⟨[109,111],rfl,by decide,fun t=>by rw[Nl];simp only[BV,Bh];rfl⟩
    · exact⟨[116,103],rfl,by decide,fun t=>by rw[Nl];simp only[BV,Bh];rfl⟩
    · exact⟨[116,111],rfl,by decide,fun t=>by rw[Nl];simp only[BV,Bh];rfl⟩
    · exact⟨[109,97,99,114,111],rfl,by decide,fun t=>by rw[Nl];simp only[BV,Bh];rfl⟩
   have e0:wd i++Lib.itoa n=w++58::Lib.itoa n:=by rw[hw];simp
   have s1:=NT 58 hw2 (N5 (by decide) n h3 h4) (by rw[← e0];exact hl);rw[B3 (Cc hm (by decide)),B3 (Cc hm (by decide)),B3 (Cc hm (by decide)),e0,show (58:Int)=((58:UInt8).toNat:Int) from rfl,s1];simp only[n2,g0,g1,AX,A9,hw3,Qy n (show n.natAbs<10^9 by omega)];rw[← h1]
 · have hm:(47:UInt8)∈BC m++47::Bl c:=by simp
   have s1:=J8 58 (Jq 47 (Gg (by decide) m) (by decide) (Dz (by decide) c)) hl;have s2:=NT 47 (Gg (by decide) m) (Dz (by decide) c) hl;rw[B3 (Cc hm (by decide)),B3 (Cc hm (by decide)),B3 (Cc hm (by decide)),show (58:Int)=((58:UInt8).toNat:Int) from rfl,s1,show (47:Int)=((47:UInt8).toNat:Int) from rfl,s2];simp only[n1,n2,g0,g1,AX,A9,Zc]
   obtain rfl:n=0:=by omega
   rw[Gf c (by omega) (by omega),Kq m (by omega) (by omega),h1]
 · have hm:(47:UInt8)∈Lib.itoa n++47::Bl c:=by simp
   have s1:=J8 58 (Jq 47 (N5 (by decide) n (by omega) (by omega)) (by decide) (Dz (by decide) c)) hl;have s2:=NT 47 (N5 (by decide) n (by omega) (by omega)) (Dz (by decide) c) hl;rw[B3 (Cc hm (by decide)),B3 (Cc hm (by decide)),B3 (Cc hm (by decide)),show (58:Int)=((58:UInt8).toNat:Int) from rfl,s1,show (47:Int)=((47:UInt8).toNat:Int) from rfl,s2];simp only[n1,n2,g0,g1,AX,A9,Qy n (show n.natAbs<10^9 by omega)]
   obtain rfl:m=0:=by omega
   rw[Gf c (by omega) (by omega),h1]
 · have hm:(58:UInt8)∈([111,110,99,101,58]++BC m:List UInt8):=by simp
   have e0:([111,110,99,101,58]++BC m:List UInt8)=[111,110,99,101]++58::BC m:=rfl;have s1:=NT (x:=[111,110,99,101]) 58 (by decide) (Gg (b:=58) (by decide) m) (by rw[← e0];exact hl);rw[B3 (Cc hm (by decide)),B3 (Cc hm (by decide)),B3 (Cc hm (by decide)),e0,show (58:Int)=((58:UInt8).toNat:Int) from rfl,s1];simp only[n2,g0,g1,AX,A9]
   obtain⟨rfl,rfl⟩:c=0∧n=0:=by omega
   rw[Nl];simp only[BV,Bh,Kq m (by omega) (by omega)];rw[h1];rfl
theorem ng(a:Ez)(h:Cj a=false):BB a=[]:=by
 rw[SK,h,Bz,Bool.not_false,A9]
theorem eQ(s:List UInt8)(h:s.length≤1048576):PE s:=by
 have pm:∀ x,JR x:=fun x=>(J3 x).1
 have co:∀ x,IY x:=fun x=>(Ka x).1
 have pi:∀ x,JW x:=fun x=>(Qe x).1
 have fa:∀ x,MV x:=fun x=>(Lc x).1
 have sp:∀ c:Int,IE (s,c):=fun c=>(QS s c h).1
 have l5:∀ x,PW x:=fun x=>by
  rw[fT];exact⟨pi _,fun _=>trivial,fun _=>⟨fun _=>trivial,fun _=>⟨fun _=>trivial,fun _=>⟨fun _=>trivial,fun _=>pm _⟩⟩⟩⟩
 have two:∀ l:List (List UInt8),iEq (lLen l) 2=true→l.length=2:=fun l hl=>by
  rw[Ck,A3,BN] at hl;omega
 rw[dr];refine⟨co _,sp _,sp _,sp _,⟨fun _=>trivial,fun _=>⟨fun _=>trivial,fun _=>⟨fun _=>trivial,fun _=>⟨fun hl=>?_,fun _=>⟨fun hl=>?_,fun _=>⟨fun hl=>?_,fun _=>trivial⟩⟩⟩⟩⟩⟩,fun _=>trivial,fun _=>fa _⟩
 · have:=two _ hl;simp only[Bx];exact⟨⟨by omega,by omega⟩,by show 0<_;omega,⟨by omega,by omega⟩,by show 1<_;omega,l5 _⟩
 · have:=two _ hl;simp only[Bx];exact⟨⟨by omega,by omega⟩,by show 0<_;omega,pi _,⟨by omega,by omega⟩,by show 1<_;omega,⟨by omega,by omega⟩,by show 0<_;omega,co _,pm _,fun _=>⟨⟨by omega,by omega⟩,by show 1<_;omega,co _⟩,fun _=>trivial⟩
 · have:=two _ hl;simp only[Bx];exact⟨⟨by omega,by omega⟩,by show 1<_;omega,⟨by omega,by omega⟩,by show 0<_;omega,co _,pm _⟩
theorem eK(s:List UInt8)(h:s.length≤1048576):PE s∧K6 s∧BZ s=K8 s ∧
 ((∃ a:Ez,Cj a=true∧BB a=s∧K8 s=(a,true))∨((∀ a:Ez,Cj a=true→BB a≠s)∧K8 s=((0,0,0,0),false))):=by
 refine⟨eQ s h,fV s h,?_⟩
 rw[lK,dk,← HZ,(Lc _).2.2.1]
 by_cases hx:∃ a:Ez,Cj a=true∧BB a=s
 · obtain⟨a,a1,rfl⟩:=hx
   have e1:sEq (BB a) []=false:=B3 (oU a a1)
   have e2:sNe (BB a) (BB a)=false:=by rw[Mq];simp
   rw[nP a a1,Tu a a1,a1,e1,e2,Bz,CP,CP,EN,Bool.or_false,AX];exact⟨rfl,.inl ⟨a,a1,rfl,rfl⟩⟩
 · have no:∀ a:Ez,Cj a=true→BB a≠s:=fun a h1 h2=>hx ⟨a,h1,h2⟩
   have e1:bOr (sEq s []) (sNe (BB (gS s)) s)=true:=by
    rw[CP,BV,Mq];by_cases hs:s=[]
    · subst hs;rfl
    · have:BB (gS s)≠s:=by
       cases hv:Cj (gS s) with
       |true=>exact no _ hv
       |false=>rw[ng _ hv];exact Fc hs
      simp[this]
   have e2:bOr (bNot (Cj (C6 s))) (sNe (BB (C6 s)) s)=true:=by
    rw[CP,Bz,Mq]
    cases hv:Cj (C6 s) with
    |true=>simp[no _ hv]
    |false=>rfl
   rw[e1,e2,A9,A9];exact⟨rfl,.inr ⟨no,rfl⟩⟩
end
def CH(c:List Int×Int×Int):Prop:=0≤c.2.1∧c.2.1≤c.1.length∧c.1.length≤1048576
theorem RG(x:Int):0≤iAnd .i64 x 255∧iAnd .i64 x 255≤255:=by
 rw[VC]
 have h:(BitVec.ofInt IntKind.i64.bits x &&& BitVec.ofInt IntKind.i64.bits 255).toNat≤255:=by
  rw[BitVec.toNat_and];exact Nat.and_le_right
 have:IntKind.i64.wrap ((BitVec.ofInt IntKind.i64.bits x &&& BitVec.ofInt IntKind.i64.bits 255).toNat:Int)=((BitVec.ofInt IntKind.i64.bits x &&& BitVec.ofInt IntKind.i64.bits 255).toNat:Int):=GW (by unfold AD;omega);rw[this];omega
theorem Rl(c:List Int×Int×Int)(h:CH c):GR c∧0≤(Bg c).1∧(Bg c).1≤255∧CH (c.1,(Bg c).2):=by
 obtain⟨h1,h2,h3⟩:=h;rw[fQ,fA];simp only[Bh,BO,A3,Bx,BN,CC];refine⟨⟨by omega,by omega,fun _=>by omega,fun _=>trivial⟩,?_,?_,?_⟩
 · split
   · exact(RG _).1
   · exact(RG _).1
 · split
   · exact(RG _).2
   · exact(RG _).2
 · unfold CH;simp only;split
   · rw[Cw (by unfold AD;omega)];omega
   · omega
theorem I9(c:List Int×Int×Int)(n:Int)(h:CH c):E1 (c,n)∧CH (c.1,(B1 (c,n)).2)∧(n≤0→(B1 (c,n)).1=0)∧(0<n→0≤(B1 (c,n)).1∧(B1 (c,n)).1<n):=by
 rw[fi,fh];obtain⟨a1,a2,a3,a4⟩:=Rl c h;obtain⟨b1,b2,b3,b4⟩:=Rl _ a4;obtain⟨c1,c2,c3,c4⟩:=Rl _ b4;obtain⟨d1,d2,d3,d4⟩:=Rl _ c4;simp only at b1 b2 b3 b4 c1 c2 c3 c4 d1 d2 d3 d4 ⊢;simp only[Bh,Cx,BN,CC];by_cases hn:n≤0
 · simp only[Ab hn];exact⟨⟨fun _=>trivial,fun h=>absurd hn h⟩,h,fun _=>trivial,fun h=>by omega⟩
 · simp only[Ad hn];by_cases hm:n≤256
   · simp only[Ab hm];refine⟨⟨fun h=>absurd h hn,fun _=>⟨fun _=>⟨a1,by omega⟩,fun h=>absurd hm h⟩⟩,a4,fun h=>absurd h hn,fun _=>?_⟩;rw[Rn a2];exact⟨Int.emod_nonneg _ (by omega),Int.emod_lt_of_pos _ (by omega)⟩
   · simp only[Ad hm];refine⟨⟨fun h=>absurd h hn,fun _=>⟨fun h=>absurd h hm,fun _=>⟨a1,b1,c1,d1,by omega⟩⟩⟩,d4,fun h=>absurd h hn,fun _=>?_⟩;generalize (Bg c).1=p at a2 a3;generalize (Bg (c.1,(Bg c).2)).1=q at b2 b3;generalize (Bg (c.1,(Bg (c.1,(Bg c).2)).2)).1=r at c2 c3;generalize (Bg (c.1,(Bg (c.1,(Bg (c.1,(Bg c).2)).2)).2)).1=s at d2 d3;rw[NY (a:=p) (by unfold AD;omega),NY (a:=q) (by unfold AD;omega),NY (a:=r) (by unfold AD;omega),Cw (a:=p*16777216) (by unfold AD;omega),Cw (a:=p*16777216+q*65536) (by unfold AD;omega),Cw (a:=p*16777216+q*65536+r*256) (by unfold AD;omega),Rn (by omega)];exact⟨Int.emod_nonneg _ (by omega),Int.emod_lt_of_pos _ (by omega)⟩
theorem nR(c:List Int×Int×Int)(n:Int)(h:CH c):Lr (c,n)∧CH (c.1,(Lw (c,n)).2):=by
 obtain⟨a1,a2,_⟩:=I9 c n h;rw[gd,gp];exact⟨a1,a2⟩
theorem o6(x:List Int)(h:x.length≤1048576):Ls x∧CH (HY x)∧(HY x).1=x:=by
 rw[gI,gH];refine⟨?_,⟨by simp,by simp,h⟩,rfl⟩;refine oP (fun st=>st.2) x.length (by omega) (fun st _ _ hc=>?_) (fun _=>rfl) (fun st h0 h1=>?_) (by simp) (by simp)
 · unfold SV at hc;simp only[Bc,BO,A3,Ak,BN] at hc;exact hc.1
 · unfold WV;refine⟨fun hc=>?_,fun _=>trivial⟩;simp only[Bc,BO,A3,Ak,BN] at hc;rw[Bx];omega
theorem ph(x:List Int):I5 x=decide (1048576<x.length)∧Qq x:=by
 rw[iO,iR];refine⟨?_,trivial⟩;rw[FW,A3];congr 1;exact propext (by omega)
def OX(a:Int×Int×Int×Int):Prop:=BE a=true∧a.1≠1
theorem En(k c m n:Int):BE (k,c,m,n)=true ↔
 ((k=0∨k=1∨k=10)∧c=0∧m=0∧n=0)∨(k=2∧n=0∧0≤c∧c≤56∧0≤m∧m≤15∧(c≠0∨m≠0))∨((k=3∨k=4)∧c=0∧m=0∧1≤n∧n≤3)∨((k=5∨k=9)∧c=0∧m=0∧0≤n∧n≤3) ∨
 (k=6∧1≤c∧c≤56∧1≤m∧m≤15∧n=0)∨(k=7∧1≤c∧c≤56∧m=0∧1≤n∧n≤3)∨(k=8∧c=0∧1≤m∧m≤15∧n=0):=by
 rw[WM]
 simp only[Bh,CP,Bc,Ck,Gs,W4,W7,WZ,D2,Cx]
 repeat' split
 all_goals simp only[Ak,Ch,DD,Mz,MB,D4,BN,CC,O2,Bool.not_eq_false,AH,L4,FN,O2,decide_not] at *
 all_goals omega
theorem lQ(c:List Int×Int×Int)(h:CH c):Lq (c,4)∧CH (c.1,(J2 (c,4)).2)∧OX (J2 (c,4)).1:=by
 rw[fY,fu]
 have em:iMax 1 (iSub .i64 4 1)=3:=by rw[Q8 (by unfold AD;omega),Vr];decide
 have em':iMax 1 4=4:=by rw[Vr];decide
 obtain⟨a1,a2,_,a4⟩:=I9 c 56 h;have a4:=a4 (by omega);obtain⟨b1,b2,_,b4⟩:=I9 _ 15 a2;have b4:=b4 (by omega);change CH (c.1,(FF (c,4)).2) at b2;change 0≤(FF (c,4)).1∧(FF (c,4)).1<15 at b4;obtain⟨c1,c2⟩:=nR _ 2 b2;change CH (c.1,(BL (c,4)).2) at c2
 have hc2:CH (c.1,(bSel (BL (c,4)).1 (BL (c,4)).2.1 (BL (c,4)).2.1),(bSel (BL (c,4)).1 (BL (c,4)).2.2 (BL (c,4)).2.2)):=by
  simp only[Bh,ite_self];exact c2
 obtain⟨d1,d2,_,d4⟩:=I9 _ (iMax 1 (iSub .i64 4 1)) hc2;change CH (c.1,(C8 (c,4)).2) at d2
 have d4:0≤(C8 (c,4)).1∧(C8 (c,4)).1<3:=by
  have:=d4 (by rw[em];omega);rw[em] at this
  have e:C8 (c,4)=B1 ((c.1,(bSel (BL (c,4)).1 (BL (c,4)).2.1 (BL (c,4)).2.1),(bSel (BL (c,4)).1 (BL (c,4)).2.2 (BL (c,4)).2.2)),3):=by unfold C8;rw[em]
  rw[e];exact this
 obtain⟨e1,e2,_,e4⟩:=I9 _ 16 d2;have e4:=e4 (by omega);change CH (c.1,(Au (c,4)).2) at e2;change 0≤(Au (c,4)).1∧(Au (c,4)).1<16 at e4;obtain⟨f1,f2,_,f4⟩:=I9 _ 4 e2;have f4:=f4 (by omega);change CH (c.1,(Lg (c,4)).2) at f2;change 0≤(Lg (c,4)).1∧(Lg (c,4)).1<4 at f4;obtain⟨g1,g2,_,g4⟩:=I9 _ 3 e2;have g4:=g4 (by omega);change CH (c.1,(HM (c,4)).2) at g2;change 0≤(HM (c,4)).1∧(HM (c,4)).1<3 at g4;obtain⟨i1,i2,_,i4⟩:=I9 _ (iMax 1 4) e2;have i4:=i4 (by rw[em'];omega);change CH (c.1,(Lf (c,4)).2) at i2;change 0≤(Lf (c,4)).1∧(Lf (c,4)).1<iMax 1 4 at i4;rw[em'] at i4
 have hM:1≤bSel (BL (c,4)).1 2 (iAdd .i64 1 (FF (c,4)).1)∧bSel (BL (c,4)).1 2 (iAdd .i64 1 (FF (c,4)).1)≤15:=by
  rw[Bh,Cw (by unfold AD;omega)];split<;>omega
 have hC:1≤iAdd .i64 1 (B1 (c,56)).1∧iAdd .i64 1 (B1 (c,56)).1≤56:=by rw[Cw (by unfold AD;omega)];omega
 have hN:1≤iAdd .i64 1 (C8 (c,4)).1∧iAdd .i64 1 (C8 (c,4)).1≤3:=by rw[Cw (by unfold AD;omega)];omega
 refine⟨?_,?_⟩
 · refine⟨a1,b1,c1,d1,e1,fun _=>trivial,fun _=>⟨fun _=>trivial,fun _=>⟨fun _=>trivial,fun _=>⟨fun _=>trivial,fun _=>⟨fun _=>f1,fun _=>⟨fun _=>trivial,fun _=>⟨fun _=>i1,fun _=>⟨fun _=>⟨fun _=>⟨g1,?_,?_⟩,fun _=>trivial⟩,fun _=>trivial⟩⟩⟩⟩⟩⟩⟩⟩
   · simp only[A4,Be];omega
   · simp only[A4,Be,Bx];omega
 generalize bSel (BL (c,4)).1 2 (iAdd .i64 1 (FF (c,4)).1)=M at hM ⊢;generalize iAdd .i64 1 (B1 (c,56)).1=C at hC ⊢;generalize iAdd .i64 1 (C8 (c,4)).1=N at hN ⊢;generalize Lf (c,4)=s7 at i2 i4 ⊢;generalize HM (c,4)=s6 at g2 g4 ⊢;generalize Lg (c,4)=s5 at f2 f4 ⊢;generalize Au (c,4)=s4 at e2 e4 ⊢
 have hL:OX (lGet [(3,0,0,N),(4,0,0,N),(7,C,0,N)] (iNat s6.1) (0,0,0,0)):=by
  rw[EJ,Bx]
  have:s6.1=0∨s6.1=1∨s6.1=2:=by omega
  rcases this with e|e|e
  · rw[e];exact⟨(En 3 0 0 N).2 (by omega),by simp⟩
  · rw[e];exact⟨(En 4 0 0 N).2 (by omega),by simp⟩
  · rw[e];exact⟨(En 7 C 0 N).2 (by omega),by simp⟩
 generalize lGet [(3,0,0,N),(4,0,0,N),(7,C,0,N)] (iNat s6.1) (0,0,0,0)=L at hL ⊢
 have g:∀ (b:Bool) (p q:(Int×Int×Int×Int)×Int×Int),(CH (c.1,p.2)∧OX p.1)→(CH (c.1,q.2)∧OX q.1)→CH (c.1,(bSel b p q).2)∧OX (bSel b p q).1:=fun b p q hp hq=>by
  rw[Bh];cases b
  · exact hq
  · exact hp
 refine g _ _ _ ⟨?_,(En _ _ _ _).2 (by omega),by simp⟩ (g _ _ _ ⟨e2,(En _ _ _ _).2 (by omega),by simp⟩ (g _ _ _ ⟨e2,(En _ _ _ _).2 (by omega),by simp⟩ (g _ _ _ ⟨e2,(En _ _ _ _).2 (by omega),by simp⟩ (g _ _ _ ⟨e2,(En _ _ _ _).2 (by omega),by simp⟩ (g _ _ _ ⟨f2,(En _ _ _ _).2 (by omega),by simp⟩ (g _ _ _ ⟨e2,(En _ _ _ _).2 (by omega),by simp⟩ (g _ _ _ ⟨i2,(En _ _ _ _).2 (by omega),by simp⟩ ⟨g2,hL⟩)))))));simp only[Bh,ite_self];exact e2
theorem mZ(x:List Int)(k:Int)(h:x.length≤1048576):Lp (x,k)∧CH (J0 (x,k)):=by
 rw[fN,fG];obtain⟨a1,a2,_⟩:=o6 x h;exact⟨a1,a2⟩
structure MapOk (k:Int) (x:List (List (Int×Int×Int×Int))):Prop where
 k1:1≤k
 k2:k≤32
 l1:1≤x.length
 l2:x.length≤4
 row:∀ i:Nat,i<x.length→((x.getD i []).length:Int)=k
 act:∀ i j:Nat,i<x.length→j<(x.getD i []).length→BE ((x.getD i []).getD j (0,0,0,0))=true∧(i=0→((x.getD i []).getD j (0,0,0,0)).1≠1)∧(((x.getD i []).getD j (0,0,0,0)).1≠9→((x.getD i []).getD j (0,0,0,0)).2.2.2<x.length)
theorem nH(a:Int×Int×Int×Int):SM a∧PI a:=by rw[dy,dL];exact⟨Wx _,M3 _⟩
section
set_option maxRecDepth 20000
theorem T6(a:Int):iEq a a=true:=by rw[Ck];exact C4 rfl
theorem eB(a:Ez)(h:Cj a=true):K6 (BJ a)∧BZ (BJ a)=(a,true):=by
 rw[(Lc a).2.2.1];obtain⟨_,o2,e,hh⟩:=eK (BB a) (Gu (UG _) (by decide));refine⟨o2,?_⟩;rw[e];rcases hh with⟨b,b1,b2,b3⟩|⟨no,_⟩
 · rw[b3,← Tu b b1,b2,Tu a h]
 · exact absurd rfl (no a h)
theorem kU(a:Ez)(h:Cj a=true):PA (BU a)∧B0 (BU a)=(a,true):=by
 obtain⟨k,c,m,n⟩:=a;obtain⟨hk,hn⟩:=QR k c m n h;have hc:=LM k c m n h
 have hb:0≤c∧c≤56∧0≤m∧m≤15∧0≤n∧n≤3:=by omega
 rw[dS,← HZ,h,Bz,EN,AX]
 have e1:iConv .u8 (iAdd .i64 (iMul .i64 16 k) n)=16*k+n:=by
  rw[NY (by unfold AD;omega),Cw (by unfold AD;omega),Oo (by omega) (by omega)]
 simp only[e1,Oo (show 0≤c by omega) (show c<256 by omega),Oo (show 0≤m by omega) (show m<256 by omega)];rw[cO,cY]
 have g0:lGet [16*k+n,c,m] (iNat 0) 0=16*k+n:=by rw[EJ,Bx];rfl
 have g1:lGet [16*k+n,c,m] (iNat 1) 0=c:=by rw[EJ,Bx];rfl
 have g2:lGet [16*k+n,c,m] (iNat 2) 0=m:=by rw[EJ,Bx];rfl
 have d1:iQuo .i64 (iConv .i64 (16*k+n)) 16=k:=by
  rw[N1 (by omega) (by omega),ZS (by omega) (by unfold AD;omega)];omega
 have d2:iRem (iConv .i64 (16*k+n)) 16=n:=by
  rw[N1 (by omega) (by omega),Rn (by omega)];omega
 have l3:iNe (lLen [16*k+n,c,m]) 3=false:=by rw[Gs,A3];rfl
 simp only[g0,g1,g2,d1,d2,l3,N1 (show 0≤c by omega) (show c<9223372036854775808 by omega),N1 (show 0≤m by omega) (show m<9223372036854775808 by omega),← HZ,h,Bz,EN,AX];refine⟨?_,trivial⟩
 have i0:iNat 0<3:=by rw[Bx];decide
 have i1:iNat 1<3:=by rw[Bx];decide
 have i2:iNat 2<3:=by rw[Bx];decide
 exact⟨fun h=>(by cases h),fun _=>⟨⟨by decide,by simp⟩,i0,by decide,⟨by decide,by simp⟩,i1,⟨by decide,by simp⟩,i2,⟨by decide,by simp⟩,i0,by decide,M3 _⟩⟩
theorem lY(a:Ez)(h:Cj a=true) :
 BD a=(decide (a.1=6)||decide (a.1=7))∧BE (Bw a)=true∧BE (BM a)=true∧BD (Bw a)=false∧BD (BM a)=false ∧
 (BD a=true↔(Bw a).1≠a.1)∧(BD a=true↔(BM a).1≠a.1)∧(BD a=false→Bw a=a∧BM a=a):=by
 obtain⟨k,c,m,n⟩:=a
 have hc:=LM k c m n h
 have e0:BD (k,c,m,n)=(decide (k=6)||decide (k=7)):=by
  rw[WD,← HZ,h,Bc,CP,Ck,Ck,RV]
 rw[gz,gb,e0]
 simp only[Bz,Bh,Ck]
 have th:∀ b:Ez,b.1≠6→b.1≠7→BD b=false:=fun b h1 h2=>by
  rw[WD,Bc,CP,Ck,Ck];simp[h1,h2]
 by_cases h6:k=6
 · subst h6
   refine⟨by first|rfl|trivial,?_,?_,th _ (by simp) (by simp),th _ (by simp) (by simp),by simp,by simp,by simp⟩
   · simp only[decide_true,Bool.true_or,EN,As,Az];exact(En _ _ _ _).2 (by omega)
   · simp only[decide_true,Bool.true_or,EN,As,Az,AB];exact(En _ _ _ _).2 (by omega)
 · by_cases h7:k=7
   · subst h7;refine⟨by first|rfl|trivial,?_,?_,th _ (by simp) (by simp),th _ (by simp) (by simp),by simp,by simp,by simp⟩
     · simp only[decide_true,Bool.or_true,EN,As,Az];exact(En _ _ _ _).2 (by omega)
     · simp only[decide_true,Bool.or_true,EN,As,Az,decide_false,show (7:Int)=6↔False by decide];exact(En _ _ _ _).2 (by omega)
   · have e:(decide (k=6)||decide (k=7))=false:=by simp[h6,h7]
     rw[e];simp only[Bool.not_false,AB];refine⟨trivial,by rw[← HZ];exact h,by rw[← HZ];exact h,th _ h6 h7,th _ h6 h7,by simp,by simp,by simp⟩
theorem gP(x:List Int)(h:x.length≤1048576):PF x∧Cj (Ah x)=true:=by
 rw[dF,dO];obtain⟨a1,a2⟩:=mZ x 3 h;obtain⟨b1,_,b3⟩:=lQ _ a2;exact⟨⟨a1,b1⟩,by rw[HZ];exact b3.1⟩
theorem fe(x:List Int)(hw:TuX.wf FE.h x):PL x∧PM x=true:=by
 rw[ew,eF];obtain⟨g1,g2⟩:=ph x;by_cases hb:1048576<x.length
 · have e:I5 x=true:=by rw[g1];exact C4 hb
   rw[e];refine⟨⟨g2,fun _=>trivial,fun h=>(by cases h)⟩,?_⟩;simp only[CP,Bool.true_or]
 · have e:I5 x=false:=by rw[g1];exact FK hb
   obtain⟨m1,m2⟩:=gP x (by omega);rw[e];generalize Ah x=a at m2 ⊢;obtain⟨p1,p2⟩:=eB a m2;obtain⟨q1,q2⟩:=kU a m2;obtain⟨t0,t1,t2,t3,t4,t5,t6,t7⟩:=lY a m2;have ia:∀ b,EZ b:=M3
   have it:∀ b,HJ b:=fun b=>by rw[eE];exact ia _
   have ot:Qf a:=by rw[gW];exact it _
   have oh:PU a:=by rw[fR];exact it _
   have mi:BE a=true:=by rw[← HZ];exact m2
   have hc:=LM a.1 a.2.1 a.2.2.1 a.2.2.2 m2
   have cb:Ej (DP a.2.1)=a.2.1:=by
    rw[(Ka _).2.2,(J5 _).2.2.1];exact Gf _ (by omega) (by omega)
   have pb:GQ (Dw a.2.2.1)=a.2.2.1:=by
    rw[(J3 _).2.2,(LR _).2.2.1];exact Kq _ (by omega) (by omega)
   have all:∀ b:Ez,BD b=true∨BD b=false:=fun b=>by cases BD b<;>simp
   have n1:bNot (bAnd (iEq (Bw a).1 a.1) (bAnd (iEq (Bw a).2.1 a.2.1) (bAnd (iEq (Bw a).2.2.1 a.2.2.1) (iEq (Bw a).2.2.2 a.2.2.2))))=BD a:=by
    rcases all a with h|h
    · rw[h,Ck,FK (t5.1 h),Bc,Bz];rfl
    · rw[h,(t7 h).1];simp only[T6,Bc,Bz];rfl
   have n2:bNot (bAnd (iEq (BM a).1 a.1) (bAnd (iEq (BM a).2.1 a.2.1) (bAnd (iEq (BM a).2.2.1 a.2.2.1) (iEq (BM a).2.2.2 a.2.2.2))))=BD a:=by
    rcases all a with h|h
    · rw[h,Ck,FK (t6.1 h),Bc,Bz];rfl
    · rw[h,(t7 h).2];simp only[T6,Bc,Bz];rfl
   have bi:bIff (BD a) (BD a)=true:=by rw[az];simp
   simp only[n1,n2,bi];simp only[p2,q2,mi,t1,t2,t3,t4,cb,pb,T6,Bz,Bc,CP,EN,Bool.not_false,Cn,Bool.or_self,bi];have fm1:=(Lc a).2.1;have pk:=(nH a).2;have cn:=(J5 a.2.1).2.1;have co:=(Ka (DP a.2.1)).2.1;have fm2:=(LR a.2.2.1).2.1;have pm:=(J3 (Dw a.2.2.1)).2.1;simp[g2,m1,p1,q1,ia,it,ot,oh,fm1,pk,cn,co,fm2,pm]
end
end
end Go.Ag
