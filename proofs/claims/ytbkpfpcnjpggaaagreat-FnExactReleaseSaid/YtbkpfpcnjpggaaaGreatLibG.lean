/- Part 7 of what FnExactRelease needs. No conditions. -/
import Derived.Test.YtbkpfpcnjpggaaaGreatLibF
namespace Go.Ag
set_option linter.unusedSimpArgs false
set_option linter.unusedVariables false
noncomputable section
section
set_option maxRecDepth 8000
def nU:DCode:=(.seq [1] (.region [oa 0 1 (.boxB 0 7 (.t 0)),oa 1 2 (.mv Ar)]) (.seq [1] (.seq [20,1] (.region [oa 0 5 (.fieldA 0 (.t 1)),oa 1 6 (.loadB 0 (some 2) (.t 5)),oF 2 7 I1 [(.t 6)],oa 3 8 (.un .not (.t 7)),om 4 9 8,og 5 10 (.fieldA 2 (.t 1)) 9 false,og 6 11 (.loadB 0 none (.t 10)) 9 false,og 7 12 (.len (.t 11)) 9 false,og 8 13 (.bin .gtr (.t 12) (.c (.int .i64 4))) 9 false,oa 9 14 (.pick (.t 9) AZ (.t 13)),om 10 15 14,og 11 16 (.fieldA 4 (.t 1)) 15 false,og 12 17 (.loadB 0 none (.t 16)) 15 false,⟨13,some 18,.call false FG.S FG.P FG.D [(.t 17)],(some (15,false)),[]⟩,og 14 19 (.un .not (.t 18)) 15 false,oa 15 20 (.pick (.t 15) AZ (.t 19))]) (.cond (.t 20) (.seq [2] (.region [oa 0 2 (.mv Ar)]) .ret) .skip)) (.seq [1] (.seq [3,1] (.region [oi 0 3 0]) (.block 0 (.loop [1,3] 1 (.seq [3,1] (.seq [25,3,1] (.region [om 0 21 3,oa 1 22 (.fieldA 2 (.t 1)),oa 2 23 (.loadB 0 none (.t 22)),oa 3 24 (.len (.t 23)),oa 4 25 (.bin .lss (.t 21) (.t 24))]) (.cond (.t 25) .skip (.exit 0))) (.seq [3,1] (.block 1 (.seq [34,3,1] (.region [oa 0 28 (.fieldA 2 (.t 1)),oa 1 29 (.loadB 0 none (.t 28)),om 2 30 3,oa 3 31 (.indexA 1 (.t 29) (.t 30)),oa 4 32 (.loadH none (.t 31)),oF 5 33 Jf [(.t 32)],oa 6 34 (.un .not (.t 33))]) (.cond (.t 34) (.seq [2] (.region [oa 0 2 (.mv Ar)]) .ret) .skip))) (.region [om 0 26 3,oa 1 27 (.bin .add (.t 26) AF),om 2 3 27])))))) (.seq [1] (.seq [4,1] (.region [oi 0 4 0]) (.block 2 (.loop [1,4] 1 (.seq [4,1] (.seq [39,4,1] (.region [om 0 35 4,oa 1 36 (.fieldA 4 (.t 1)),oa 2 37 (.loadB 0 none (.t 36)),oa 3 38 (.len (.t 37)),oa 4 39 (.bin .lss (.t 35) (.t 38))]) (.cond (.t 39) .skip (.exit 2))) (.seq [4,1] (.block 3 (.seq [75,4,1] (.region [oa 0 42 (.fieldA 4 (.t 1)),xA 1 43 (.loadB 0 none (.t 42)) (rg 1),om 2 44 4,xA 3 45 (.indexA 5 (.t 43) (.t 44)) (rg 3),xA 4 46 (.fieldA 0 (.t 45)) (rg 4),xA 5 47 (.loadH none (.t 46)) (rg 5),oa 6 48 (.fieldA 0 (.t 1)),xA 7 49 (.fieldA 0 (.t 48)) [6],xA 8 50 (.loadB 0 none (.t 49)) [6,7],xA 9 51 (.bin .geq (.t 47) (.t 50)) (rg 9),xA 10 52 (.mv (.t 51)) (rg 10),⟨11,some 53,.a false (.fieldA 4 (.t 1)) none,(some (52,false)),[0,1,2,3,4,5,6,7,8,9,10]⟩,⟨12,some 54,.a false (.loadB 0 none (.t 53)) none,(some (52,false)),[0,1,2,3,4,5,6,7,8,9,10,11]⟩,⟨13,some 55,.a false (.mv (.t 4)) none,(some (52,false)),[0,1,2,3,4,5,6,7,8,9,10]⟩,⟨14,some 56,.a false (.indexA 5 (.t 54) (.t 55)) none,(some (52,false)),[0,1,2,3,4,5,6,7,8,9,10,11,12,13]⟩,⟨15,some 57,.a false (.fieldA 1 (.t 56)) none,(some (52,false)),[0,1,2,3,4,5,6,7,8,9,10,11,12,13,14]⟩,⟨16,some 58,.a false (.fieldA 0 (.t 57)) none,(some (52,false)),[0,1,2,3,4,5,6,7,8,9,10,11,12,13,14,15]⟩,⟨17,some 59,.a false (.loadH none (.t 58)) none,(some (52,false)),[0,1,2,3,4,5,6,7,8,9,10,11,12,13,14,15,16]⟩,⟨18,some 60,.a false (.bin .neq (.t 59) (.c (.int .i64 9))) none,(some (52,false)),[0,1,2,3,4,5,6,7,8,9,10,11,12,13,14,15,16,17]⟩,⟨19,some 61,.a false (.mv (.t 60)) none,(some (52,false)),[0,1,2,3,4,5,6,7,8,9,10,11,12,13,14,15,16,17,18]⟩,⟨20,some 62,.a false (.fieldA 4 (.t 1)) none,(some (61,true)),[0,1,2,3,4,5,6,7,8,9,10,11,12,13,14,15,16,17,18,19]⟩,⟨21,some 63,.a false (.loadB 0 none (.t 62)) none,(some (61,true)),[0,1,2,3,4,5,6,7,8,9,10,11,12,13,14,15,16,17,18,19,20]⟩,⟨22,some 64,.a false (.mv (.t 4)) none,(some (61,true)),[0,1,2,3,4,5,6,7,8,9,10,11,12,13,14,15,16,17,18,19]⟩,⟨23,some 65,.a false (.indexA 5 (.t 63) (.t 64)) none,(some (61,true)),[0,1,2,3,4,5,6,7,8,9,10,11,12,13,14,15,16,17,18,19,20,21,22]⟩,⟨24,some 66,.a false (.fieldA 1 (.t 65)) none,(some (61,true)),[0,1,2,3,4,5,6,7,8,9,10,11,12,13,14,15,16,17,18,19,20,21,22,23]⟩,⟨25,some 67,.a false (.fieldA 3 (.t 66)) none,(some (61,true)),[0,1,2,3,4,5,6,7,8,9,10,11,12,13,14,15,16,17,18,19,20,21,22,23,24]⟩,⟨26,some 68,.a false (.loadH none (.t 67)) none,(some (61,true)),[0,1,2,3,4,5,6,7,8,9,10,11,12,13,14,15,16,17,18,19,20,21,22,23,24,25]⟩,⟨27,some 69,.a false (.fieldA 0 (.t 1)) none,(some (61,true)),[0,1,2,3,4,5,6,7,8,9,10,11,12,13,14,15,16,17,18,19]⟩,⟨28,some 70,.a false (.fieldA 1 (.t 69)) none,(some (61,true)),[0,1,2,3,4,5,6,7,8,9,10,11,12,13,14,15,16,17,18,19,27]⟩,⟨29,some 71,.a false (.loadB 0 none (.t 70)) none,(some (61,true)),[0,1,2,3,4,5,6,7,8,9,10,11,12,13,14,15,16,17,18,19,27,28]⟩,⟨30,some 72,.a false (.len (.t 71)) none,(some (61,true)),[0,1,2,3,4,5,6,7,8,9,10,11,12,13,14,15,16,17,18,19,27,28,29]⟩,⟨31,some 73,.a false (.bin .geq (.t 68) (.t 72)) none,(some (61,true)),[0,1,2,3,4,5,6,7,8,9,10,11,12,13,14,15,16,17,18,19,20,21,22,23,24,25,26,27,28,29,30]⟩,⟨32,some 74,.a false (.pick (.t 61) (.t 73) Ar) none,(some (52,false)),[0,1,2,3,4,5,6,7,8,9,10,11,12,13,14,15,16,17,18,19,20,21,22,23,24,25,26,27,28,29,30,31]⟩,xA 33 75 (.pick (.t 52) AZ (.t 74)) (rg 33)]) (.cond (.t 75) (.seq [2] (.region [oa 0 2 (.mv Ar)]) .ret) .skip))) (.region [om 0 40 4,oa 1 41 (.bin .add (.t 40) AF),om 2 4 41])))))) (.seq [2] (.region [oa 0 76 (.fieldA 3 (.t 1)),xA 1 77 (.loadB 0 none (.t 76)) (rg 1),oa 2 78 (.fieldA 0 (.t 1)),xA 3 79 (.fieldA 1 (.t 78)) [2],xA 4 80 (.loadB 0 none (.t 79)) [2,3],xA 5 81 (.len (.t 80)) [2,3,4],xA 6 82 (.bin .shl AF (.t 81)) [2,3,4,5],xA 7 83 (.bin .sub (.t 82) AF) [2,3,4,5,6],xF 8 84 Cc [(.t 77),AL,(.t 83)] (rg 8),xA 9 85 (.mv (.t 84)) (rg 9),⟨10,some 86,.a false (.fieldA 3 (.t 1)) none,(some (85,true)),[0,1,2,3,4,5,6,7,8,9]⟩,⟨11,some 87,.a false (.loadB 0 none (.t 86)) none,(some (85,true)),[0,1,2,3,4,5,6,7,8,9,10]⟩,⟨12,some 88,.a false (.bin .rem (.t 87) (.c (.int .i64 2))) none,(some (85,true)),[0,1,2,3,4,5,6,7,8,9,10,11]⟩,⟨13,some 89,.a false (.bin .eql (.t 88) AL) none,(some (85,true)),[0,1,2,3,4,5,6,7,8,9,10,11,12]⟩,xA 14 90 (.pick (.t 85) (.t 89) Ar) (rg 14),xA 15 91 (.mv (.t 90)) (rg 15),⟨16,some 92,.a false (.fieldA 5 (.t 1)) none,(some (91,true)),[0,1,2,3,4,5,6,7,8,9,10,11,12,13,14,15]⟩,⟨17,some 93,.a false (.loadB 0 none (.t 92)) none,(some (91,true)),[0,1,2,3,4,5,6,7,8,9,10,11,12,13,14,15,16]⟩,⟨18,some 94,.call false Cc.S Cc.P Cc.D [(.t 93),AL,(.c (.int .i64 15))],(some (91,true)),[0,1,2,3,4,5,6,7,8,9,10,11,12,13,14,15,16,17]⟩,xA 19 95 (.pick (.t 91) (.t 94) Ar) (rg 19),xA 20 2 (.mv (.t 95)) (rg 20)]) .ret)))))
def IV:Fn:=⟨⟨1,96,1,true,[.tmp 2],nU⟩,[.agg [Av,(.frz,.sl (.one (.sl Au))),(.frz,.sl (.one (.sl AJ))),Av,(.frz,.sl AY),Av,(.frz,.bool)]],.one (.one .own (.bool))⟩
theorem mF:IV.A:=AN ⟨oX,aB,pP,HM,HM,trivial⟩
def Nk:BM->Bool:=IV.V
def Sq:BM->Prop:=IV.O
theorem nC:IV.B:=AO ⟨mP,az,qn,HK,HK,trivial⟩ (by kernel_rfl) (λ x=>by kernel_rfl)
def oT:DCode:=(.seq [1] (.region [oa 0 1 (.boxB 0 7 (.t 0)),oa 1 2 (.mv Ar)]) (.seq [1] (.seq [33,1] (.region [oa 0 8 (.fieldA 0 (.t 1)),oa 1 9 (.loadB 0 (some 2) (.t 8)),oF 2 10 I2 [(.t 9)],oa 3 11 (.un .not (.t 10)),om 4 12 11,og 5 13 (.fieldA 2 (.t 1)) 12 false,og 6 14 (.loadB 0 none (.t 13)) 12 false,og 7 15 (.len (.t 14)) 12 false,og 8 16 (.bin .gtr (.t 15) (.c (.int .i64 4))) 12 false,oa 9 17 (.pick (.t 12) AZ (.t 16)),om 10 18 17,og 11 19 (.fieldA 4 (.t 1)) 18 false,og 12 20 (.loadB 0 none (.t 19)) 18 false,⟨13,some 21,.call false FJ.S FJ.P FJ.D [(.t 20)],(some (18,false)),[]⟩,og 14 22 (.un .not (.t 21)) 18 false,oa 15 23 (.pick (.t 18) AZ (.t 22)),om 16 24 23,og 17 25 (.fieldA 5 (.t 1)) 24 false,og 18 26 (.loadB 0 none (.t 25)) 24 false,og 19 27 (.bin .lss (.t 26) AL) 24 false,oa 20 28 (.pick (.t 24) AZ (.t 27)),om 21 29 28,og 22 30 (.fieldA 5 (.t 1)) 29 false,og 23 31 (.loadB 0 none (.t 30)) 29 false,og 24 32 (.bin .gtr (.t 31) (.c (.int .i64 15))) 29 false,oa 25 33 (.pick (.t 29) AZ (.t 32))]) (.cond (.t 33) (.seq [2] (.region [oa 0 2 (.mv Ar)]) .ret) .skip)) (.seq [1] (.seq [37,36,35,1] (.region [oa 0 34 (.fieldA 2 (.t 1)),oa 1 35 (.loadB 0 none (.t 34)),oa 2 36 (.len (.t 35)),oi 3 37 0]) (.block 0 (.loop [1,35,36,37] 1 (.seq [38,37,36,35,1] (.region [oa 0 38 (.bin .lss (.t 37) (.t 36))]) (.seq [37,36,35,1] (.cond (.t 38) .skip (.exit 0)) (.seq [37,36,35,1] (.block 1 (.seq [37,36,35,4,1] (.region [oa 0 39 (.indexA 1 (.t 35) (.t 37)),oa 1 40 (.loadH none (.t 39)),on 2 4 40]) (.seq [43,37,36,35,1] (.region [on 0 41 4,oF 1 42 Jg [(.t 41)],oa 2 43 (.un .not (.t 42))]) (.cond (.t 43) (.seq [2] (.region [oa 0 2 (.mv Ar)]) .ret) .skip)))) (.region [oa 0 44 (.bin .add (.t 37) AF),om 1 37 44]))))))) (.seq [5,1] (.region [oa 0 45 (.fieldA 0 (.t 1)),oa 1 46 (.fieldA 1 (.t 45)),oa 2 47 (.loadB 0 none (.t 46)),oa 3 48 (.len (.t 47)),om 4 5 48]) (.seq [5,1] (.seq [52,51,50,5,1] (.region [oa 0 49 (.fieldA 4 (.t 1)),oa 1 50 (.loadB 0 none (.t 49)),oa 2 51 (.len (.t 50)),oi 3 52 0]) (.block 2 (.loop [1,5,50,51,52] 1 (.seq [53,52,51,50,5,1] (.region [oa 0 53 (.bin .lss (.t 52) (.t 51))]) (.seq [52,51,50,5,1] (.cond (.t 53) .skip (.exit 2)) (.seq [52,51,50,5,1] (.block 3 (.seq [52,51,50,7,5,1] (.region [oa 0 54 (.indexA 5 (.t 50) (.t 52)),ob 1 55 (.loadH (some 5) (.t 54)),oa 2 7 (.allocB 1 [An,An,An,An,An]),os 3 (.storeB 1 5 (.t 7) (.t 55))]) (.seq [74,52,51,50,5,1] (.region [oa 0 56 (.fieldA 0 (.t 7)),oa 1 57 (.loadB 1 none (.t 56)),oa 2 58 (.fieldA 0 (.t 1)),oa 3 59 (.fieldA 0 (.t 58)),oa 4 60 (.loadB 0 none (.t 59)),oa 5 61 (.bin .geq (.t 57) (.t 60)),om 6 62 61,og 7 63 (.fieldA 1 (.t 7)) 62 false,og 8 64 (.fieldA 0 (.t 63)) 62 false,og 9 65 (.loadB 1 none (.t 64)) 62 false,og 10 66 (.bin .neq (.t 65) (.c (.int .i64 9))) 62 false,og 11 67 (.mv (.t 66)) 62 false,og 12 68 (.fieldA 1 (.t 7)) 67 true,og 13 69 (.fieldA 3 (.t 68)) 67 true,og 14 70 (.loadB 1 none (.t 69)) 67 true,og 15 71 (.mv (.t 5)) 67 true,og 16 72 (.bin .geq (.t 70) (.t 71)) 67 true,og 17 73 (.pick (.t 67) (.t 72) Ar) 62 false,oa 18 74 (.pick (.t 62) AZ (.t 73))]) (.cond (.t 74) (.seq [2] (.region [oa 0 2 (.mv Ar)]) .ret) .skip)))) (.region [oa 0 75 (.bin .add (.t 52) AF),om 1 52 75]))))))) (.seq [2] (.region [oa 0 76 (.fieldA 3 (.t 1)),xA 1 77 (.loadB 0 none (.t 76)) (rg 1),xA 2 78 (.bin .geq (.t 77) AL) (rg 2),xA 3 79 (.mv (.t 78)) (rg 3),⟨4,some 80,.a false (.fieldA 3 (.t 1)) none,(some (79,true)),[0,1,2,3]⟩,⟨5,some 81,.a false (.loadB 0 none (.t 80)) none,(some (79,true)),[0,1,2,3,4]⟩,⟨6,some 82,.a false (.bin .rem (.t 81) (.c (.int .i64 2))) none,(some (79,true)),[0,1,2,3,4,5]⟩,⟨7,some 83,.a false (.bin .eql (.t 82) AL) none,(some (79,true)),[0,1,2,3,4,5,6]⟩,xA 8 84 (.pick (.t 79) (.t 83) Ar) (rg 8),xA 9 85 (.mv (.t 84)) (rg 9),⟨10,some 86,.a false (.fieldA 3 (.t 1)) none,(some (85,true)),[0,1,2,3,4,5,6,7,8,9]⟩,⟨11,some 87,.a false (.loadB 0 none (.t 86)) none,(some (85,true)),[0,1,2,3,4,5,6,7,8,9,10]⟩,⟨12,some 88,.a false (.mv (.t 5)) none,(some (85,true)),[0,1,2,3,4,5,6,7,8,9]⟩,⟨13,some 89,.a false (.bin .shl AF (.t 88)) none,(some (85,true)),[0,1,2,3,4,5,6,7,8,9,12]⟩,⟨14,some 90,.a false (.bin .lss (.t 87) (.t 89)) none,(some (85,true)),[0,1,2,3,4,5,6,7,8,9,10,11,12,13]⟩,xA 15 91 (.pick (.t 85) (.t 90) Ar) (rg 15),xA 16 2 (.mv (.t 91)) (rg 16)]) .ret))))))
def I4:Fn:=⟨⟨1,92,2,true,[.tmp 2],oT⟩,[.agg [Av,(.frz,.sl (.one (.sl Au))),(.frz,.sl (.one (.sl AJ))),Av,(.frz,.sl AY),Av,(.frz,.bool)]],.one (.one .own (.bool))⟩
theorem oO:I4.A:=AN ⟨mB,ax,qu,trivial⟩
def E9:BM->Bool:=I4.V
def RR:BM->Prop:=I4.O
theorem oy:I4.B:=AO ⟨nr,ay,o6,trivial⟩ (by kernel_rfl) (λ x=>by kernel_rfl)
def qF:DCode:=(.seq [2,1] (.region [oa 0 1 (.boxB 0 7 (.t 0)),oa 1 2 (.allocB 1 [An,.nils,.nils,An,.nils,An,Ea])]) (.seq [3,2,1] (.region [ob 0 5 (.loadB 0 (some 7) (.t 1)),oa 1 3 (.allocB 2 [An,.nils,.nils,An,.nils,An,Ea]),os 2 (.storeB 2 7 (.t 3) (.t 5))]) (.seq [3,2,1] (.region [oa 0 6 (.fieldA 0 (.t 1)),oa 1 7 (.loadB 0 (some 2) (.t 6)),oF 2 8 Jw [(.t 7)],oa 3 9 (.fieldA 0 (.t 3)),os 4 (.storeB 2 2 (.t 9) (.t 8))]) (.seq [3,2,1] (.region [⟨0,some 10,.a false (.litSlice 1 0 [] []) (some (.one (.sl AJ))),none,[]⟩,oa 1 11 (.fieldA 2 (.t 3)),os 2 (.storeB 2 1 (.t 11) (.t 10))]) (.seq [3,2,1] (.seq [4,3,2,1] (.region [oi 0 4 0]) (.block 0 (.loop [1,2,3,4] 1 (.seq [4,3,2,1] (.seq [16,4,3,2,1] (.region [om 0 12 4,oa 1 13 (.fieldA 2 (.t 1)),oa 2 14 (.loadB 0 none (.t 13)),oa 3 15 (.len (.t 14)),oa 4 16 (.bin .lss (.t 12) (.t 15))]) (.cond (.t 16) .skip (.exit 0))) (.seq [4,3,2,1] (.block 1 (.region [oa 0 19 (.fieldA 2 (.t 3)),xB 1 20 (.loadB 2 none (.t 19)) (rg 1),oa 3 22 (.fieldA 2 (.t 1)),xA 4 23 (.loadB 0 none (.t 22)) [3],om 5 24 4,xA 6 25 (.indexA 1 (.t 23) (.t 24)) [3,4,5],xA 7 26 (.loadH none (.t 25)) [3,4,5,6],⟨2,some 21,.a false (.litSlice 3 0 [] []) (some AJ),none,[]⟩,xA 8 27 (.app 3 (.t 21) (.t 26)) [2,3,4,5,6,7],⟨9,some 28,.a false (.litSlice 1 1 [.nils] [(0,1,(.t 27))]) (some (.one (.sl AJ))),none,[2,3,4,5,6,7,8]⟩,xA 10 29 (.app 1 (.t 20) (.t 28)) (rg 10),xA 11 30 (.fieldA 2 (.t 3)) (rg 11),xS 12 (.storeB 2 1 (.t 30) (.t 29)) (rg 12)])) (.region [om 0 17 4,oa 1 18 (.bin .add (.t 17) AF),om 2 4 18])))))) (.seq [3,2] (.region [⟨0,some 31,.a false (.litSlice 5 0 [] []) (some AY),none,[]⟩,oa 1 32 (.fieldA 4 (.t 1)),oa 2 33 (.loadB 0 none (.t 32)),oa 3 34 (.app 5 (.t 31) (.t 33)),oa 4 35 (.fieldA 4 (.t 3)),os 5 (.storeB 2 1 (.t 35) (.t 34))]) (.seq [2] (.region [ob 0 36 (.loadB 2 (some 7) (.t 3)),os 1 (.storeB 1 7 (.t 2) (.t 36))]) .ret)))))))
def Js:Fn:=⟨⟨1,37,3,false,[.cell 2 (some 7)],qF⟩,[.agg [Av,(.frz,.sl (.one (.sl Au))),(.frz,.sl (.one (.sl AJ))),Av,(.frz,.sl AY),Av,(.frz,.bool)]],.one (.agg [BI,(.own,.sl (.one (.sl Au))),(.own,.sl (.one (.sl AJ))),BI,(.own,.sl AY),BI,(.own,.bool)])⟩
theorem q8:Js.A:=AN ⟨rF,trivial⟩
def DG:BM->Int×Ct×Ch×Int×Be×Int×Bool:=Js.V
def SH:BM->Prop:=Js.O
theorem rD:Js.B:=AO ⟨rY,trivial⟩ (by kernel_rfl) (λ x=>by kernel_rfl)
def jZ:DCode:=(.seq [0] (.region [oa 0 2 (.mv (.c .nils))]) (.seq [3,0] (.region [oa 0 3 (.mv (.c .nils))]) (.seq [3] (.seq [8,7,6,3] (.region [on 0 6 0,oa 1 7 (.len (.t 6)),oi 2 8 0]) (.block 0 (.loop [3,6,7,8] 1 (.seq [9,8,7,6,3] (.region [oa 0 9 (.bin .lss (.t 8) (.t 7))]) (.seq [8,7,6,3] (.cond (.t 9) .skip (.exit 0)) (.seq [8,7,6,3] (.block 1 (.seq [8,7,6,5,3] (.region [oa 0 10 (.indexA 1 (.t 6) (.t 8)),oa 1 11 (.loadH none (.t 10)),on 2 5 11]) (.region [om 0 12 3,on 1 13 5,oa 2 14 (.app 3 (.c .nils) (.t 13)),⟨3,some 15,.a false (.litSlice 1 1 [.nils] [(0,1,(.t 14))]) (some (.one (.sl AJ))),none,[]⟩,oa 4 16 (.app 1 (.t 12) (.t 15)),om 5 3 16]))) (.region [oa 0 17 (.bin .add (.t 8) AF),om 1 8 17]))))))) (.seq [2] (.region [om 0 18 3,om 1 2 18]) .ret))))
def II:Fn:=⟨⟨1,19,0,false,[.tmp 2],jZ⟩,[.one .frz (.sl (.one (.sl AJ)))],.one (.one .own (.sl (.one (.sl AJ))))⟩
theorem kx:II.A:=AN trivial
def RL:Ch->List Cp:=II.V
def RD:Ch->Prop:=II.O
theorem km:II.B:=AO trivial (by kernel_rfl) (λ x=>by kernel_rfl)
def ZS:ACode:=(.seq (.region [⟨0,some 4,.mv (.c (.int .i64 0)),none,[]⟩]) (.seq (.seq (.region [⟨0,some 5,.mv (.c (.int .i64 0)),none,[]⟩]) (.block 0 (.loop [0,1,5] (.seq (.seq (.region [⟨0,some 6,.mv (.t 5),none,[]⟩,⟨1,some 7,.mv (.t 0),none,[]⟩,⟨2,some 8,.len (.t 7),none,[]⟩,⟨3,some 9,.bin .lss (.t 6) (.t 8),none,[]⟩]) (.cond (.t 9) .skip (.exit 0))) (.seq (.block 1 (.seq (.region [⟨0,some 12,.mv (.t 0),none,[]⟩,⟨1,some 13,.mv (.t 5),none,[]⟩,⟨2,some 14,.mv (.t 1),none,[]⟩,⟨3,some 15,.indexA 3 (.t 12) (.t 13),none,[]⟩,⟨4,some 16,.fieldA 0 (.t 15),none,[]⟩,⟨5,none,.storeH 1 (.t 16) (.t 14),none,[]⟩]) (.seq (.region [⟨0,some 17,.mv (.t 1),none,[]⟩,⟨1,some 18,.bin .add (.t 17) (.c (.int .i64 1)),none,[]⟩,⟨2,some 1,.mv (.t 18),none,[]⟩]) (.seq (.region [⟨0,some 19,.mv (.t 0),none,[]⟩,⟨1,some 20,.mv (.t 5),none,[]⟩,⟨2,some 21,.mv (.t 1),none,[]⟩,⟨3,some 22,.indexA 3 (.t 19) (.t 20),none,[]⟩,⟨4,some 23,.fieldA 1 (.t 22),none,[]⟩,⟨5,none,.storeH 1 (.t 23) (.t 21),none,[]⟩]) (.seq (.region [⟨0,some 24,.mv (.t 1),none,[]⟩,⟨1,some 25,.bin .add (.t 24) (.c (.int .i64 1)),none,[]⟩,⟨2,some 1,.mv (.t 25),none,[]⟩]) (.seq (.region [⟨0,some 26,.mv (.t 0),none,[]⟩,⟨1,some 27,.mv (.t 5),none,[]⟩,⟨2,some 28,.mv (.t 1),none,[]⟩,⟨3,some 29,.indexA 3 (.t 26) (.t 27),none,[]⟩,⟨4,some 30,.fieldA 2 (.t 29),none,[]⟩,⟨5,none,.storeH 1 (.t 30) (.t 28),none,[]⟩]) (.region [⟨0,some 31,.mv (.t 1),none,[]⟩,⟨1,some 32,.bin .add (.t 31) (.c (.int .i64 1)),none,[]⟩,⟨2,some 1,.mv (.t 32),none,[]⟩]))))))) (.region [⟨0,some 10,.mv (.t 5),none,[]⟩,⟨1,some 11,.bin .add (.t 10) (.c (.int .i64 1)),none,[]⟩,⟨2,some 5,.mv (.t 11),none,[]⟩])))))) (.seq (.region [⟨0,some 33,.mv (.t 1),none,[]⟩,⟨1,some 4,.mv (.t 33),none,[]⟩]) .ret)))
def VE:AFun:=⟨2,34,0,false,[.tmp 4],ZS⟩
@[irreducible] def Ni:A7:=E3 VE
@[irreducible] def FA(x:Cp)(m:Int):Cp×Int:=(shut fun(x:Cp) (m:Int)=>AP (RT.mkI AJ) x m).1 x m
@[irreducible] def RA(x:Cp):Prop:=(shut fun(x:Cp)=>CT.wl (.sl AJ) x).1 x
theorem Zt:FA=λ x m=>AP (RT.mkI AJ) x m:=by unfold FA;exact(shut _).2
theorem kL:RA=λ x=>CT.wl (.sl AJ) x:=by unfold RA;exact(shut _).2
theorem lO:SlC Ni AJ:=by
 rintro h ω hd p l u m Q hok hinj hM hQ;have hn:=hM.len;have hlb:l.length<=9223372036854775807:=hok.1;unfold Ni;refine HR rfl ?_;unfold ZS;simp only[go_sem,reduceIte,reduceCtorEq,Nat.reduceAdd,Nat.reduceBEq,Int.reduceLT,Int.reduceLE,Int.reduceGT,Int.reduceGE,Int.reduceBEq,Int.reduceBNe,Nat.reduceEqDiff,Nat.reduceLeDiff,Nat.reduceLT,hn];refine KL l.length (λ i st=>∃ h',st=⟨[u,.int .i64 (A4 (RT.mkI AJ) l m i).2,.undef,.undef,.undef,.int .i64 (i:Int)]++DY 28,[],h'⟩/\Only (Fo ω hd p) h h'/\MS h' ω hd p AJ (A4 (RT.mkI AJ) l m i).1 u) ?_ ?_
 . refine⟨h,?_,Only.refl _ _,hM⟩;simp only[Kv,keep,K5];rfl
 . rintro i st next hi ⟨h1,rfl,hO,hR⟩ hnx
   by_cases hlt:i<l.length
   . have hc:decide ((i:Int)<(l.length:Int))=true:=HU (by omega)
     have hw:IntKind.i64.wrap ((i:Int)+1)=((i+1:Nat):Int):=by rw[JY (by omega)];omega
     obtain⟨b,hub⟩:=hR.slice (by rw[Ey];omega);rw[Ey] at hub;subst hub
     cases hL:A4 (RT.mkI AJ) l m i with
     |mk L k0=>
     rw[hL] at hR;obtain⟨hLl,hs,hx0⟩:=LG hlt hL
     have hiL:i<L.length:=by omega
     have hwx:=Mc hok hlt;rw[<- hx0] at hwx;have R0:=MS.frame hR hiL;clear hx0;generalize hx0:List.getD L i (RT.dflt AJ)=x0 at R0 hs hwx;clear hx0;have hx:=KJ (b:=b) (w:=3) hlt (k:=.i64);simp only;obtain⟨h2,s0,o0,R1⟩:=MS.st R0 hiL (off:=0) (by decide) (v:=(.int .i64 k0)) rfl rfl (y:=((k0,x0.2.1,x0.2.2):RT.D AJ)) rfl hinj [];replace s0:DJ [] h1 1 (.ptr b (i*3)) (.int .i64 k0)=some (.undef,[],h2):=s0;obtain⟨h3,s1,o1,R2⟩:=MS.st R1 hiL (off:=1) (by decide) (v:=(.int .i64 (IntKind.i64.wrap (k0+1)))) rfl rfl (y:=((k0,(IntKind.i64.wrap (k0+1)),x0.2.2):RT.D AJ)) rfl hinj [];replace s1:DJ [] h2 1 (.ptr b (i*3+1)) (.int .i64 (IntKind.i64.wrap (k0+1)))=some (.undef,[],h3):=s1;obtain⟨h4,s2,o2,R3⟩:=MS.st R2 hiL (off:=2) (by decide) (v:=(.int .i64 (IntKind.i64.wrap (IntKind.i64.wrap (k0+1)+1)))) rfl rfl (y:=((k0,(IntKind.i64.wrap (k0+1)),(IntKind.i64.wrap (IntKind.i64.wrap (k0+1)+1))):RT.D AJ)) rfl hinj [];replace s2:DJ [] h3 1 (.ptr b (i*3+2)) (.int .i64 (IntKind.i64.wrap (IntKind.i64.wrap (k0+1)+1)))=some (.undef,[],h4):=s2;simp only[go_sem,reduceIte,reduceCtorEq,Nat.reduceAdd,Nat.reduceBEq,Int.reduceLT,Int.reduceLE,Int.reduceGT,Int.reduceGE,Int.reduceBEq,Int.reduceBNe,Nat.reduceEqDiff,Nat.reduceLeDiff,Nat.reduceLT,hn,hc,hw,hx,s0,s1,s2];exact hnx _ hlt ⟨h4,by rw[hs];rfl,(Only.trans (Only.trans (Only.trans hO o0) o1) o2),by rw[hs];exact R3⟩
   . have hc:decide ((i:Int)<(l.length:Int))=false:=Gs (by omega)
     have hi':i=l.length:=by omega
     subst hi';simp only[go_sem,reduceIte,reduceCtorEq,Nat.reduceAdd,Nat.reduceBEq,Int.reduceLT,Int.reduceLE,Int.reduceGT,Int.reduceGE,Int.reduceBEq,Int.reduceBNe,Nat.reduceEqDiff,Nat.reduceLeDiff,Nat.reduceLT,hn,hc];have e:=Hb (RT.mkI AJ) l m;rw[e] at hR ⊢;exact hQ h1 hO hR
def ZE:ACode:=(.seq (.region [⟨0,some 4,.mv (.c (.int .i64 0)),none,[]⟩]) (.seq (.seq (.region [⟨0,some 5,.mv (.c (.int .i64 0)),none,[]⟩]) (.block 0 (.loop [0,1,5] (.seq (.seq (.region [⟨0,some 6,.mv (.t 5),none,[]⟩,⟨1,some 7,.mv (.t 0),none,[]⟩,⟨2,some 8,.len (.t 7),none,[]⟩,⟨3,some 9,.bin .lss (.t 6) (.t 8),none,[]⟩]) (.cond (.t 9) .skip (.exit 0))) (.seq (.block 1 (.region [⟨0,some 12,.mv (.t 0),none,[]⟩,⟨1,some 13,.mv (.t 5),none,[]⟩,⟨2,some 14,.indexA 1 (.t 12) (.t 13),none,[]⟩,⟨3,some 15,.loadH none (.t 14),none,[]⟩,⟨4,some 16,.mv (.t 1),none,[]⟩,⟨5,some 17,.call Ni [(.t 15),(.t 16)],none,[]⟩,⟨6,some 1,.mv (.t 17),none,[]⟩])) (.region [⟨0,some 10,.mv (.t 5),none,[]⟩,⟨1,some 11,.bin .add (.t 10) (.c (.int .i64 1)),none,[]⟩,⟨2,some 5,.mv (.t 11),none,[]⟩])))))) (.seq (.region [⟨0,some 18,.mv (.t 1),none,[]⟩,⟨1,some 4,.mv (.t 18),none,[]⟩]) .ret)))
def Vs:AFun:=⟨2,19,0,false,[.tmp 4],ZE⟩
@[irreducible] def Nb:A7:=E3 Vs
@[irreducible] def E8(x:Ch)(m:Int):Ch×Int:=(shut fun(x:Ch) (m:Int)=>AP (RT.mkI (.one (.sl AJ))) x m).1 x m
@[irreducible] def Ro(x:Ch):Prop:=(shut fun(x:Ch)=>CT.wl (.sl (.one (.sl AJ))) x).1 x
theorem Zn:E8=λ x m=>AP (RT.mkI (.one (.sl AJ))) x m:=by unfold E8;exact(shut _).2
theorem jO:Ro=λ x=>CT.wl (.sl (.one (.sl AJ))) x:=by unfold Ro;exact(shut _).2
theorem j7:SlC Nb (.one (.sl AJ)):=by
 rintro h ω hd p l u m Q hok hinj hM hQ;have hn:=hM.len;have hlb:l.length<=9223372036854775807:=hok.1;unfold Nb;refine HR rfl ?_;unfold ZE;simp only[go_sem,reduceIte,reduceCtorEq,Nat.reduceAdd,Nat.reduceBEq,Int.reduceLT,Int.reduceLE,Int.reduceGT,Int.reduceGE,Int.reduceBEq,Int.reduceBNe,Nat.reduceEqDiff,Nat.reduceLeDiff,Nat.reduceLT,hn];refine KL l.length (λ i st=>∃ h',st=⟨[u,.int .i64 (A4 (RT.mkI (.one (.sl AJ))) l m i).2,.undef,.undef,.undef,.int .i64 (i:Int)]++DY 13,[],h'⟩/\Only (Fo ω hd p) h h'/\MS h' ω hd p (.one (.sl AJ)) (A4 (RT.mkI (.one (.sl AJ))) l m i).1 u) ?_ ?_
 . refine⟨h,?_,Only.refl _ _,hM⟩;simp only[Kv,keep,K5];rfl
 . rintro i st next hi ⟨h1,rfl,hO,hR⟩ hnx
   by_cases hlt:i<l.length
   . have hc:decide ((i:Int)<(l.length:Int))=true:=HU (by omega)
     have hw:IntKind.i64.wrap ((i:Int)+1)=((i+1:Nat):Int):=by rw[JY (by omega)];omega
     obtain⟨b,hub⟩:=hR.slice (by rw[Ey];omega);rw[Ey] at hub;subst hub
     cases hL:A4 (RT.mkI (.one (.sl AJ))) l m i with
     |mk L k0=>
     rw[hL] at hR;obtain⟨hLl,hs,hx0⟩:=LG hlt hL
     have hiL:i<L.length:=by omega
     have hwx:=Mc hok hlt;rw[<- hx0] at hwx;have R0:=MS.frame hR hiL;clear hx0;generalize hx0:List.getD L i (RT.dflt (.one (.sl AJ)))=x0 at R0 hs hwx;clear hx0;have hx:=KJ (b:=b) (w:=1) hlt (k:=.i64);simp only;obtain⟨u0,s0,M0,f0⟩:=MS.sb R0 hiL (off:=0) (by decide) (r':=AJ) (l':=x0) rfl;replace s0:JK h1 none (.ptr b (i*1))=some u0:=s0;have ok0:=(MS.ok1 M0).1;simp only[go_sem,reduceIte,reduceCtorEq,Nat.reduceAdd,Nat.reduceBEq,Int.reduceLT,Int.reduceLE,Int.reduceGT,Int.reduceGE,Int.reduceBEq,Int.reduceBNe,Nat.reduceEqDiff,Nat.reduceLeDiff,Nat.reduceLT,hn,hc,hw,hx,s0,ok0];refine J9 (lO h1 ω hd _ x0 u0 k0 _ hwx hinj M0 λ h2 O0 N0=>?_);obtain⟨o0,R1⟩:=f0 h2 _ ((AP (RT.mkI AJ) x0 k0).1:RT.D (.one (.sl AJ))) O0 N0 rfl;simp only[go_sem,reduceIte,reduceCtorEq,Nat.reduceAdd,Nat.reduceBEq,Int.reduceLT,Int.reduceLE,Int.reduceGT,Int.reduceGE,Int.reduceBEq,Int.reduceBNe,Nat.reduceEqDiff,Nat.reduceLeDiff,Nat.reduceLT,hn,hc,hw,hx,s0,ok0];exact hnx _ hlt ⟨h2,by rw[hs];rfl,(Only.trans hO o0),by rw[hs];exact R1⟩
   . have hc:decide ((i:Int)<(l.length:Int))=false:=Gs (by omega)
     have hi':i=l.length:=by omega
     subst hi';simp only[go_sem,reduceIte,reduceCtorEq,Nat.reduceAdd,Nat.reduceBEq,Int.reduceLT,Int.reduceLE,Int.reduceGT,Int.reduceGE,Int.reduceBEq,Int.reduceBNe,Nat.reduceEqDiff,Nat.reduceLeDiff,Nat.reduceLT,hn,hc];have e:=Hb (RT.mkI (.one (.sl AJ))) l m;rw[e] at hR ⊢;exact hQ h1 hO hR
def ZR:ACode:=(.seq (.region [⟨0,some 4,.mv (.c (.int .i64 0)),none,[]⟩]) (.seq (.seq (.region [⟨0,some 5,.mv (.c (.int .i64 0)),none,[]⟩]) (.block 0 (.loop [0,1,5] (.seq (.seq (.region [⟨0,some 6,.mv (.t 5),none,[]⟩,⟨1,some 7,.mv (.t 0),none,[]⟩,⟨2,some 8,.len (.t 7),none,[]⟩,⟨3,some 9,.bin .lss (.t 6) (.t 8),none,[]⟩]) (.cond (.t 9) .skip (.exit 0))) (.seq (.block 1 (.seq (.region [⟨0,some 12,.mv (.t 0),none,[]⟩,⟨1,some 13,.mv (.t 5),none,[]⟩,⟨2,some 14,.mv (.t 1),none,[]⟩,⟨3,some 15,.indexA 5 (.t 12) (.t 13),none,[]⟩,⟨4,some 16,.fieldA 0 (.t 15),none,[]⟩,⟨5,none,.storeH 1 (.t 16) (.t 14),none,[]⟩]) (.seq (.region [⟨0,some 17,.mv (.t 1),none,[]⟩,⟨1,some 18,.bin .add (.t 17) (.c (.int .i64 1)),none,[]⟩,⟨2,some 1,.mv (.t 18),none,[]⟩]) (.seq (.region [⟨0,some 19,.mv (.t 0),none,[]⟩,⟨1,some 20,.mv (.t 5),none,[]⟩,⟨2,some 21,.mv (.t 1),none,[]⟩,⟨3,some 22,.indexA 5 (.t 19) (.t 20),none,[]⟩,⟨4,some 23,.fieldA 1 (.t 22),none,[]⟩,⟨5,some 24,.fieldA 0 (.t 23),none,[]⟩,⟨6,none,.storeH 1 (.t 24) (.t 21),none,[]⟩]) (.seq (.region [⟨0,some 25,.mv (.t 1),none,[]⟩,⟨1,some 26,.bin .add (.t 25) (.c (.int .i64 1)),none,[]⟩,⟨2,some 1,.mv (.t 26),none,[]⟩]) (.seq (.region [⟨0,some 27,.mv (.t 0),none,[]⟩,⟨1,some 28,.mv (.t 5),none,[]⟩,⟨2,some 29,.mv (.t 1),none,[]⟩,⟨3,some 30,.indexA 5 (.t 27) (.t 28),none,[]⟩,⟨4,some 31,.fieldA 1 (.t 30),none,[]⟩,⟨5,some 32,.fieldA 1 (.t 31),none,[]⟩,⟨6,none,.storeH 1 (.t 32) (.t 29),none,[]⟩]) (.seq (.region [⟨0,some 33,.mv (.t 1),none,[]⟩,⟨1,some 34,.bin .add (.t 33) (.c (.int .i64 1)),none,[]⟩,⟨2,some 1,.mv (.t 34),none,[]⟩]) (.seq (.region [⟨0,some 35,.mv (.t 0),none,[]⟩,⟨1,some 36,.mv (.t 5),none,[]⟩,⟨2,some 37,.mv (.t 1),none,[]⟩,⟨3,some 38,.indexA 5 (.t 35) (.t 36),none,[]⟩,⟨4,some 39,.fieldA 1 (.t 38),none,[]⟩,⟨5,some 40,.fieldA 2 (.t 39),none,[]⟩,⟨6,none,.storeH 1 (.t 40) (.t 37),none,[]⟩]) (.seq (.region [⟨0,some 41,.mv (.t 1),none,[]⟩,⟨1,some 42,.bin .add (.t 41) (.c (.int .i64 1)),none,[]⟩,⟨2,some 1,.mv (.t 42),none,[]⟩]) (.seq (.region [⟨0,some 43,.mv (.t 0),none,[]⟩,⟨1,some 44,.mv (.t 5),none,[]⟩,⟨2,some 45,.mv (.t 1),none,[]⟩,⟨3,some 46,.indexA 5 (.t 43) (.t 44),none,[]⟩,⟨4,some 47,.fieldA 1 (.t 46),none,[]⟩,⟨5,some 48,.fieldA 3 (.t 47),none,[]⟩,⟨6,none,.storeH 1 (.t 48) (.t 45),none,[]⟩]) (.region [⟨0,some 49,.mv (.t 1),none,[]⟩,⟨1,some 50,.bin .add (.t 49) (.c (.int .i64 1)),none,[]⟩,⟨2,some 1,.mv (.t 50),none,[]⟩]))))))))))) (.region [⟨0,some 10,.mv (.t 5),none,[]⟩,⟨1,some 11,.bin .add (.t 10) (.c (.int .i64 1)),none,[]⟩,⟨2,some 5,.mv (.t 11),none,[]⟩])))))) (.seq (.region [⟨0,some 51,.mv (.t 1),none,[]⟩,⟨1,some 4,.mv (.t 51),none,[]⟩]) .ret)))
def VG:AFun:=⟨2,52,0,false,[.tmp 4],ZR⟩
@[irreducible] def Nd:A7:=E3 VG
@[irreducible] def GV(x:Be)(m:Int):Be×Int:=(shut fun(x:Be) (m:Int)=>AP (RT.mkI AY) x m).1 x m
@[irreducible] def Rw(x:Be):Prop:=(shut fun(x:Be)=>CT.wl (.sl AY) x).1 x
theorem Zx:GV=λ x m=>AP (RT.mkI AY) x m:=by unfold GV;exact(shut _).2
theorem jS:Rw=λ x=>CT.wl (.sl AY) x:=by unfold Rw;exact(shut _).2
theorem lK:SlC Nd AY:=by
 rintro h ω hd p l u m Q hok hinj hM hQ;have hn:=hM.len;have hlb:l.length<=9223372036854775807:=hok.1;unfold Nd;refine HR rfl ?_;unfold ZR;simp only[go_sem,reduceIte,reduceCtorEq,Nat.reduceAdd,Nat.reduceBEq,Int.reduceLT,Int.reduceLE,Int.reduceGT,Int.reduceGE,Int.reduceBEq,Int.reduceBNe,Nat.reduceEqDiff,Nat.reduceLeDiff,Nat.reduceLT,hn];refine KL l.length (λ i st=>∃ h',st=⟨[u,.int .i64 (A4 (RT.mkI AY) l m i).2,.undef,.undef,.undef,.int .i64 (i:Int)]++DY 46,[],h'⟩/\Only (Fo ω hd p) h h'/\MS h' ω hd p AY (A4 (RT.mkI AY) l m i).1 u) ?_ ?_
 . refine⟨h,?_,Only.refl _ _,hM⟩;simp only[Kv,keep,K5];rfl
 . rintro i st next hi ⟨h1,rfl,hO,hR⟩ hnx
   by_cases hlt:i<l.length
   . have hc:decide ((i:Int)<(l.length:Int))=true:=HU (by omega)
     have hw:IntKind.i64.wrap ((i:Int)+1)=((i+1:Nat):Int):=by rw[JY (by omega)];omega
     obtain⟨b,hub⟩:=hR.slice (by rw[Ey];omega);rw[Ey] at hub;subst hub
     cases hL:A4 (RT.mkI AY) l m i with
     |mk L k0=>
     rw[hL] at hR;obtain⟨hLl,hs,hx0⟩:=LG hlt hL
     have hiL:i<L.length:=by omega
     have hwx:=Mc hok hlt;rw[<- hx0] at hwx;have R0:=MS.frame hR hiL;clear hx0;generalize hx0:List.getD L i (RT.dflt AY)=x0 at R0 hs hwx;clear hx0;have hx:=KJ (b:=b) (w:=5) hlt (k:=.i64);simp only;obtain⟨h2,s0,o0,R1⟩:=MS.st R0 hiL (off:=0) (by decide) (v:=(.int .i64 k0)) rfl rfl (y:=((k0,x0.2.1,x0.2.2.1,x0.2.2.2.1,x0.2.2.2.2):RT.D AY)) rfl hinj [];replace s0:DJ [] h1 1 (.ptr b (i*5)) (.int .i64 k0)=some (.undef,[],h2):=s0;obtain⟨h3,s1,o1,R2⟩:=MS.st R1 hiL (off:=1) (by decide) (v:=(.int .i64 (IntKind.i64.wrap (k0+1)))) rfl rfl (y:=((k0,(IntKind.i64.wrap (k0+1)),x0.2.2.1,x0.2.2.2.1,x0.2.2.2.2):RT.D AY)) rfl hinj [];replace s1:DJ [] h2 1 (.ptr b (i*5+1)) (.int .i64 (IntKind.i64.wrap (k0+1)))=some (.undef,[],h3):=s1;obtain⟨h4,s2,o2,R3⟩:=MS.st R2 hiL (off:=2) (by decide) (v:=(.int .i64 (IntKind.i64.wrap (IntKind.i64.wrap (k0+1)+1)))) rfl rfl (y:=((k0,(IntKind.i64.wrap (k0+1)),(IntKind.i64.wrap (IntKind.i64.wrap (k0+1)+1)),x0.2.2.2.1,x0.2.2.2.2):RT.D AY)) rfl hinj [];replace s2:DJ [] h3 1 (.ptr b (i*5+1+1)) (.int .i64 (IntKind.i64.wrap (IntKind.i64.wrap (k0+1)+1)))=some (.undef,[],h4):=s2;obtain⟨h5,s3,o3,R4⟩:=MS.st R3 hiL (off:=3) (by decide) (v:=(.int .i64 (IntKind.i64.wrap (IntKind.i64.wrap (IntKind.i64.wrap (k0+1)+1)+1)))) rfl rfl (y:=((k0,(IntKind.i64.wrap (k0+1)),(IntKind.i64.wrap (IntKind.i64.wrap (k0+1)+1)),(IntKind.i64.wrap (IntKind.i64.wrap (IntKind.i64.wrap (k0+1)+1)+1)),x0.2.2.2.2):RT.D AY)) rfl hinj [];replace s3:DJ [] h4 1 (.ptr b (i*5+1+2)) (.int .i64 (IntKind.i64.wrap (IntKind.i64.wrap (IntKind.i64.wrap (k0+1)+1)+1)))=some (.undef,[],h5):=s3;obtain⟨h6,s4,o4,R5⟩:=MS.st R4 hiL (off:=4) (by decide) (v:=(.int .i64 (IntKind.i64.wrap (IntKind.i64.wrap (IntKind.i64.wrap (IntKind.i64.wrap (k0+1)+1)+1)+1)))) rfl rfl (y:=((k0,(IntKind.i64.wrap (k0+1)),(IntKind.i64.wrap (IntKind.i64.wrap (k0+1)+1)),(IntKind.i64.wrap (IntKind.i64.wrap (IntKind.i64.wrap (k0+1)+1)+1)),(IntKind.i64.wrap (IntKind.i64.wrap (IntKind.i64.wrap (IntKind.i64.wrap (k0+1)+1)+1)+1))):RT.D AY)) rfl hinj [];replace s4:DJ [] h5 1 (.ptr b (i*5+1+3)) (.int .i64 (IntKind.i64.wrap (IntKind.i64.wrap (IntKind.i64.wrap (IntKind.i64.wrap (k0+1)+1)+1)+1)))=some (.undef,[],h6):=s4;simp only[go_sem,reduceIte,reduceCtorEq,Nat.reduceAdd,Nat.reduceBEq,Int.reduceLT,Int.reduceLE,Int.reduceGT,Int.reduceGE,Int.reduceBEq,Int.reduceBNe,Nat.reduceEqDiff,Nat.reduceLeDiff,Nat.reduceLT,hn,hc,hw,hx,s0,s1,s2,s3,s4];exact hnx _ hlt ⟨h6,by rw[hs];rfl,(Only.trans (Only.trans (Only.trans (Only.trans (Only.trans hO o0) o1) o2) o3) o4),by rw[hs];exact R5⟩
   . have hc:decide ((i:Int)<(l.length:Int))=false:=Gs (by omega)
     have hi':i=l.length:=by omega
     subst hi';simp only[go_sem,reduceIte,reduceCtorEq,Nat.reduceAdd,Nat.reduceBEq,Int.reduceLT,Int.reduceLE,Int.reduceGT,Int.reduceGE,Int.reduceBEq,Int.reduceBNe,Nat.reduceEqDiff,Nat.reduceLeDiff,Nat.reduceLT,hn,hc];have e:=Hb (RT.mkI AY) l m;rw[e] at hR ⊢;exact hQ h1 hO hR
def ZA:ACode:=(.seq (.region [⟨0,some 2,.boxB 0 7 (.t 0),none,[]⟩,⟨1,some 4,.mv (.c (.int .i64 0)),none,[]⟩]) (.seq (.region [⟨0,some 5,.fieldA 0 (.t 2),none,[]⟩,⟨1,some 6,.loadB 0 (some 2) (.t 5),none,[]⟩,⟨2,some 7,.mv (.t 1),none,[]⟩,⟨3,some 8,.call Lw [(.t 6),(.t 7)],none,[]⟩,⟨4,some 1,.mv (.t 8),none,[]⟩]) (.seq (.region [⟨0,some 9,.fieldA 2 (.t 2),none,[]⟩,⟨1,some 10,.loadB 0 none (.t 9),none,[]⟩,⟨2,some 11,.mv (.t 1),none,[]⟩,⟨3,some 12,.call Nb [(.t 10),(.t 11)],none,[]⟩,⟨4,some 1,.mv (.t 12),none,[]⟩]) (.seq (.region [⟨0,some 13,.fieldA 4 (.t 2),none,[]⟩,⟨1,some 14,.loadB 0 none (.t 13),none,[]⟩,⟨2,some 15,.mv (.t 1),none,[]⟩,⟨3,some 16,.call Nd [(.t 14),(.t 15)],none,[]⟩,⟨4,some 1,.mv (.t 16),none,[]⟩]) (.seq (.region [⟨0,some 17,.mv (.t 1),none,[]⟩,⟨1,some 4,.mv (.t 17),none,[]⟩]) .ret)))))
def Vu:AFun:=⟨2,18,1,false,[.tmp 4],ZA⟩
@[irreducible] def HF:A7:=E3 Vu
@[irreducible] def AG(x:BM)(m:Int):BM×Int:=(shut fun(x:BM) (m:Int)=>RT.mkT (.cons (.int .i64) (.cons (.sl (.one (.sl Au))) (.cons (.sl (.one (.sl AJ))) (.cons (.int .i64) (.cons (.sl AY) (.cons (.int .i64) (.one (.bool)))))))) x m).1 x m
@[irreducible] def Lr(x:BM):Prop:=(shut fun(x:BM)=>RT.wl (.cons (.int .i64) (.cons (.sl (.one (.sl Au))) (.cons (.sl (.one (.sl AJ))) (.cons (.int .i64) (.cons (.sl AY) (.cons (.int .i64) (.one (.bool)))))))) x).1 x
theorem Zr:AG=λ x m=>RT.mkT (.cons (.int .i64) (.cons (.sl (.one (.sl Au))) (.cons (.sl (.one (.sl AJ))) (.cons (.int .i64) (.cons (.sl AY) (.cons (.int .i64) (.one (.bool)))))))) x m:=by unfold AG;exact(shut _).2
theorem Zo:Lr=λ x=>RT.wl (.cons (.int .i64) (.cons (.sl (.one (.sl Au))) (.cons (.sl (.one (.sl AJ))) (.cons (.int .i64) (.cons (.sl AY) (.cons (.int .i64) (.one (.bool)))))))) x:=by unfold Lr;exact(shut _).2
theorem kU:JQ HF (Y8 (.cons (.int .i64) (.cons (.sl (.one (.sl Au))) (.cons (.sl (.one (.sl AJ))) (.cons (.int .i64) (.cons (.sl AY) (.cons (.int .i64) (.one (.bool))))))))).P:=by
 rintro h ω hd P b AH us u m K Q hinj hu hl hr ⟨x,rfl,hok,hK⟩ hQ;have hu:u= .agg us:=hu;subst hu;show HF [.agg us,.int .i64 m] h Q;obtain⟨u0,u1,u2,u3,u4,u5,u6,rfl⟩:=Zcb hl;have c0:RM h ω hd (P++[b+0]) (CT.enc (.int .i64) x.1) u0:=hr 0 (E0 (by decide));have c1:RM h ω hd (P++[b+1]) (CT.enc (.sl (.one (.sl Au))) x.2.1) u1:=hr 1 (E0 (by decide));have c2:RM h ω hd (P++[b+2]) (CT.enc (.sl (.one (.sl AJ))) x.2.2.1) u2:=hr 2 (E0 (by decide));have c3:RM h ω hd (P++[b+3]) (CT.enc (.int .i64) x.2.2.2.1) u3:=hr 3 (E0 (by decide));have c4:RM h ω hd (P++[b+4]) (CT.enc (.sl AY) x.2.2.2.2.1) u4:=hr 4 (E0 (by decide));have c5:RM h ω hd (P++[b+5]) (CT.enc (.int .i64) x.2.2.2.2.2.1) u5:=hr 5 (E0 (by decide));have c6:RM h ω hd (P++[b+6]) (CT.enc (.bool) x.2.2.2.2.2.2) u6:=hr 6 (E0 (by decide));have e0:=c0.cellV rfl;have e1:=c1.cellV rfl;have e2:=c2.cellV rfl;have e3:=c3.cellV rfl;have e4:=c4.cellV rfl;have e5:=c5.cellV rfl;have e6:=c6.cellV rfl;have g1:=(RM.own1 c1).1;have z1:=(RM.own1 c1).2.2;have g2:=(RM.own1 c2).1;have z2:=(RM.own1 c2).2.2;have g4:=(RM.own1 c4).1;have z4:=(RM.own1 c4).2.2;unfold HF;refine HR rfl ?_;unfold ZA;simp only[go_sem,reduceIte,reduceCtorEq,Nat.reduceAdd,Nat.reduceBEq,Int.reduceLT,Int.reduceLE,Int.reduceGT,Int.reduceGE,Int.reduceBEq,Int.reduceBNe,Nat.reduceEqDiff,Nat.reduceLeDiff,Nat.reduceLT,e0,e1,e2,e3,e4,e5,e6,g1,g2,g4];refine J9 (kM h ω hd P (b+0) (RT.enc (.cons (.int .i64) (.one (.sl (.one (.sl Au))))) ((x.1,x.2.1):RT.D (.cons (.int .i64) (.one (.sl (.one (.sl Au))))))) [u0,u1] _ m (λ nn kk=>nn=RT.enc (.cons (.int .i64) (.one (.sl (.one (.sl Au))))) (RT.mkT (.cons (.int .i64) (.one (.sl (.one (.sl Au))))) ((x.1,x.2.1):RT.D (.cons (.int .i64) (.one (.sl (.one (.sl Au)))))) m).1/\kk=(RT.mkT (.cons (.int .i64) (.one (.sl (.one (.sl Au))))) ((x.1,x.2.1):RT.D (.cons (.int .i64) (.one (.sl (.one (.sl Au)))))) m).2) _ hinj rfl rfl (λ c hc=>?_) ⟨((x.1,x.2.1):RT.D (.cons (.int .i64) (.one (.sl (.one (.sl Au)))))),rfl,⟨hok.1,hok.2.1⟩,⟨rfl,rfl⟩⟩ λ news m' h1 hK0 hln0 O0 N0=>?_)
 . have hc:c<2:=hc;rcases (show c=0\/c=1 by omega) with rfl|rfl
   . exact c0
   . exact c1
 obtain⟨rfl,rfl⟩:news=RT.enc (.cons (.int .i64) (.one (.sl (.one (.sl Au))))) (RT.mkT (.cons (.int .i64) (.one (.sl (.one (.sl Au))))) ((x.1,x.2.1):RT.D (.cons (.int .i64) (.one (.sl (.one (.sl Au)))))) m).1/\m'=(RT.mkT (.cons (.int .i64) (.one (.sl (.one (.sl Au))))) ((x.1,x.2.1):RT.D (.cons (.int .i64) (.one (.sl (.one (.sl Au)))))) m).2:=hK0;have N0_0:RM h1 ω hd (P++[b+0]) (CT.enc (.int .i64) ((RT.mkT (.cons (.int .i64) (.one (.sl (.one (.sl Au))))) ((x.1,x.2.1):RT.D (.cons (.int .i64) (.one (.sl (.one (.sl Au)))))) m).1.1)) u0:=N0 0 (E0 (by decide));have N0_1:RM h1 ω hd (P++[b+1]) (CT.enc (.sl (.one (.sl Au))) ((RT.mkT (.cons (.int .i64) (.one (.sl (.one (.sl Au))))) ((x.1,x.2.1):RT.D (.cons (.int .i64) (.one (.sl (.one (.sl Au)))))) m).1.2)) u1:=N0 1 (E0 (by decide))
 have P0:Only (Zda ω hd P b (RT.enc (.cons (.int .i64) (.cons (.sl (.one (.sl Au))) (.cons (.sl (.one (.sl AJ))) (.cons (.int .i64) (.cons (.sl AY) (.cons (.int .i64) (.one (.bool)))))))) x)) h h1:=O0.mono λ l hs=>by
  obtain⟨c,es,q,hc,e1,e2⟩:=hs;have hc:c<2:=hc;rcases (show c=0\/c=1 by omega) with rfl|rfl
  . cases e1
  . exact⟨1,_,q,E0 (by decide),rfl,e2⟩
 have b0_2:=RM.beside c2 O0 (λ l hs=>by obtain⟨c,es,q,hc,_,e⟩:=hs;have hc:c<2:=hc;exact⟨b+0+c,q,by omega,e⟩);have b0_3:=RM.beside c3 O0 (λ l hs=>by obtain⟨c,es,q,hc,_,e⟩:=hs;have hc:c<2:=hc;exact⟨b+0+c,q,by omega,e⟩);have b0_4:=RM.beside c4 O0 (λ l hs=>by obtain⟨c,es,q,hc,_,e⟩:=hs;have hc:c<2:=hc;exact⟨b+0+c,q,by omega,e⟩);have b0_5:=RM.beside c5 O0 (λ l hs=>by obtain⟨c,es,q,hc,_,e⟩:=hs;have hc:c<2:=hc;exact⟨b+0+c,q,by omega,e⟩);have b0_6:=RM.beside c6 O0 (λ l hs=>by obtain⟨c,es,q,hc,_,e⟩:=hs;have hc:c<2:=hc;exact⟨b+0+c,q,by omega,e⟩);simp only[go_sem,reduceIte,reduceCtorEq,Nat.reduceAdd,Nat.reduceBEq,Int.reduceLT,Int.reduceLE,Int.reduceGT,Int.reduceGE,Int.reduceBEq,Int.reduceBNe,Nat.reduceEqDiff,Nat.reduceLeDiff,Nat.reduceLT,e0,e1,e2,e3,e4,e5,e6,g1,g2,g4];refine J9 (j7 h1 ω hd (P++[b+2]) x.2.2.1 u2 ((RT.mkT (.cons (.int .i64) (.one (.sl (.one (.sl Au))))) ((x.1,x.2.1):RT.D (.cons (.int .i64) (.one (.sl (.one (.sl Au)))))) m).2) _ hok.2.2.1 hinj b0_2 λ h2 O1 N1=>?_);replace N1:RM h2 ω hd (P++[b+2]) (CT.enc (.sl (.one (.sl AJ))) (AP (RT.mkI (.one (.sl AJ))) x.2.2.1 ((RT.mkT (.cons (.int .i64) (.one (.sl (.one (.sl Au))))) ((x.1,x.2.1):RT.D (.cons (.int .i64) (.one (.sl (.one (.sl Au)))))) m).2)).1) u2:=N1;have b1_0:=RM.beside N0_0 O1 (λ l hs=>by obtain⟨q,e⟩:=hs;exact⟨b+2,q,by omega,by rw[e];simp⟩);have b1_1:=RM.beside N0_1 O1 (λ l hs=>by obtain⟨q,e⟩:=hs;exact⟨b+2,q,by omega,by rw[e];simp⟩);have b1_3:=RM.beside b0_3 O1 (λ l hs=>by obtain⟨q,e⟩:=hs;exact⟨b+2,q,by omega,by rw[e];simp⟩);have b1_4:=RM.beside b0_4 O1 (λ l hs=>by obtain⟨q,e⟩:=hs;exact⟨b+2,q,by omega,by rw[e];simp⟩);have b1_5:=RM.beside b0_5 O1 (λ l hs=>by obtain⟨q,e⟩:=hs;exact⟨b+2,q,by omega,by rw[e];simp⟩);have b1_6:=RM.beside b0_6 O1 (λ l hs=>by obtain⟨q,e⟩:=hs;exact⟨b+2,q,by omega,by rw[e];simp⟩);simp only[go_sem,reduceIte,reduceCtorEq,Nat.reduceAdd,Nat.reduceBEq,Int.reduceLT,Int.reduceLE,Int.reduceGT,Int.reduceGE,Int.reduceBEq,Int.reduceBNe,Nat.reduceEqDiff,Nat.reduceLeDiff,Nat.reduceLT,e0,e1,e2,e3,e4,e5,e6,g1,g2,g4];refine J9 (lK h2 ω hd (P++[b+4]) x.2.2.2.2.1 u4 ((AP (RT.mkI (.one (.sl AJ))) x.2.2.1 ((RT.mkT (.cons (.int .i64) (.one (.sl (.one (.sl Au))))) ((x.1,x.2.1):RT.D (.cons (.int .i64) (.one (.sl (.one (.sl Au)))))) m).2)).2) _ hok.2.2.2.2.1 hinj b1_4 λ h3 O2 N2=>?_);replace N2:RM h3 ω hd (P++[b+4]) (CT.enc (.sl AY) (AP (RT.mkI AY) x.2.2.2.2.1 ((AP (RT.mkI (.one (.sl AJ))) x.2.2.1 ((RT.mkT (.cons (.int .i64) (.one (.sl (.one (.sl Au))))) ((x.1,x.2.1):RT.D (.cons (.int .i64) (.one (.sl (.one (.sl Au)))))) m).2)).2)).1) u4:=N2;have b2_0:=RM.beside b1_0 O2 (λ l hs=>by obtain⟨q,e⟩:=hs;exact⟨b+4,q,by omega,by rw[e];simp⟩);have b2_1:=RM.beside b1_1 O2 (λ l hs=>by obtain⟨q,e⟩:=hs;exact⟨b+4,q,by omega,by rw[e];simp⟩);have b2_2:=RM.beside N1 O2 (λ l hs=>by obtain⟨q,e⟩:=hs;exact⟨b+4,q,by omega,by rw[e];simp⟩);have b2_3:=RM.beside b1_3 O2 (λ l hs=>by obtain⟨q,e⟩:=hs;exact⟨b+4,q,by omega,by rw[e];simp⟩);have b2_5:=RM.beside b1_5 O2 (λ l hs=>by obtain⟨q,e⟩:=hs;exact⟨b+4,q,by omega,by rw[e];simp⟩);have b2_6:=RM.beside b1_6 O2 (λ l hs=>by obtain⟨q,e⟩:=hs;exact⟨b+4,q,by omega,by rw[e];simp⟩);simp only[go_sem,reduceIte,reduceCtorEq,Nat.reduceAdd,Nat.reduceBEq,Int.reduceLT,Int.reduceLE,Int.reduceGT,Int.reduceGE,Int.reduceBEq,Int.reduceBNe,Nat.reduceEqDiff,Nat.reduceLeDiff,Nat.reduceLT,e0,e1,e2,e3,e4,e5,e6,g1,g2,g4]
 refine hQ _ _ h3 hK rfl ((Only.trans (Only.trans P0 (Only.mono O1 λ l hs=>by obtain⟨q,e⟩:=hs;exact⟨2,_,q,E0 (by decide),rfl,by rw[e];simp⟩)) (Only.mono O2 λ l hs=>by obtain⟨q,e⟩:=hs;exact⟨4,_,q,E0 (by decide),rfl,by rw[e];simp⟩))) λ c hc=>?_
 have hc:c<7:=hc;rcases (show c=0\/c=1\/c=2\/c=3\/c=4\/c=5\/c=6 by omega) with rfl|rfl|rfl|rfl|rfl|rfl|rfl
 . exact b2_0
 . exact b2_1
 . exact b2_2
 . exact b2_3
 . exact N2
 . exact b2_5
 . exact b2_6
def RQ:DMk:=⟨(.cons (.int .i64) (.cons (.sl (.one (.sl Au))) (.cons (.sl (.one (.sl AJ))) (.cons (.int .i64) (.cons (.sl AY) (.cons (.int .i64) (.one (.bool)))))))),true,Lr,AG,false⟩
theorem Zp:JQ HF (DMk.P RQ):=by unfold RQ;rw[Zo,Zr];exact kU
def mq:DCode:=(.seq [1,0] (.region [oi 0 4 0]) (.seq [1] (.seq [5,1,0] (.region [oi 0 5 0]) (.block 0 (.loop [0,1,5] 1 (.seq [5,1,0] (.seq [9,5,1,0] (.region [om 0 6 5,on 1 7 0,oa 2 8 (.len (.t 7)),oa 3 9 (.bin .lss (.t 6) (.t 8))]) (.cond (.t 9) .skip (.exit 0))) (.seq [5,1,0] (.block 1 (.seq [5,1,0] (.seq [18,5,1,0] (.region [on 0 12 0,om 1 13 5,oa 2 14 (.indexA 3 (.t 12) (.t 13)),oa 3 15 (.fieldA 0 (.t 14)),oa 4 16 (.loadH none (.t 15)),om 5 17 1,oa 6 18 (.bin .neq (.t 16) (.t 17))]) (.cond (.t 18) (.seq [4] (.region [oi 0 4 (-1)]) .ret) .skip)) (.seq [5,1,0] (.region [om 0 19 1,oa 1 20 (.bin .add (.t 19) AF),om 2 1 20]) (.seq [5,1,0] (.seq [27,5,1,0] (.region [on 0 21 0,om 1 22 5,oa 2 23 (.indexA 3 (.t 21) (.t 22)),oa 3 24 (.fieldA 1 (.t 23)),oa 4 25 (.loadH none (.t 24)),om 5 26 1,oa 6 27 (.bin .neq (.t 25) (.t 26))]) (.cond (.t 27) (.seq [4] (.region [oi 0 4 (-1)]) .ret) .skip)) (.seq [5,1,0] (.region [om 0 28 1,oa 1 29 (.bin .add (.t 28) AF),om 2 1 29]) (.seq [5,1,0] (.seq [36,5,1,0] (.region [on 0 30 0,om 1 31 5,oa 2 32 (.indexA 3 (.t 30) (.t 31)),oa 3 33 (.fieldA 2 (.t 32)),oa 4 34 (.loadH none (.t 33)),om 5 35 1,oa 6 36 (.bin .neq (.t 34) (.t 35))]) (.cond (.t 36) (.seq [4] (.region [oi 0 4 (-1)]) .ret) .skip)) (.region [om 0 37 1,oa 1 38 (.bin .add (.t 37) AF),om 2 1 38]))))))) (.region [om 0 10 5,oa 1 11 (.bin .add (.t 10) AF),om 2 5 11])))))) (.seq [4] (.region [om 0 39 1,om 1 4 39]) .ret)))
def IQ:Fn:=⟨⟨2,40,0,true,[.tmp 4],mq⟩,[.one .frz (.sl AJ),.one .frz (.int .i64)],.one (.one .own (.int .i64))⟩
theorem mi:IQ.A:=AN trivial
def FC:J3->Int:=IQ.V
def O3:J3->Prop:=IQ.O
theorem lq:IQ.B:=AO trivial (by kernel_rfl) (λ x=>by kernel_rfl)
def jY:DCode:=(.seq [1,0] (.region [oi 0 4 0]) (.seq [1] (.seq [5,1,0] (.region [oi 0 5 0]) (.block 0 (.loop [0,1,5] 1 (.seq [5,1,0] (.seq [9,5,1,0] (.region [om 0 6 5,on 1 7 0,oa 2 8 (.len (.t 7)),oa 3 9 (.bin .lss (.t 6) (.t 8))]) (.cond (.t 9) .skip (.exit 0))) (.seq [5,1,0] (.block 1 (.seq [5,1,0] (.region [on 0 12 0,om 1 13 5,oa 2 14 (.indexA 1 (.t 12) (.t 13)),oa 3 15 (.loadH none (.t 14)),om 4 16 1,oF 5 17 IQ [(.t 15),(.t 16)],om 6 1 17]) (.seq [19,5,1,0] (.region [om 0 18 1,oa 1 19 (.bin .lss (.t 18) AL)]) (.cond (.t 19) (.seq [4] (.region [oi 0 4 (-1)]) .ret) .skip)))) (.region [om 0 10 5,oa 1 11 (.bin .add (.t 10) AF),om 2 5 11])))))) (.seq [4] (.region [om 0 20 1,om 1 4 20]) .ret)))
def IB:Fn:=⟨⟨2,21,0,true,[.tmp 4],jY⟩,[.one .frz (.sl (.one (.sl AJ))),.one .frz (.int .i64)],.one (.one .own (.int .i64))⟩
theorem kI:IB.A:=AN ⟨mi,trivial⟩
def Iz:F3->Int:=IB.V
def Rr:F3->Prop:=IB.O
theorem kq:IB.B:=AO ⟨lq,trivial⟩ (by kernel_rfl) (λ x=>by kernel_rfl)
def lM:DCode:=(.seq [1,0] (.region [oi 0 4 0]) (.seq [1] (.seq [5,1,0] (.region [oi 0 5 0]) (.block 0 (.loop [0,1,5] 1 (.seq [5,1,0] (.seq [9,5,1,0] (.region [om 0 6 5,on 1 7 0,oa 2 8 (.len (.t 7)),oa 3 9 (.bin .lss (.t 6) (.t 8))]) (.cond (.t 9) .skip (.exit 0))) (.seq [5,1,0] (.block 1 (.seq [5,1,0] (.seq [18,5,1,0] (.region [on 0 12 0,om 1 13 5,oa 2 14 (.indexA 5 (.t 12) (.t 13)),oa 3 15 (.fieldA 0 (.t 14)),oa 4 16 (.loadH none (.t 15)),om 5 17 1,oa 6 18 (.bin .neq (.t 16) (.t 17))]) (.cond (.t 18) (.seq [4] (.region [oi 0 4 (-1)]) .ret) .skip)) (.seq [5,1,0] (.region [om 0 19 1,oa 1 20 (.bin .add (.t 19) AF),om 2 1 20]) (.seq [5,1,0] (.seq [28,5,1,0] (.region [on 0 21 0,om 1 22 5,oa 2 23 (.indexA 5 (.t 21) (.t 22)),oa 3 24 (.fieldA 1 (.t 23)),oa 4 25 (.fieldA 0 (.t 24)),oa 5 26 (.loadH none (.t 25)),om 6 27 1,oa 7 28 (.bin .neq (.t 26) (.t 27))]) (.cond (.t 28) (.seq [4] (.region [oi 0 4 (-1)]) .ret) .skip)) (.seq [5,1,0] (.region [om 0 29 1,oa 1 30 (.bin .add (.t 29) AF),om 2 1 30]) (.seq [5,1,0] (.seq [38,5,1,0] (.region [on 0 31 0,om 1 32 5,oa 2 33 (.indexA 5 (.t 31) (.t 32)),oa 3 34 (.fieldA 1 (.t 33)),oa 4 35 (.fieldA 1 (.t 34)),oa 5 36 (.loadH none (.t 35)),om 6 37 1,oa 7 38 (.bin .neq (.t 36) (.t 37))]) (.cond (.t 38) (.seq [4] (.region [oi 0 4 (-1)]) .ret) .skip)) (.seq [5,1,0] (.region [om 0 39 1,oa 1 40 (.bin .add (.t 39) AF),om 2 1 40]) (.seq [5,1,0] (.seq [48,5,1,0] (.region [on 0 41 0,om 1 42 5,oa 2 43 (.indexA 5 (.t 41) (.t 42)),oa 3 44 (.fieldA 1 (.t 43)),oa 4 45 (.fieldA 2 (.t 44)),oa 5 46 (.loadH none (.t 45)),om 6 47 1,oa 7 48 (.bin .neq (.t 46) (.t 47))]) (.cond (.t 48) (.seq [4] (.region [oi 0 4 (-1)]) .ret) .skip)) (.seq [5,1,0] (.region [om 0 49 1,oa 1 50 (.bin .add (.t 49) AF),om 2 1 50]) (.seq [5,1,0] (.seq [58,5,1,0] (.region [on 0 51 0,om 1 52 5,oa 2 53 (.indexA 5 (.t 51) (.t 52)),oa 3 54 (.fieldA 1 (.t 53)),oa 4 55 (.fieldA 3 (.t 54)),oa 5 56 (.loadH none (.t 55)),om 6 57 1,oa 7 58 (.bin .neq (.t 56) (.t 57))]) (.cond (.t 58) (.seq [4] (.region [oi 0 4 (-1)]) .ret) .skip)) (.region [om 0 59 1,oa 1 60 (.bin .add (.t 59) AF),om 2 1 60]))))))))))) (.region [om 0 10 5,oa 1 11 (.bin .add (.t 10) AF),om 2 5 11])))))) (.seq [4] (.region [om 0 61 1,om 1 4 61]) .ret)))
def IM:Fn:=⟨⟨2,62,0,true,[.tmp 4],lM⟩,[.one .frz (.sl AY),.one .frz (.int .i64)],.one (.one .own (.int .i64))⟩
theorem lR:IM.A:=AN trivial
def O4:D8->Int:=IM.V
def RP:D8->Prop:=IM.O
theorem mg:IM.B:=AO trivial (by kernel_rfl) (λ x=>by kernel_rfl)
def kW:DCode:=(.seq [2,1] (.region [oa 0 2 (.boxB 0 7 (.t 0)),oi 1 4 0]) (.seq [2,1] (.region [oa 0 5 (.fieldA 0 (.t 2)),oa 1 6 (.loadB 0 (some 2) (.t 5)),om 2 7 1,oF 3 8 IH [(.t 6),(.t 7)],om 4 1 8]) (.seq [2,1] (.seq [10,2,1] (.region [om 0 9 1,oa 1 10 (.bin .lss (.t 9) AL)]) (.cond (.t 10) (.seq [4] (.region [oi 0 4 (-1)]) .ret) .skip)) (.seq [2,1] (.region [oa 0 11 (.fieldA 2 (.t 2)),oa 1 12 (.loadB 0 none (.t 11)),om 2 13 1,oF 3 14 IB [(.t 12),(.t 13)],om 4 1 14]) (.seq [2,1] (.seq [16,2,1] (.region [om 0 15 1,oa 1 16 (.bin .lss (.t 15) AL)]) (.cond (.t 16) (.seq [4] (.region [oi 0 4 (-1)]) .ret) .skip)) (.seq [1] (.region [oa 0 17 (.fieldA 4 (.t 2)),oa 1 18 (.loadB 0 none (.t 17)),om 2 19 1,oF 3 20 IM [(.t 18),(.t 19)],om 4 1 20]) (.seq [1] (.seq [22,1] (.region [om 0 21 1,oa 1 22 (.bin .lss (.t 21) AL)]) (.cond (.t 22) (.seq [4] (.region [oi 0 4 (-1)]) .ret) .skip)) (.seq [4] (.region [om 0 23 1,om 1 4 23]) .ret))))))))
def GU:Fn:=⟨⟨2,24,1,true,[.tmp 4],kW⟩,[.agg [Av,(.frz,.sl (.one (.sl Au))),(.frz,.sl (.one (.sl AJ))),Av,(.frz,.sl AY),Av,(.frz,.bool)],.one .frz (.int .i64)],.one (.one .own (.int .i64))⟩
theorem Zz:GU.A:=AN ⟨jT,kI,lR,trivial⟩
def DD:Em->Int:=GU.V
def OS:Em->Prop:=GU.O
theorem Zv:GU.B:=AO ⟨kK,kq,mg,trivial⟩ (by kernel_rfl) (λ x=>by kernel_rfl)
end
section
set_option maxRecDepth 100000
def Lu(x:BM)(x0:Int):Bool:=(bAnd (iLt x0 (lLen x.2.2.1)) (bNot (bNot (SF (lGet x.2.2.1 (iNat x0) [])))))
def GQ(x0:Int):Int:=(iAdd .i64 x0 1)
def M5(x:BM)(x0:Int):Bool:=(bAnd (iLt x0 (lLen x.2.2.2.2.1)) (bNot (bOr (iGe (lGet x.2.2.2.2.1 (iNat x0) (0,0,0,0,0)).1 x.1) (bAnd (iNe (lGet x.2.2.2.2.1 (iNat x0) (0,0,0,0,0)).2.1 9) (iGe (lGet x.2.2.2.2.1 (iNat x0) (0,0,0,0,0)).2.2.2.2 (lLen x.2.1))))))
def Vf(x:BM)(x0:Int):Prop:=(((iLt x0 (lLen x.2.2.1))=true->((((0:Int)<=x0)/\(x0<(((List.length x.2.2.1):Int))))/\(((iNat x0)<(List.length x.2.2.1))/\(Pf (lGet x.2.2.1 (iNat x0) [])))))/\((iLt x0 (lLen x.2.2.1))=false->True))
def Vh(x:BM)(x0:Int):Prop:=(((iLt x0 (lLen x.2.2.2.2.1))=true->((((0:Int)<=x0)/\(x0<(((List.length x.2.2.2.2.1):Int))))/\(((iNat x0)<(List.length x.2.2.2.2.1))/\(((iGe (lGet x.2.2.2.2.1 (iNat x0) (0,0,0,0,0)).1 x.1)=true->True)/\((iGe (lGet x.2.2.2.2.1 (iNat x0) (0,0,0,0,0)).1 x.1)=false->((((0:Int)<=x0)/\(x0<(((List.length x.2.2.2.2.1):Int))))/\(((iNat x0)<(List.length x.2.2.2.2.1))/\(((iNe (lGet x.2.2.2.2.1 (iNat x0) (0,0,0,0,0)).2.1 9)=true->((((0:Int)<=x0)/\(x0<(((List.length x.2.2.2.2.1):Int))))/\((iNat x0)<(List.length x.2.2.2.2.1))))/\((iNe (lGet x.2.2.2.2.1 (iNat x0) (0,0,0,0,0)).2.1 9)=false->True)))))))))/\((iLt x0 (lLen x.2.2.2.2.1))=false->True))
theorem ox (x):Nk x=(bAnd (bNot (bOr (bNot (Km (x.1,x.2.1))) (bOr (iGt (lLen x.2.2.1) 4) (bNot (Jz x.2.2.2.2.1))))) (bAnd (bNot (iLt (Ap (Lu x) GQ 0) (lLen x.2.2.1))) (bAnd (bNot (iLt (Ap (M5 x) GQ 0) (lLen x.2.2.2.2.1))) (bAnd (BZ (x.2.2.2.1,0,(iSub .i64 (iShl .i64 1 (lLen x.2.1)) 1))) (bAnd (iEq (iRem x.2.2.2.1 2) 0) (BZ (x.2.2.2.2.2.1,0,15))))))):=(IV.v x).trans (by kernel_rfl)
theorem nz (x):Sq x=(((Sb (x.1,x.2.1))/\(((bNot (Km (x.1,x.2.1)))=true->True)/\((bNot (Km (x.1,x.2.1)))=false->(((iGt (lLen x.2.2.1) 4)=true->True)/\((iGt (lLen x.2.2.1) 4)=false->(Pn x.2.2.2.2.1))))))/\(((bOr (bNot (Km (x.1,x.2.1))) (bOr (iGt (lLen x.2.2.1) 4) (bNot (Jz x.2.2.2.2.1))))=true->True)/\((bOr (bNot (Km (x.1,x.2.1))) (bOr (iGt (lLen x.2.2.1) 4) (bNot (Jz x.2.2.2.2.1))))=false->((LoopOk (Lu x) GQ (Vf x) 0)/\(((iLt (Ap (Lu x) GQ 0) (lLen x.2.2.1))=true->True)/\((iLt (Ap (Lu x) GQ 0) (lLen x.2.2.1))=false->((LoopOk (M5 x) GQ (Vh x) 0)/\(((iLt (Ap (M5 x) GQ 0) (lLen x.2.2.2.2.1))=true->True)/\((iLt (Ap (M5 x) GQ 0) (lLen x.2.2.2.2.1))=false->(((0:Int)<=(lLen x.2.1))/\((Fb (x.2.2.2.1,0,(iSub .i64 (iShl .i64 1 (lLen x.2.1)) 1)))/\(((BZ (x.2.2.2.1,0,(iSub .i64 (iShl .i64 1 (lLen x.2.1)) 1)))=true->(((2:Int)≠0)/\(((iEq (iRem x.2.2.2.1 2) 0)=true->(Fb (x.2.2.2.2.2.1,0,15)))/\((iEq (iRem x.2.2.2.1 2) 0)=false->True))))/\((BZ (x.2.2.2.1,0,(iSub .i64 (iShl .i64 1 (lLen x.2.1)) 1)))=false->True))))))))))))):=(IV.o x).trans (by kernel_rfl)
def Ls(x:BM)(x0:Int):Bool:=(bAnd (iLt x0 (lLen x.2.2.1)) (bNot (bNot (SI (lGet x.2.2.1 (iNat x0) [])))))
def Ix(x0:Int):Int:=(iAdd .i64 x0 1)
def M4(x:BM)(x0:Int):Bool:=(bAnd (iLt x0 (lLen x.2.2.2.2.1)) (bNot (bOr (iGe (lGet x.2.2.2.2.1 (iNat x0) (0,0,0,0,0)).1 x.1) (bAnd (iNe (lGet x.2.2.2.2.1 (iNat x0) (0,0,0,0,0)).2.1 9) (iGe (lGet x.2.2.2.2.1 (iNat x0) (0,0,0,0,0)).2.2.2.2 (lLen x.2.1))))))
def Vl(x:BM)(x0:Int):Prop:=(((iLt x0 (lLen x.2.2.1))=true->((((0:Int)<=x0)/\(x0<(((List.length x.2.2.1):Int))))/\(((iNat x0)<(List.length x.2.2.1))/\(Pc (lGet x.2.2.1 (iNat x0) [])))))/\((iLt x0 (lLen x.2.2.1))=false->True))
def Vk(x:BM)(x0:Int):Prop:=(((iLt x0 (lLen x.2.2.2.2.1))=true->((((0:Int)<=x0)/\(x0<(((List.length x.2.2.2.2.1):Int))))/\((iNat x0)<(List.length x.2.2.2.2.1))))/\((iLt x0 (lLen x.2.2.2.2.1))=false->True))
theorem mX (x):E9 x=(bAnd (bNot (bOr (bNot (HG (x.1,x.2.1))) (bOr (iGt (lLen x.2.2.1) 4) (bOr (bNot (Gi x.2.2.2.2.1)) (bOr (iLt x.2.2.2.2.2.1 0) (iGt x.2.2.2.2.2.1 15)))))) (bAnd (bNot (iLt (Ap (Ls x) Ix 0) (lLen x.2.2.1))) (bAnd (bNot (iLt (Ap (M4 x) Ix 0) (lLen x.2.2.2.2.1))) (bAnd (iGe x.2.2.2.1 0) (bAnd (iEq (iRem x.2.2.2.1 2) 0) (iLt x.2.2.2.1 (iShl .i64 1 (lLen x.2.1)))))))):=(I4.v x).trans (by kernel_rfl)
theorem oc (x):RR x=(((RZ (x.1,x.2.1))/\(((bNot (HG (x.1,x.2.1)))=true->True)/\((bNot (HG (x.1,x.2.1)))=false->(((iGt (lLen x.2.2.1) 4)=true->True)/\((iGt (lLen x.2.2.1) 4)=false->(Pj x.2.2.2.2.1))))))/\(((bOr (bNot (HG (x.1,x.2.1))) (bOr (iGt (lLen x.2.2.1) 4) (bOr (bNot (Gi x.2.2.2.2.1)) (bOr (iLt x.2.2.2.2.2.1 0) (iGt x.2.2.2.2.2.1 15)))))=true->True)/\((bOr (bNot (HG (x.1,x.2.1))) (bOr (iGt (lLen x.2.2.1) 4) (bOr (bNot (Gi x.2.2.2.2.1)) (bOr (iLt x.2.2.2.2.2.1 0) (iGt x.2.2.2.2.2.1 15)))))=false->((LoopOk (Ls x) Ix (Vl x) 0)/\(((iLt (Ap (Ls x) Ix 0) (lLen x.2.2.1))=true->True)/\((iLt (Ap (Ls x) Ix 0) (lLen x.2.2.1))=false->((LoopOk (M4 x) Ix (Vk x) 0)/\(((iLt (Ap (M4 x) Ix 0) (lLen x.2.2.2.2.1))=true->True)/\((iLt (Ap (M4 x) Ix 0) (lLen x.2.2.2.2.1))=false->(((iGe x.2.2.2.1 0)=true->(((2:Int)≠0)/\(((iEq (iRem x.2.2.2.1 2) 0)=true->((0:Int)<=(lLen x.2.1)))/\((iEq (iRem x.2.2.2.1 2) 0)=false->True))))/\((iGe x.2.2.2.1 0)=false->True))))))))))):=(I4.o x).trans (by kernel_rfl)
def Sc(x:BM)(x0:Int×Ch):Bool:=(iLt x0.1 (lLen x.2.2.1))
def RU(x:BM)(x0:Int×Ch):(Int×Ch):=((iAdd .i64 x0.1 1),(lApp x0.2 [(lApp [] (lGet x.2.2.1 (iNat x0.1) []))]))
def VC(x:BM)(x0:Int×Ch):Prop:=(((iLt x0.1 (lLen x.2.2.1))=true->((((0:Int)<=x0.1)/\(x0.1<(((List.length x.2.2.1):Int))))/\(((iNat x0.1)<(List.length x.2.2.1))/\((AK (((List.length ([]:List DX))+(List.length (lGet x.2.2.1 (iNat x0.1) [])))*3))/\(AK (((List.length x0.2)+(List.length [(lApp [] (lGet x.2.2.1 (iNat x0.1) []))]))*1))))))/\((iLt x0.1 (lLen x.2.2.1))=false->True))
theorem qQ (x):DG x=((Pp (x.1,x.2.1)).1,(Pp (x.1,x.2.1)).2,(Ap (Sc x) (RU x) (0,[])).2,x.2.2.2.1,(lApp [] x.2.2.2.2.1),x.2.2.2.2.2):=(Js.v x).trans (by kernel_rfl)
theorem rQ (x):SH x=((SM (x.1,x.2.1))/\((LoopOk (Sc x) (RU x) (VC x) (0,[]))/\(AK (((List.length ([]:List C0))+(List.length x.2.2.2.2.1))*5)))):=(Js.o x).trans (by kernel_rfl)
def Rj(x:Ch)(x0:F3):Bool:=(iLt x0.2 (lLen x))
def Rk(x:Ch)(x0:F3):F3:=((lApp x0.1 [(lGet x (iNat x0.2) [])]),(iAdd .i64 x0.2 1))
def Vb(x:Ch)(x0:F3):Prop:=(((iLt x0.2 (lLen x))=true->((((0:Int)<=x0.2)/\(x0.2<(((List.length x):Int))))/\(((iNat x0.2)<(List.length x))/\((AK ((List.length (lGet x (iNat x0.2) []))*3))/\(AK (((List.length x0.1)+(List.length [(lGet x (iNat x0.2) [])]))*1))))))/\((iLt x0.2 (lLen x))=false->True))
theorem kF (x):RL x=(Ap (Rj x) (Rk x) ([],0)).1:=(II.v x).trans (by kernel_rfl)
theorem j3 (x):RD x=(LoopOk (Rj x) (Rk x) (Vb x) ([],0)):=(II.o x).trans (by kernel_rfl)
theorem mj (x):FC x=(bSel (iLt (Ap (fun(x0:Aq)=>(bAnd (iLt x0.2 (lLen x.1)) (bAnd (bNot (iNe (lGet x.1 (iNat x0.2) (0,0,0)).1 x0.1)) (bAnd (bNot (iNe (lGet x.1 (iNat x0.2) (0,0,0)).2.1 (iAdd .i64 x0.1 1))) (bNot (iNe (lGet x.1 (iNat x0.2) (0,0,0)).2.2 (iAdd .i64 (iAdd .i64 x0.1 1) 1))))))) (fun(x0:Aq)=>((iAdd .i64 (iAdd .i64 (iAdd .i64 x0.1 1) 1) 1),(iAdd .i64 x0.2 1))) (x.2,0)).2 (lLen x.1)) (bSel (iNe (lGet x.1 (iNat (Ap (fun(x0:Aq)=>(bAnd (iLt x0.2 (lLen x.1)) (bAnd (bNot (iNe (lGet x.1 (iNat x0.2) (0,0,0)).1 x0.1)) (bAnd (bNot (iNe (lGet x.1 (iNat x0.2) (0,0,0)).2.1 (iAdd .i64 x0.1 1))) (bNot (iNe (lGet x.1 (iNat x0.2) (0,0,0)).2.2 (iAdd .i64 (iAdd .i64 x0.1 1) 1))))))) (fun(x0:Aq)=>((iAdd .i64 (iAdd .i64 (iAdd .i64 x0.1 1) 1) 1),(iAdd .i64 x0.2 1))) (x.2,0)).2) (0,0,0)).1 (Ap (fun(x0:Aq)=>(bAnd (iLt x0.2 (lLen x.1)) (bAnd (bNot (iNe (lGet x.1 (iNat x0.2) (0,0,0)).1 x0.1)) (bAnd (bNot (iNe (lGet x.1 (iNat x0.2) (0,0,0)).2.1 (iAdd .i64 x0.1 1))) (bNot (iNe (lGet x.1 (iNat x0.2) (0,0,0)).2.2 (iAdd .i64 (iAdd .i64 x0.1 1) 1))))))) (fun(x0:Aq)=>((iAdd .i64 (iAdd .i64 (iAdd .i64 x0.1 1) 1) 1),(iAdd .i64 x0.2 1))) (x.2,0)).1) (-1) (bSel (iNe (lGet x.1 (iNat (Ap (fun(x0:Aq)=>(bAnd (iLt x0.2 (lLen x.1)) (bAnd (bNot (iNe (lGet x.1 (iNat x0.2) (0,0,0)).1 x0.1)) (bAnd (bNot (iNe (lGet x.1 (iNat x0.2) (0,0,0)).2.1 (iAdd .i64 x0.1 1))) (bNot (iNe (lGet x.1 (iNat x0.2) (0,0,0)).2.2 (iAdd .i64 (iAdd .i64 x0.1 1) 1))))))) (fun(x0:Aq)=>((iAdd .i64 (iAdd .i64 (iAdd .i64 x0.1 1) 1) 1),(iAdd .i64 x0.2 1))) (x.2,0)).2) (0,0,0)).2.1 (iAdd .i64 (Ap (fun(x0:Aq)=>(bAnd (iLt x0.2 (lLen x.1)) (bAnd (bNot (iNe (lGet x.1 (iNat x0.2) (0,0,0)).1 x0.1)) (bAnd (bNot (iNe (lGet x.1 (iNat x0.2) (0,0,0)).2.1 (iAdd .i64 x0.1 1))) (bNot (iNe (lGet x.1 (iNat x0.2) (0,0,0)).2.2 (iAdd .i64 (iAdd .i64 x0.1 1) 1))))))) (fun(x0:Aq)=>((iAdd .i64 (iAdd .i64 (iAdd .i64 x0.1 1) 1) 1),(iAdd .i64 x0.2 1))) (x.2,0)).1 1)) (-1) (-1))) (Ap (fun(x0:Aq)=>(bAnd (iLt x0.2 (lLen x.1)) (bAnd (bNot (iNe (lGet x.1 (iNat x0.2) (0,0,0)).1 x0.1)) (bAnd (bNot (iNe (lGet x.1 (iNat x0.2) (0,0,0)).2.1 (iAdd .i64 x0.1 1))) (bNot (iNe (lGet x.1 (iNat x0.2) (0,0,0)).2.2 (iAdd .i64 (iAdd .i64 x0.1 1) 1))))))) (fun(x0:Aq)=>((iAdd .i64 (iAdd .i64 (iAdd .i64 x0.1 1) 1) 1),(iAdd .i64 x0.2 1))) (x.2,0)).1):=(IQ.v x).trans (by kernel_rfl)
theorem lY (x):O3 x=(LoopOk (fun(x0:Aq)=>(bAnd (iLt x0.2 (lLen x.1)) (bAnd (bNot (iNe (lGet x.1 (iNat x0.2) (0,0,0)).1 x0.1)) (bAnd (bNot (iNe (lGet x.1 (iNat x0.2) (0,0,0)).2.1 (iAdd .i64 x0.1 1))) (bNot (iNe (lGet x.1 (iNat x0.2) (0,0,0)).2.2 (iAdd .i64 (iAdd .i64 x0.1 1) 1))))))) (fun(x0:Aq)=>((iAdd .i64 (iAdd .i64 (iAdd .i64 x0.1 1) 1) 1),(iAdd .i64 x0.2 1))) (fun(x0:Aq)=>(((iLt x0.2 (lLen x.1))=true->((((0:Int)<=x0.2)/\(x0.2<(((List.length x.1):Int))))/\(((iNat x0.2)<(List.length x.1))/\(((iNe (lGet x.1 (iNat x0.2) (0,0,0)).1 x0.1)=true->True)/\((iNe (lGet x.1 (iNat x0.2) (0,0,0)).1 x0.1)=false->((((0:Int)<=x0.2)/\(x0.2<(((List.length x.1):Int))))/\(((iNat x0.2)<(List.length x.1))/\(((iNe (lGet x.1 (iNat x0.2) (0,0,0)).2.1 (iAdd .i64 x0.1 1))=true->True)/\((iNe (lGet x.1 (iNat x0.2) (0,0,0)).2.1 (iAdd .i64 x0.1 1))=false->((((0:Int)<=x0.2)/\(x0.2<(((List.length x.1):Int))))/\((iNat x0.2)<(List.length x.1))))))))))))/\((iLt x0.2 (lLen x.1))=false->True))) (x.2,0)):=(IQ.o x).trans (by kernel_rfl)
theorem jR (x):Iz x=(bSel (iLt (Ap (fun(x0:Aq)=>(bAnd (iLt x0.2 (lLen x.1)) (bNot (iLt (FC ((lGet x.1 (iNat x0.2) []),x0.1)) 0)))) (fun(x0:Aq)=>((FC ((lGet x.1 (iNat x0.2) []),x0.1)),(iAdd .i64 x0.2 1))) (x.2,0)).2 (lLen x.1)) (-1) (Ap (fun(x0:Aq)=>(bAnd (iLt x0.2 (lLen x.1)) (bNot (iLt (FC ((lGet x.1 (iNat x0.2) []),x0.1)) 0)))) (fun(x0:Aq)=>((FC ((lGet x.1 (iNat x0.2) []),x0.1)),(iAdd .i64 x0.2 1))) (x.2,0)).1):=(IB.v x).trans (by kernel_rfl)
theorem kg (x):Rr x=(LoopOk (fun(x0:Aq)=>(bAnd (iLt x0.2 (lLen x.1)) (bNot (iLt (FC ((lGet x.1 (iNat x0.2) []),x0.1)) 0)))) (fun(x0:Aq)=>((FC ((lGet x.1 (iNat x0.2) []),x0.1)),(iAdd .i64 x0.2 1))) (fun(x0:Aq)=>(((iLt x0.2 (lLen x.1))=true->((((0:Int)<=x0.2)/\(x0.2<(((List.length x.1):Int))))/\(((iNat x0.2)<(List.length x.1))/\(O3 ((lGet x.1 (iNat x0.2) []),x0.1)))))/\((iLt x0.2 (lLen x.1))=false->True))) (x.2,0)):=(IB.o x).trans (by kernel_rfl)
theorem k8 (x):O4 x=(bSel (iLt (Ap (fun(x0:Aq)=>(bAnd (iLt x0.2 (lLen x.1)) (bAnd (bNot (iNe (lGet x.1 (iNat x0.2) (0,0,0,0,0)).1 x0.1)) (bAnd (bNot (iNe (lGet x.1 (iNat x0.2) (0,0,0,0,0)).2.1 (iAdd .i64 x0.1 1))) (bAnd (bNot (iNe (lGet x.1 (iNat x0.2) (0,0,0,0,0)).2.2.1 (iAdd .i64 (iAdd .i64 x0.1 1) 1))) (bAnd (bNot (iNe (lGet x.1 (iNat x0.2) (0,0,0,0,0)).2.2.2.1 (iAdd .i64 (iAdd .i64 (iAdd .i64 x0.1 1) 1) 1))) (bNot (iNe (lGet x.1 (iNat x0.2) (0,0,0,0,0)).2.2.2.2 (iAdd .i64 (iAdd .i64 (iAdd .i64 (iAdd .i64 x0.1 1) 1) 1) 1))))))))) (fun(x0:Aq)=>((iAdd .i64 (iAdd .i64 (iAdd .i64 (iAdd .i64 (iAdd .i64 x0.1 1) 1) 1) 1) 1),(iAdd .i64 x0.2 1))) (x.2,0)).2 (lLen x.1)) (bSel (iNe (lGet x.1 (iNat (Ap (fun(x0:Aq)=>(bAnd (iLt x0.2 (lLen x.1)) (bAnd (bNot (iNe (lGet x.1 (iNat x0.2) (0,0,0,0,0)).1 x0.1)) (bAnd (bNot (iNe (lGet x.1 (iNat x0.2) (0,0,0,0,0)).2.1 (iAdd .i64 x0.1 1))) (bAnd (bNot (iNe (lGet x.1 (iNat x0.2) (0,0,0,0,0)).2.2.1 (iAdd .i64 (iAdd .i64 x0.1 1) 1))) (bAnd (bNot (iNe (lGet x.1 (iNat x0.2) (0,0,0,0,0)).2.2.2.1 (iAdd .i64 (iAdd .i64 (iAdd .i64 x0.1 1) 1) 1))) (bNot (iNe (lGet x.1 (iNat x0.2) (0,0,0,0,0)).2.2.2.2 (iAdd .i64 (iAdd .i64 (iAdd .i64 (iAdd .i64 x0.1 1) 1) 1) 1))))))))) (fun(x0:Aq)=>((iAdd .i64 (iAdd .i64 (iAdd .i64 (iAdd .i64 (iAdd .i64 x0.1 1) 1) 1) 1) 1),(iAdd .i64 x0.2 1))) (x.2,0)).2) (0,0,0,0,0)).1 (Ap (fun(x0:Aq)=>(bAnd (iLt x0.2 (lLen x.1)) (bAnd (bNot (iNe (lGet x.1 (iNat x0.2) (0,0,0,0,0)).1 x0.1)) (bAnd (bNot (iNe (lGet x.1 (iNat x0.2) (0,0,0,0,0)).2.1 (iAdd .i64 x0.1 1))) (bAnd (bNot (iNe (lGet x.1 (iNat x0.2) (0,0,0,0,0)).2.2.1 (iAdd .i64 (iAdd .i64 x0.1 1) 1))) (bAnd (bNot (iNe (lGet x.1 (iNat x0.2) (0,0,0,0,0)).2.2.2.1 (iAdd .i64 (iAdd .i64 (iAdd .i64 x0.1 1) 1) 1))) (bNot (iNe (lGet x.1 (iNat x0.2) (0,0,0,0,0)).2.2.2.2 (iAdd .i64 (iAdd .i64 (iAdd .i64 (iAdd .i64 x0.1 1) 1) 1) 1))))))))) (fun(x0:Aq)=>((iAdd .i64 (iAdd .i64 (iAdd .i64 (iAdd .i64 (iAdd .i64 x0.1 1) 1) 1) 1) 1),(iAdd .i64 x0.2 1))) (x.2,0)).1) (-1) (bSel (iNe (lGet x.1 (iNat (Ap (fun(x0:Aq)=>(bAnd (iLt x0.2 (lLen x.1)) (bAnd (bNot (iNe (lGet x.1 (iNat x0.2) (0,0,0,0,0)).1 x0.1)) (bAnd (bNot (iNe (lGet x.1 (iNat x0.2) (0,0,0,0,0)).2.1 (iAdd .i64 x0.1 1))) (bAnd (bNot (iNe (lGet x.1 (iNat x0.2) (0,0,0,0,0)).2.2.1 (iAdd .i64 (iAdd .i64 x0.1 1) 1))) (bAnd (bNot (iNe (lGet x.1 (iNat x0.2) (0,0,0,0,0)).2.2.2.1 (iAdd .i64 (iAdd .i64 (iAdd .i64 x0.1 1) 1) 1))) (bNot (iNe (lGet x.1 (iNat x0.2) (0,0,0,0,0)).2.2.2.2 (iAdd .i64 (iAdd .i64 (iAdd .i64 (iAdd .i64 x0.1 1) 1) 1) 1))))))))) (fun(x0:Aq)=>((iAdd .i64 (iAdd .i64 (iAdd .i64 (iAdd .i64 (iAdd .i64 x0.1 1) 1) 1) 1) 1),(iAdd .i64 x0.2 1))) (x.2,0)).2) (0,0,0,0,0)).2.1 (iAdd .i64 (Ap (fun(x0:Aq)=>(bAnd (iLt x0.2 (lLen x.1)) (bAnd (bNot (iNe (lGet x.1 (iNat x0.2) (0,0,0,0,0)).1 x0.1)) (bAnd (bNot (iNe (lGet x.1 (iNat x0.2) (0,0,0,0,0)).2.1 (iAdd .i64 x0.1 1))) (bAnd (bNot (iNe (lGet x.1 (iNat x0.2) (0,0,0,0,0)).2.2.1 (iAdd .i64 (iAdd .i64 x0.1 1) 1))) (bAnd (bNot (iNe (lGet x.1 (iNat x0.2) (0,0,0,0,0)).2.2.2.1 (iAdd .i64 (iAdd .i64 (iAdd .i64 x0.1 1) 1) 1))) (bNot (iNe (lGet x.1 (iNat x0.2) (0,0,0,0,0)).2.2.2.2 (iAdd .i64 (iAdd .i64 (iAdd .i64 (iAdd .i64 x0.1 1) 1) 1) 1))))))))) (fun(x0:Aq)=>((iAdd .i64 (iAdd .i64 (iAdd .i64 (iAdd .i64 (iAdd .i64 x0.1 1) 1) 1) 1) 1),(iAdd .i64 x0.2 1))) (x.2,0)).1 1)) (-1) (bSel (iNe (lGet x.1 (iNat (Ap (fun(x0:Aq)=>(bAnd (iLt x0.2 (lLen x.1)) (bAnd (bNot (iNe (lGet x.1 (iNat x0.2) (0,0,0,0,0)).1 x0.1)) (bAnd (bNot (iNe (lGet x.1 (iNat x0.2) (0,0,0,0,0)).2.1 (iAdd .i64 x0.1 1))) (bAnd (bNot (iNe (lGet x.1 (iNat x0.2) (0,0,0,0,0)).2.2.1 (iAdd .i64 (iAdd .i64 x0.1 1) 1))) (bAnd (bNot (iNe (lGet x.1 (iNat x0.2) (0,0,0,0,0)).2.2.2.1 (iAdd .i64 (iAdd .i64 (iAdd .i64 x0.1 1) 1) 1))) (bNot (iNe (lGet x.1 (iNat x0.2) (0,0,0,0,0)).2.2.2.2 (iAdd .i64 (iAdd .i64 (iAdd .i64 (iAdd .i64 x0.1 1) 1) 1) 1))))))))) (fun(x0:Aq)=>((iAdd .i64 (iAdd .i64 (iAdd .i64 (iAdd .i64 (iAdd .i64 x0.1 1) 1) 1) 1) 1),(iAdd .i64 x0.2 1))) (x.2,0)).2) (0,0,0,0,0)).2.2.1 (iAdd .i64 (iAdd .i64 (Ap (fun(x0:Aq)=>(bAnd (iLt x0.2 (lLen x.1)) (bAnd (bNot (iNe (lGet x.1 (iNat x0.2) (0,0,0,0,0)).1 x0.1)) (bAnd (bNot (iNe (lGet x.1 (iNat x0.2) (0,0,0,0,0)).2.1 (iAdd .i64 x0.1 1))) (bAnd (bNot (iNe (lGet x.1 (iNat x0.2) (0,0,0,0,0)).2.2.1 (iAdd .i64 (iAdd .i64 x0.1 1) 1))) (bAnd (bNot (iNe (lGet x.1 (iNat x0.2) (0,0,0,0,0)).2.2.2.1 (iAdd .i64 (iAdd .i64 (iAdd .i64 x0.1 1) 1) 1))) (bNot (iNe (lGet x.1 (iNat x0.2) (0,0,0,0,0)).2.2.2.2 (iAdd .i64 (iAdd .i64 (iAdd .i64 (iAdd .i64 x0.1 1) 1) 1) 1))))))))) (fun(x0:Aq)=>((iAdd .i64 (iAdd .i64 (iAdd .i64 (iAdd .i64 (iAdd .i64 x0.1 1) 1) 1) 1) 1),(iAdd .i64 x0.2 1))) (x.2,0)).1 1) 1)) (-1) (bSel (iNe (lGet x.1 (iNat (Ap (fun(x0:Aq)=>(bAnd (iLt x0.2 (lLen x.1)) (bAnd (bNot (iNe (lGet x.1 (iNat x0.2) (0,0,0,0,0)).1 x0.1)) (bAnd (bNot (iNe (lGet x.1 (iNat x0.2) (0,0,0,0,0)).2.1 (iAdd .i64 x0.1 1))) (bAnd (bNot (iNe (lGet x.1 (iNat x0.2) (0,0,0,0,0)).2.2.1 (iAdd .i64 (iAdd .i64 x0.1 1) 1))) (bAnd (bNot (iNe (lGet x.1 (iNat x0.2) (0,0,0,0,0)).2.2.2.1 (iAdd .i64 (iAdd .i64 (iAdd .i64 x0.1 1) 1) 1))) (bNot (iNe (lGet x.1 (iNat x0.2) (0,0,0,0,0)).2.2.2.2 (iAdd .i64 (iAdd .i64 (iAdd .i64 (iAdd .i64 x0.1 1) 1) 1) 1))))))))) (fun(x0:Aq)=>((iAdd .i64 (iAdd .i64 (iAdd .i64 (iAdd .i64 (iAdd .i64 x0.1 1) 1) 1) 1) 1),(iAdd .i64 x0.2 1))) (x.2,0)).2) (0,0,0,0,0)).2.2.2.1 (iAdd .i64 (iAdd .i64 (iAdd .i64 (Ap (fun(x0:Aq)=>(bAnd (iLt x0.2 (lLen x.1)) (bAnd (bNot (iNe (lGet x.1 (iNat x0.2) (0,0,0,0,0)).1 x0.1)) (bAnd (bNot (iNe (lGet x.1 (iNat x0.2) (0,0,0,0,0)).2.1 (iAdd .i64 x0.1 1))) (bAnd (bNot (iNe (lGet x.1 (iNat x0.2) (0,0,0,0,0)).2.2.1 (iAdd .i64 (iAdd .i64 x0.1 1) 1))) (bAnd (bNot (iNe (lGet x.1 (iNat x0.2) (0,0,0,0,0)).2.2.2.1 (iAdd .i64 (iAdd .i64 (iAdd .i64 x0.1 1) 1) 1))) (bNot (iNe (lGet x.1 (iNat x0.2) (0,0,0,0,0)).2.2.2.2 (iAdd .i64 (iAdd .i64 (iAdd .i64 (iAdd .i64 x0.1 1) 1) 1) 1))))))))) (fun(x0:Aq)=>((iAdd .i64 (iAdd .i64 (iAdd .i64 (iAdd .i64 (iAdd .i64 x0.1 1) 1) 1) 1) 1),(iAdd .i64 x0.2 1))) (x.2,0)).1 1) 1) 1)) (-1) (-1))))) (Ap (fun(x0:Aq)=>(bAnd (iLt x0.2 (lLen x.1)) (bAnd (bNot (iNe (lGet x.1 (iNat x0.2) (0,0,0,0,0)).1 x0.1)) (bAnd (bNot (iNe (lGet x.1 (iNat x0.2) (0,0,0,0,0)).2.1 (iAdd .i64 x0.1 1))) (bAnd (bNot (iNe (lGet x.1 (iNat x0.2) (0,0,0,0,0)).2.2.1 (iAdd .i64 (iAdd .i64 x0.1 1) 1))) (bAnd (bNot (iNe (lGet x.1 (iNat x0.2) (0,0,0,0,0)).2.2.2.1 (iAdd .i64 (iAdd .i64 (iAdd .i64 x0.1 1) 1) 1))) (bNot (iNe (lGet x.1 (iNat x0.2) (0,0,0,0,0)).2.2.2.2 (iAdd .i64 (iAdd .i64 (iAdd .i64 (iAdd .i64 x0.1 1) 1) 1) 1))))))))) (fun(x0:Aq)=>((iAdd .i64 (iAdd .i64 (iAdd .i64 (iAdd .i64 (iAdd .i64 x0.1 1) 1) 1) 1) 1),(iAdd .i64 x0.2 1))) (x.2,0)).1):=(IM.v x).trans (by kernel_rfl)
theorem lV (x):RP x=(LoopOk (fun(x0:Aq)=>(bAnd (iLt x0.2 (lLen x.1)) (bAnd (bNot (iNe (lGet x.1 (iNat x0.2) (0,0,0,0,0)).1 x0.1)) (bAnd (bNot (iNe (lGet x.1 (iNat x0.2) (0,0,0,0,0)).2.1 (iAdd .i64 x0.1 1))) (bAnd (bNot (iNe (lGet x.1 (iNat x0.2) (0,0,0,0,0)).2.2.1 (iAdd .i64 (iAdd .i64 x0.1 1) 1))) (bAnd (bNot (iNe (lGet x.1 (iNat x0.2) (0,0,0,0,0)).2.2.2.1 (iAdd .i64 (iAdd .i64 (iAdd .i64 x0.1 1) 1) 1))) (bNot (iNe (lGet x.1 (iNat x0.2) (0,0,0,0,0)).2.2.2.2 (iAdd .i64 (iAdd .i64 (iAdd .i64 (iAdd .i64 x0.1 1) 1) 1) 1))))))))) (fun(x0:Aq)=>((iAdd .i64 (iAdd .i64 (iAdd .i64 (iAdd .i64 (iAdd .i64 x0.1 1) 1) 1) 1) 1),(iAdd .i64 x0.2 1))) (fun(x0:Aq)=>(((iLt x0.2 (lLen x.1))=true->((((0:Int)<=x0.2)/\(x0.2<(((List.length x.1):Int))))/\(((iNat x0.2)<(List.length x.1))/\(((iNe (lGet x.1 (iNat x0.2) (0,0,0,0,0)).1 x0.1)=true->True)/\((iNe (lGet x.1 (iNat x0.2) (0,0,0,0,0)).1 x0.1)=false->((((0:Int)<=x0.2)/\(x0.2<(((List.length x.1):Int))))/\(((iNat x0.2)<(List.length x.1))/\(((iNe (lGet x.1 (iNat x0.2) (0,0,0,0,0)).2.1 (iAdd .i64 x0.1 1))=true->True)/\((iNe (lGet x.1 (iNat x0.2) (0,0,0,0,0)).2.1 (iAdd .i64 x0.1 1))=false->((((0:Int)<=x0.2)/\(x0.2<(((List.length x.1):Int))))/\(((iNat x0.2)<(List.length x.1))/\(((iNe (lGet x.1 (iNat x0.2) (0,0,0,0,0)).2.2.1 (iAdd .i64 (iAdd .i64 x0.1 1) 1))=true->True)/\((iNe (lGet x.1 (iNat x0.2) (0,0,0,0,0)).2.2.1 (iAdd .i64 (iAdd .i64 x0.1 1) 1))=false->((((0:Int)<=x0.2)/\(x0.2<(((List.length x.1):Int))))/\(((iNat x0.2)<(List.length x.1))/\(((iNe (lGet x.1 (iNat x0.2) (0,0,0,0,0)).2.2.2.1 (iAdd .i64 (iAdd .i64 (iAdd .i64 x0.1 1) 1) 1))=true->True)/\((iNe (lGet x.1 (iNat x0.2) (0,0,0,0,0)).2.2.2.1 (iAdd .i64 (iAdd .i64 (iAdd .i64 x0.1 1) 1) 1))=false->((((0:Int)<=x0.2)/\(x0.2<(((List.length x.1):Int))))/\((iNat x0.2)<(List.length x.1))))))))))))))))))))/\((iLt x0.2 (lLen x.1))=false->True))) (x.2,0)):=(IM.o x).trans (by kernel_rfl)
theorem kf (x):DD x=(bSel (iLt (FB ((x.1.1,x.1.2.1),x.2)) 0) (-1) (bSel (iLt (Iz (x.1.2.2.1,(FB ((x.1.1,x.1.2.1),x.2)))) 0) (-1) (bSel (iLt (O4 (x.1.2.2.2.2.1,(Iz (x.1.2.2.1,(FB ((x.1.1,x.1.2.1),x.2)))))) 0) (-1) (O4 (x.1.2.2.2.2.1,(Iz (x.1.2.2.1,(FB ((x.1.1,x.1.2.1),x.2))))))))):=(GU.v x).trans (by kernel_rfl)
theorem kJ (x):OS x=((Rs ((x.1.1,x.1.2.1),x.2))/\(((iLt (FB ((x.1.1,x.1.2.1),x.2)) 0)=true->True)/\((iLt (FB ((x.1.1,x.1.2.1),x.2)) 0)=false->((Rr (x.1.2.2.1,(FB ((x.1.1,x.1.2.1),x.2))))/\(((iLt (Iz (x.1.2.2.1,(FB ((x.1.1,x.1.2.1),x.2)))) 0)=true->True)/\((iLt (Iz (x.1.2.2.1,(FB ((x.1.1,x.1.2.1),x.2)))) 0)=false->(RP (x.1.2.2.2.2.1,(Iz (x.1.2.2.1,(FB ((x.1.1,x.1.2.1),x.2)))))))))))):=(GU.o x).trans (by kernel_rfl)
attribute [irreducible] Nk Sq E9 RR DG SH RL RD FC O3 Iz Rr O4 RP DD OS
end
section
set_option maxRecDepth 8000
def Zf:ACode:=(.seq (.region [⟨0,some 2,.boxB 0 2 (.t 0),none,[]⟩,⟨1,some 4,.mv (.c .nils),none,[]⟩]) (.seq (.region [⟨0,some 5,.mv (.c .nils),none,[]⟩]) (.seq (.seq (.region [⟨0,some 8,.mv (.t 1),none,[]⟩,⟨1,some 9,.len (.t 8),none,[]⟩,⟨2,some 10,.mv (.c (.int .i64 0)),none,[]⟩]) (.block 0 (.loop [2,5,8,9,10] (.seq (.region [⟨0,some 11,.bin .lss (.t 10) (.t 9),none,[]⟩]) (.seq (.cond (.t 11) .skip (.exit 0)) (.seq (.block 1 (.seq (.region [⟨0,some 12,.indexA 2 (.t 8) (.t 10),none,[]⟩,⟨1,some 13,.loadH (some 2) (.t 12),none,[]⟩,⟨2,some 7,.allocB 1 [(.int .i64 0),.nils],none,[]⟩,⟨3,none,.storeB 1 2 (.t 7) (.t 13),none,[]⟩]) (.seq (.seq (.region [⟨0,some 14,.loadB 0 (some 2) (.t 2),none,[]⟩,⟨1,some 15,.loadB 1 (some 2) (.t 7),none,[]⟩,⟨2,some 16,.call Gf.S [(.t 14),(.t 15)],none,[]⟩,⟨3,some 17,.un .not (.t 16),none,[]⟩]) (.cond (.t 17) (.region [⟨0,some 18,.mv (.t 5),none,[]⟩,⟨1,some 19,.loadB 1 (some 2) (.t 7),none,[]⟩,⟨2,some 20,.litSlice 2 1 [(.int .i64 0),.nils] [(0,2,(.t 19))],none,[]⟩,⟨3,some 21,.app 2 (.t 18) (.t 20),none,[]⟩,⟨4,some 5,.mv (.t 21),none,[]⟩]) .skip)) (.region [⟨0,some 22,.loadB 1 (some 2) (.t 7),none,[]⟩,⟨1,none,.storeB 0 2 (.t 2) (.t 22),none,[]⟩])))) (.region [⟨0,some 23,.bin .add (.t 10) (.c (.int .i64 1)),none,[]⟩,⟨1,some 10,.mv (.t 23),none,[]⟩]))))))) (.seq (.region [⟨0,some 24,.mv (.t 5),none,[]⟩,⟨1,some 4,.mv (.t 24),none,[]⟩]) .ret))))
def U9:AFun:=⟨2,25,2,false,[.tmp 4],Zf⟩
@[irreducible] def Lq:A7:=E3 U9
def C4:List BE->Int×List Int->Nat->List Nat
 |[],_,_=>[]
 |r::t,p,k=>if p=r then C4 t r (k+1) else k::C4 t r (k+1)
def Di:List BE->Int×List Int->Int×List Int
 |[],p=>p
 |r::t,_=>Di t r
theorem cn:∀ (l:Cl) (r p:BE) (k:Nat),C4 (l++[r]) p k=C4 l p k++(if Di l p=r then [] else [k+l.length])
 |[],r,p,k=>by by_cases h:p=r<;>simp[C4,Di,h]
 | a::t,r,p,k=>by
   simp only[CP,C4,Di,cn t r a (k+1),Bi]
   rw[show k+1+t.length=k+(t.length+1) by omega]
   split<;>rfl
theorem bX:∀ (l:Cl) (r p:BE),Di (l++[r]) p=r
 |[],_,_=>rfl
 |a::t,r,p=>bX t r a
theorem WV:∀ (l:Cl) (p:BE) (k:Nat),(C4 l p k).Pairwise (· < ·)/\∀ i∈C4 l p k,k<=i/\i<k+l.length
 |[],_,_=>⟨.nil,λ _ h=>by cases h⟩
 | r :: t,p,k=>by
   obtain⟨h1,h2⟩:=WV t r (k+1)
   simp only[C4,Bi]
   split
   . exact⟨h1,λ i hi=>by have:=h2 i hi;omega⟩
   . refine⟨List.pairwise_cons.2 ⟨λ i hi=>by have:=h2 i hi;omega,h1⟩,λ i hi=>?_⟩
     rcases Ck.1 hi with rfl|hi
     . omega
     . have:=h2 i hi;omega
def Cq(h:Ab):Nat->W:=λ l=>if l<h.length then .frz else .none
def Ga(l:BF):List (List PV):=l.map λ z=>[.fl (.int .i64 z)]
def Eo(r:BE):PV:=.agg [.fl (.int .i64 r.1),.sl .frz (Ga r.2)]
structure RdR (h:Ab) (r:BE) (u:V):Prop where
 rc:∀ p,RC h (Cq h) (.at (.s 0) p) ((Eo r).fcell p) (u.fcell p)
 sh:AX (Eo r) u
def Ext(h h':Ab):Prop:=h.length<=h'.length/\∀ l,l<h.length->h'[l]?=h[l]?
theorem Ext.refl(h:Ab):Ext h h:=⟨Bt _,λ _ _=>rfl⟩
theorem Ext.trans{a b c:Ab}(x:Ext a b)(y:Ext b c):Ext a c:=⟨Cz x.1 y.1,λ l hl=>(y.2 l (GD hl x.1)).trans (x.2 l hl)⟩
theorem Ext.push(h:Ab)(b:Blk):Ext h (h++[b]):=⟨by simp,λ l hl=>Bc hl⟩
theorem eD{h:Ab}{l:Nat}(e:Cq h l= .frz):l<h.length:=by
 unfold Cq at e;split at e
 . assumption
 . cases e
theorem PZ{h:Ab}{l:Nat}{hd:Hd}{p:List Nat}(e:Cq h l= .own hd p):False:=by unfold Cq at e;split at e<;>cases e
theorem TO{h:Ab}{l i:Nat}(e:Cq h l= .ptr i):False:=by unfold Cq at e;split at e<;>cases e
theorem gK(r:BE)(p:List Nat):((Eo r).fcell p).q=none\/((Eo r).fcell p).q=some .frz:=by
 unfold Eo
 match p with
 |[0]=>exact .inl rfl
 |[1]=>exact .inr rfl
 |[]=>exact .inl rfl
 |[_+2]=>exact .inl rfl
 |_::_::_=>exact .inl rfl
theorem fY(r:BE)(p:List Nat):((Eo r).fcell p).qo=false:=by
 unfold Eo
 match p with
 |[0]=>rfl
 |[1]=>rfl
 |[]=>rfl
 |[_+2]=>rfl
 |_::_::_=>rfl
theorem RdR.ext{h h':Ab}{r:Int×List Int}{u:V}(x:RdR h r u)(e:Ext h h'):RdR h' r u:=by
 refine⟨λ p=>(x.rc p).tr0 (f:=Ren.id) (T:=λ _=>False) ⟨λ l he=>?_,λ l hd p he _=>(PZ he).elim⟩ (λ hq=>by rw[fY] at hq;cases hq) (λ hb pb tp hq=>?_) (λ l i o _ he=>(TO he).elim),x.sh⟩
 . have hl:=eD he;exact⟨by unfold Cq;rw[Ac (GD hl e.1)],e.2 l hl⟩
 . rcases gK r p with h|h<;>rw[h] at hq<;>cases hq
theorem YT{h:Ab}{ω:Nat->W}{m:Md}{v:PV}{u:V}(r:RC h ω m v u)(hm:∀ hd p,m≠.at hd p):RC h (Cq h) .fz v u:=by
 refine r.map (S:=λ m m'=>(∀ hd p,m≠.at hd p)/\m'= .fz) ?_ ?_ ?_ (by rintro m m' ⟨_,rfl⟩ e;cases e) ⟨hm,rfl⟩
 . rintro m m' q k ⟨h1,rfl⟩;refine⟨?_,by cases q<;>rfl⟩
   cases m with
   |_=>first|exact absurd rfl (h1 _ _)|(cases q<;>simp[Md.sub])
 . rintro m m' q l o b ⟨_,rfl⟩ hb _;refine⟨hb,?_⟩;show Cq h l= .frz;unfold Cq;rw[Ac (Bj hb)]
 . rintro hd p m' ⟨h1,_⟩;exact h1 hd p rfl
theorem ZbY{h:Ab}{ω:Nat->W}{hd hd':Hd}{p p':List Nat}{es:List (List PV)}{u:V}(r:RC h ω (.at hd p) (.sl .frz es) u):RC h (Cq h) (.at hd' p') (.sl .frz es) u:=by
 cases r with
 |nil=>exact .nil _ _
 | sl _ _ _ l o n b hb hk hc hne hn hw hle hr=>
   refine .sl _ _ _ l o n b hb hk ?_ (λ _ e=>by simp at e) hn hw hle λ k hk'=>YT (hr k hk') (by intro _ _ e;cases e)
   show Cq h l= .frz;unfold Cq;rw[Ac (Bj hb)]
theorem Zca{h:Ab}{hd':Hd}{p':List Nat}{q:Ql}{es:List (List PV)}{u:V}(r:RC h (Cq h) .fz (.sl q es) u):RC h (Cq h) (.at hd' p') (.sl .frz es) u:=by
 cases r with
 |nil=>exact .nil _ _
 |sl _ _ _ l o n b hb hk hc hne hn hw hle hr=>exact .sl _ _ _ l o n b hb hk hc (λ _ e=>by simp at e) hn hw hle hr
theorem gO{h:Ab}{m:Int}{ks:List Int}{u1:V}(h1:RC h (Cq h) (.at (.s 0) [1]) (.sl .frz (Ga ks)) u1):RdR h (m,ks) (.agg [.int .i64 m,u1]):=by
 refine⟨λ p=>?_,⟨_,rfl,rfl⟩⟩
 match p with
 |[0]=>exact .v _ _ rfl
 |[1]=>exact h1
 |[]=>exact .undef _ _
 |[_+2]=>exact .undef _ _
 |_::_::_=>exact .undef _ _
theorem RdR.form{h:Ab}{r:Int×List Int}{u:V}(x:RdR h r u):∃ kv,u= .agg [.int .i64 r.1,kv]/\RC h (Cq h) (.at (.s 0) [1]) (.sl .frz (Ga r.2)) kv/\kv.cell=true/\kv.cells=[kv]/\kv.ok1=true/\∀ i,kv.isBox i=false:=by
 obtain⟨us,rfl,hl⟩:=x.sh
 match us,hl with
 | [a,b],_=>
   have h0:RC h (Cq h) (.at (.s 0) [0]) (.fl (.int .i64 r.1)) a:=x.rc [0];have h1:RC h (Cq h) (.at (.s 0) [1]) (.sl .frz (Ga r.2)) b:=x.rc [1]
   have ea:a= .int .i64 r.1:=by cases h0;rfl
   subst ea;refine⟨b,rfl,h1,?_⟩;generalize Ga r.2=es at h1;cases h1<;>exact⟨rfl,rfl,rfl,λ _=>rfl⟩
theorem ct{h:Ab}{ua ub:V}{a b:Int×List Int}(ra:RdR h a ua)(rb:RdR h b ub)(hok:Lt (a,b)){K:V->Ab->Prop}(hK:∀ h',Ext h h'->K (.bool (Fz (a,b))) h'):Gf.S [ua,ub] h K:=by
 have nol:∀ l,Cq h l= .frz\/Cq h l= .none:=λ l=>by unfold Cq;split<;>simp
 have key:∀ hd p,(∃ z u,Ah (λ i=>i) ⟨[Eo a,Eo b],[],[]⟩ ⟨[ua,ub],[],h⟩ X0 hd p=((Eo z).fcell p,u)/\RC h (Cq h) (.at (.s 0) p) ((Eo z).fcell p) u)\/(Ah (λ i=>i) ⟨[Eo a,Eo b],[],[]⟩ ⟨[ua,ub],[],h⟩ X0 hd p).1= .fl .undef:=by
  intro hd p
  cases hd with
  | s t=>
    match t with
    |0=>exact .inl ⟨a,_,rfl,ra.rc p⟩
    |1=>exact .inl ⟨b,_,rfl,rb.rc p⟩
    |t+2=>exact .inr (A0 p)
  |b i=>right;simp only[Ah];unfold A8;split<;>rfl
  |h i=>right;simp only[Ah];unfold A8;split<;>rfl
  |x i=>exact .inr (A0 p)
 have R:RS h (Cq h) (Cq h) (λ i=>i) ⟨[Eo a,Eo b],[],[]⟩ ⟨[ua,ub],[],h⟩ X0:=by
  refine⟨⟨λ hd p=>?_,λ l l' hd p e=>(PZ e).elim,λ l l' i e=>(TO e).elim,λ l e=>?_,λ l e=>eD e⟩,λ t=>?_,λ i=>A5 _,rfl,rfl,λ i=>rfl,λ i c=>rfl,λ i c=>rfl,λ i hi=>by simp at hi,λ l i e=>(TO e).elim,λ l i p e=>(PZ e).elim,⟨Bt _,λ l hl _=>⟨rfl,rfl⟩,(λ l hl e e2=>by rw[e] at e2;cases e2),λ l i e=>e⟩,λ hd p i pb tp=>?_⟩
  . rcases key hd p with⟨z,u,e1,e2⟩|e
    . rw[e1];exact e2.any (fY z p)
    . rw[e];exact .undef _ _
  . rcases e with⟨_,_,e⟩|⟨_,e⟩
    . exact(PZ e).elim
    . exact(TO e).elim
  . match t with
    |0=>exact ra.sh
    |1=>exact rb.sh
    |t+2=>exact A5 _
  . rcases key hd p with⟨z,u,e1,e2⟩|e
    . rw[e1];rcases gK z p with h|h<;>rw[h]<;>simp
    . rw[e];simp[PV.q]
 refine kn h (Cq h) _ _ _ [] (λ r _=>r= .fl (.bool (Fz (a,b)))) K R (λ l hd p e=>(PZ e).elim) ?_ λ u h' r H' ω' ρ' hr R' _=>?_
 . exact j4 (EG Gf.h (a,b)) (.p (Lt (a,b))) (Gf.q.dv (Fz (a,b))) _ (by kernel_rfl) hok (λ _=>rfl)
 . subst hr;have hx:=R'.core.rc (.x 0) [0];have hs:(∀ us,u≠.agg us)/\∀ us,u≠.tup us:=R'.shx 0;have hx:RC h' ω' (.at (.x 0) [0]) (.fl (.bool (Fz (a,b)))) (u.fcell [0]):=hx;rw[ET hs.1 hs.2] at hx
   have hu:u= .bool (Fz (a,b)):=by cases hx;rfl
   subst hu;exact hK h' ⟨R'.fr.len,λ l hl=>(R'.fr.old l hl (nol l)).1⟩
theorem zD{cs:List V}{k:Nat}(h:k+2<=cs.length):(cs.drop k).take 2=[get cs k,get cs (k+1)]:=by
 have g:∀ j (hj:j<cs.length),get cs j=cs[j]:=λ j hj=>by rw[Co,A3 hj];rfl
 rw[On (show k<cs.length by omega),On (show k+1<cs.length by omega),g k (by omega),g (k+1) (by omega)];rfl
def Gvn(h:Ab)(cs0:List V)(h1:Ab)(out:V)(idx:List Nat):Prop:=
 idx=[]/\out= .nils\/idx≠[]/\∃ l' b,h.length<=l'/\h1[l']?=some b/\b.k= .own/\b.w=2/\out= .slice l' 0 idx.length/\b.cs.length=idx.length*2 /\
  ∀ k c,k<idx.length->c<2->get b.cs (k*2+c)=get cs0 (idx.getD k 0*2+c)
theorem eo:∀ (l:Cl) (p:BE) (k:Nat),(C4 l p k).length<=l.length
 |[],_,_=>Bt _
 | r::t,p,k=>by
   have:=eo t r (k+1)
   simp only[C4];split<;>simp only[Bi]<;>omega
theorem Gvn.ext{h h1 h2:Ab}{cs0:List V}{out:V}{idx:List Nat}(g:Gvn h cs0 h1 out idx)(e:Ext h1 h2):Gvn h cs0 h2 out idx:=by
 rcases g with g|⟨g1,l',b,g2,g3,g4⟩
 . exact .inl g
 . exact .inr ⟨g1,l',b,g2,by rw[e.2 l' (Bj g3)];exact g3,g4⟩
theorem Zag{h h2:Ab}{cs0:List V}{out:V}{idx:List Nat}{i:Nat}{bx:List (List V)}(g:Gvn h cs0 h2 out idx)(hl:h.length<=h2.length)(hr:idx.length<=1048576) :
 ∃ out' h3,QC bx (h2++[⟨.own,2,[get cs0 (i*2),get cs0 (i*2+1)]⟩]) 2 out (.slice h2.length 0 1)=some (out',bx,h3)/\(∀ l,l<h.length->h3[l]?=h2[l]?)/\h.length<=h3.length/\Gvn h cs0 h3 out' (idx++[i]):=by
 have hsrc:Da (h2++[(⟨.own,2,[get cs0 (i*2),get cs0 (i*2+1)]⟩:Blk)]) 2 (.slice h2.length 0 1)=some ([get cs0 (i*2),get cs0 (i*2+1)],1):=by
  simp[Da,rd]
 have two:∀ c,c<2->get [get cs0 (i*2),get cs0 (i*2+1)] c=get cs0 (i*2+c):=λ c hc=>by
  match c,hc with
  |0,_=>rfl
  |1,_=>rfl
 rcases g with⟨rfl,rfl⟩|⟨g1,l',b,g2,g3,g4,g5,rfl,g7,g8⟩
 . refine⟨_,_,by simp only[QC,app,hsrc];rw[Ac (by omega),Af (by omega),Ac (by unfold AK;omega)];rfl,λ l hl'=>?_,?_,.inr ⟨by simp,h2.length+1,_,by omega,by simp;rfl,rfl,rfl,by simp,rfl,λ k c hk hc=>?_⟩⟩
   . rw[Bc (by simp;omega),Bc (by omega)]
   . simp;omega
   . have hk0:k=0:=by simpa using hk
     subst hk0;rw[JI,Bv];exact two c hc
 . have hb:(h2++[(⟨.own,2,[get cs0 (i*2),get cs0 (i*2+1)]⟩:Blk)])[l']?=some b:=by rw[Bc (Bj g3)];exact g3
   have hlt:=Bj g3;refine⟨_,_,by simp only[QC,app,hsrc,hb];rw[Ac (by omega),Af (by omega),Ac ⟨g4,g5,trivial,by omega,by unfold AK;omega⟩];rfl,λ l hl'=>?_,?_,.inr ⟨by simp,h2.length+1,_,by omega,by simp;rfl,rfl,rfl,by simp,?_,λ k c hk hc=>?_⟩⟩
   . rw[Bc (by simp;omega),List.getElem?_set_ne (by omega),Bc (by omega)]
   . simp;omega
   . simp only[DR,CJ,Bi,Bp];omega
   . simp only[DR,Bi,Bp] at hk
     have ht:(b.cs.take (idx.length*2)).length=idx.length*2:=by rw[CJ];omega
     by_cases hk':k<idx.length
     . rw[Co,Bc (by rw[ht];omega),Mt (by omega),<- Co,g8 k c hk' hc];simp only[CQ,Bc hk']
     . have hk2:k=idx.length:=by omega
       subst hk2;rw[Co,CF (by rw[ht];omega),ht,show idx.length*2+c-idx.length*2=c by omega,<- Co,two c hc];simp[CQ]
theorem jc {h:Ab} {p:Int×List Int} {l:List BE} {ua ue:V} {cs0:List V} (ha:RdR h p ua) (hlen:MB ue=some (.int .i64 l.length)) (hl:l.length<=1048576)
 (he:∀ i (hi:i<l.length),RdR h l[i] (.agg [get cs0 (i*2),get cs0 (i*2+1)])/\∃ l0 b,ue= .slice l0 0 l.length/\h[l0]?=some b/\b.k≠.dead/\b.w=2/\b.cs=cs0/\l.length*2<=cs0.length)
 (hok:∀ i,i<l.length->Lt (Di (l.take i) p,l.getD i (0,[]))/\Fz (Di (l.take i) p,l.getD i (0,[]))=decide (Di (l.take i) p=l.getD i (0,[])))
 {Q:V->Ab->Prop} (hQ:∀ r H,Ext h H->Gvn h cs0 H r (C4 l p 0)->Q r H):Lq [ua,ue] h Q:=by
 unfold Lq
 refine HR rfl ?_
 unfold Zf
 obtain⟨ka,rfl,ra,a1,a2,a3,a4⟩:=ha.form
 have e4:∀ i,ue.isBox i=false:=by
  intro i
  cases ue<;>first|rfl|(simp[MB] at hlen)
 have e1:ue.cell=true:=by
  cases ue<;>first|rfl|(simp[MB] at hlen)
 simp only[go_sem,reduceIte,reduceCtorEq,Nat.reduceAdd,Nat.reduceBEq,Int.reduceLT,Int.reduceLE,Int.reduceGT,Int.reduceGE,Int.reduceBEq,Int.reduceBNe,Nat.reduceEqDiff,Nat.reduceLeDiff,Nat.reduceLT,hlen,a1,a2,a3,a4,e4]
 refine KL l.length (λ i st=>∃ h1 out kv bx1,st=⟨[.undef,.undef,.box 0 0,.undef,.undef,out,.undef,.undef,ue,.int .i64 (l.length:Int),.int .i64 (i:Int)]++DY 14,[[.int .i64 (Di (l.take i) p).1,kv],bx1],h1⟩/\Ext h h1/\Gvn h cs0 h1 out (C4 (l.take i) p 0)/\RdR h1 (Di (l.take i) p) (.agg [.int .i64 (Di (l.take i) p).1,kv])) ?_ ?_
 . exact⟨h,.nils,ka,[],rfl,Ext.refl h,.inl ⟨rfl,rfl⟩,ha⟩
 . rintro i st next hi ⟨h1,out,kv,bx1,rfl,hE,hKp,hR⟩ hnx
   have o4:∀ i,out.isBox i=false:=by
    intro i;rcases hKp with⟨_,rfl⟩|⟨_,l',b,_,_,_,_,rfl,_⟩<;>rfl
   have o1:out.ok1=true:=by
    rcases hKp with⟨_,rfl⟩|⟨_,l',b,_,_,_,_,rfl,_⟩<;>rfl
   by_cases hlt:i<l.length
   . have hc:decide ((i:Int)<(l.length:Int))=true:=HU (by omega)
     have hw:IntKind.i64.wrap ((i:Int)+1)=((i+1:Nat):Int):=by rw[JY (by omega)];omega
     obtain⟨hRi,l0,b0,rfl,hb0,hk0,hw0,hcs,hcl⟩:=he i hlt;obtain⟨r,hr⟩:∃ r,l[i]=r:=⟨_,rfl⟩
     have hgd:l.getD i (0,[])=r:=by rw[CQ,A3 hlt,<- hr];rfl
     rw[hr] at hRi;have hRi1:=hRi.ext hE;obtain⟨kr,ekr,rr,r1,r2,r3,r4⟩:=hRi1.form;rw[ekr] at hRi1;obtain⟨kv',ekv,rv,v1,v2,v3,v4⟩:=hR.form;cases ekv;obtain⟨q1,q2⟩:=hok i hlt;rw[hgd] at q1 q2
     have hb1:h1[l0]?=some b0:=by rw[hE.2 l0 (Bj hb0)];exact hb0
     have hx:=KJ (b:=l0) (w:=2) hlt (k:=.i64)
     have hload:JK h1 (some 2) (.ptr l0 (i*2))=some (.agg [.int .i64 r.1,kr]):=by
      have e2:rd h1 l0 (i*2) 2=some [get cs0 (i*2),get cs0 (i*2+1)]:=by
       unfold rd;rw[hb1];simp only;rw[Ac ⟨hk0,by rw[hcs];omega⟩,hcs,zD (by omega)]
      simp only[V.agg.injEq] at ekr;simp only[JK,HZ,e2,ekr,Hf,Ci]
     repeat' (first|(simp only[go_sem,reduceIte,reduceCtorEq,Nat.reduceAdd,Nat.reduceBEq,Int.reduceLT,Int.reduceLE,Int.reduceGT,Int.reduceGE,Int.reduceBEq,Int.reduceBNe,Nat.reduceEqDiff,Nat.reduceLeDiff,Nat.reduceLT,hlen,hc,hw,hx,hload,e4,o4,r1,r2,r3,r4,v1,v2,v3,v4])|(refine J9 (ct hR hRi1 q1 λ h2 hE2=>?_) ?_)|(refine xt rfl (λ hb=>?_) (λ hb=>?_)<;>simp only[hb,go_sem,reduceIte,reduceCtorEq,Nat.reduceAdd,Nat.reduceBEq,Int.reduceLT,Int.reduceLE,Int.reduceGT,Int.reduceGE,Int.reduceBEq,Int.reduceBNe,Nat.reduceEqDiff,Nat.reduceLeDiff,Nat.reduceLT,hlen,hc,hw,hx,hload,e4,o4,r1,r2,r3,r4,v1,v2,v3,v4])|(refine zF rfl (λ hb=>?_) (λ hb=>?_)<;>simp only[hb,go_sem,reduceIte,reduceCtorEq,Nat.reduceAdd,Nat.reduceBEq,Int.reduceLT,Int.reduceLE,Int.reduceGT,Int.reduceGE,Int.reduceBEq,Int.reduceBNe,Nat.reduceEqDiff,Nat.reduceLeDiff,Nat.reduceLT,hlen,hc,hw,hx,hload,e4,o4,r1,r2,r3,r4,v1,v2,v3,v4])|(refine sI rfl (λ hb=>?_) (λ hb=>?_)<;>simp only[hb,go_sem,reduceIte,reduceCtorEq,Nat.reduceAdd,Nat.reduceBEq,Int.reduceLT,Int.reduceLE,Int.reduceGT,Int.reduceGE,Int.reduceBEq,Int.reduceBNe,Nat.reduceEqDiff,Nat.reduceLeDiff,Nat.reduceLT,hlen,hc,hw,hx,hload,e4,o4,r1,r2,r3,r4,v1,v2,v3,v4]))
     refine J9 (ct hR hRi1 q1 λ h2 hE2=>?_)
     have hl1:Di (l.take (i+1)) p=r:=by rw[List.take_succ_eq_append_getElem hlt,bX,hr]
     have hch:C4 (l.take (i+1)) p 0=C4 (l.take i) p 0++(if Di (l.take i) p=r then [] else [i]):=by
      rw[List.take_succ_eq_append_getElem hlt,cn,hr,CJ,Bv,Nat.min_eq_left (by omega)]
     have hEh:=hE.trans hE2;by_cases hd:Di (l.take i) p=r
     . have hsm:Fz (Di (l.take i) p,r)=true:=by rw[q2,HU hd]
       rw[Ac hd,Om] at hch;simp only[go_sem,reduceIte,reduceCtorEq,Nat.reduceAdd,Nat.reduceBEq,Int.reduceLT,Int.reduceLE,Int.reduceGT,Int.reduceGE,Int.reduceBEq,Int.reduceBNe,Nat.reduceEqDiff,Nat.reduceLeDiff,Nat.reduceLT,hsm,hw,e4,o4,r1,r2,r3,r4,v1,v2,v3,v4];refine hnx _ hlt ⟨h2,out,kr,[.int .i64 r.1,kr],?_,hEh,?_,?_⟩
       . rw[hl1];rfl
       . rw[hch];exact hKp.ext hE2
       . rw[hl1];exact hRi1.ext hE2
     . have hsm:Fz (Di (l.take i) p,r)=false:=by rw[q2,Gs hd]
       rw[Af hd] at hch;have hil:=eo (l.take i) p 0;rw[CJ] at hil;simp only[V.agg.injEq,Hr,KN] at ekr;obtain⟨out',h3,x1,x2,x3,x4⟩:=Zag (i:=i) (bx:=[[.int .i64 (Di (l.take i) p).1,kv],[.int .i64 r.1,kr]]) (hKp.ext hE2) hEh.1 (by omega);rw[ekr.1,ekr.2] at x1
       have x5:Td [[.int .i64 (Di (l.take i) p).1,kv],[.int .i64 r.1,kr]] h2 2 1 [.int .i64 0,.nils] (some [.int .i64 r.1,kr])=some (.slice h2.length 0 1,[[.int .i64 (Di (l.take i) p).1,kv],[.int .i64 r.1,kr]],h2++[⟨.own,2,[.int .i64 r.1,kr]⟩]):=by
        simp[Td,V.cell]
       simp only[go_sem,reduceIte,reduceCtorEq,Nat.reduceAdd,Nat.reduceBEq,Int.reduceLT,Int.reduceLE,Int.reduceGT,Int.reduceGE,Int.reduceBEq,Int.reduceBNe,Nat.reduceEqDiff,Nat.reduceLeDiff,Nat.reduceLT,hsm,hw,e4,o4,r1,r2,r3,r4,v1,v2,v3,v4,x5,x1];have hE3:Ext h h3:=⟨x3,λ l hl=>(x2 l hl).trans (hEh.2 l hl)⟩;refine hnx _ hlt ⟨h3,out',kr,[.int .i64 r.1,kr],?_,hE3,?_,?_⟩
       . rw[hl1];rfl
       . rw[hch];exact x4
       . rw[hl1];have:=hRi.ext hE3;rw[ekr.1,ekr.2] at this;exact this
   . have hc:decide ((i:Int)<(l.length:Int))=false:=Gs (by omega)
     have hil:i=l.length:=by omega
     subst hil;simp only[go_sem,reduceIte,reduceCtorEq,Nat.reduceAdd,Nat.reduceBEq,Int.reduceLT,Int.reduceLE,Int.reduceGT,Int.reduceGE,Int.reduceBEq,Int.reduceBNe,Nat.reduceEqDiff,Nat.reduceLeDiff,Nat.reduceLT,hlen,hc,e4,o4,o1];rw[H4] at hKp;exact hQ out h1 hE hKp
def GN:RT:=.cons (.int .i64) (.one (.sl (.one (.int .i64))))
def Y6(p:BE)(l:Cl):List BE:=(C4 l p 0).map λ i=>l.getD i (0,[])
@[irreducible] def MY(p:BE)(l:Cl):List BE:=(shut fun(q:Mv)=>Y6 q.1 q.2).1 (p,l)
def YV(p:BE)(l:Cl):Prop:=l.length<=1048576/\∀ i,i<l.length->Lt (Di (l.take i) p,l.getD i (0,[]))/\Fz (Di (l.take i) p,l.getD i (0,[]))=decide (Di (l.take i) p=l.getD i (0,[]))
@[irreducible] def MX(p:BE)(l:Cl):Prop:=(shut fun(q:Mv)=>YV q.1 q.2).1 (p,l)
theorem Zd(p:BE)(l:Cl):MY p l=Y6 p l:=by unfold MY;exact congrFun (shut _).2 (p,l)
theorem Ze(p:BE)(l:Cl):MX p l=YV p l:=by unfold MX;exact congrFun (shut _).2 (p,l)
theorem ZaK(p:BE)(l:Cl):(C4 l p 0).Pairwise (· < ·)/\(∀ i∈C4 l p 0,i<l.length)/\MY p l=(C4 l p 0).map λ i=>l.getD i (0,[]):=
 ⟨(WV l p 0).1,λ i hi=>by have:=((WV l p 0).2 i hi).2;omega,by rw[Zd];rfl⟩
def Va:DTk:=⟨GN,GN,MX,λ p l=>C4 l p 0,MY,λ p l _=>ZaK p l⟩
theorem dt:∀ l:List Int,PV.ownrE (Ga l)=Ga l
 |[]=>rfl
 | z::l=>by
   have:=dt l
   show PV.ownrE ([.fl (.int .i64 z)]::Ga l)=_
   simp only[PV.ownrE,PV.ownrL,PV.ownr,this];rfl
theorem zE(p:BE):((PV.agg (RT.enc GN p)).fz).nrm=Eo p:=by
 show PV.agg [.fl (.int .i64 p.1),.sl .frz (PV.ownrE (Ga p.2))]=_;rw[dt];rfl
theorem jj:Yz Lq (DTk.P Va):=by
 rintro h ω ω' hd a es ua ue K Q ha hsa he ⟨p,l,rfl,rfl,hok,hK⟩ hQ;obtain⟨p,rfl⟩:∃ p':Int×List Int,p'=p:=⟨p,rfl⟩;obtain⟨l,rfl⟩:∃ l':List BE,l'=l:=⟨l,rfl⟩
 have hok:YV p l:=by
  have:MX p l:=hok;rwa [Ze] at this
 have hK:K (C4 l p 0):=hK
 have hrow:∀ r:Int×List Int,RT.enc GN r=[.fl (.int .i64 r.1),.sl .own (Ga r.2)]:=λ r=>rfl
 rw[show ((PV.agg ((DTk.ra Va).enc p)).fz).nrm=Eo p from zE p] at ha hsa
 have hRa:RdR h p ua:=by
  obtain⟨us,rfl,hl⟩:=hsa
  match us,hl with
  | [c,d],_=>
    have h0:RC h ω (.at (.s 0) [0]) (.fl (.int .i64 p.1)) c:=ha [0];have h1:RC h ω (.at (.s 0) [1]) (.sl .frz (Ga p.2)) d:=ha [1]
    have ec:c= .int .i64 p.1:=by cases h0;rfl
    subst ec;exact gO (ZbY h1)
 have he:RC h ω' (.at hd [0]) (.sl .own (l.map (RT.enc GN))) ue:=he;have hlm:(l.map (RT.enc GN)).length=l.length:=Ba ..;obtain⟨hl,hok⟩:=hok;by_cases hne:l=[]
 . subst hne
   have hue:ue= .nils:=by
    cases he with
    |nil=>rfl
    |sl _ _ _ l0 o n b hb hk hc hne=>exact absurd rfl (hne rfl (.inl rfl))
   subst hue
   refine jc (l:=([]:List BE)) (cs0:=[]) hRa rfl (FW _) (λ i hi=>absurd hi (Mf i)) (λ i hi=>absurd hi (Mf i)) λ r H hE hg=>?_
   rcases hg with⟨_,rfl⟩|⟨h1,_⟩
   . exact hQ [] .nils H hK hE.1 hE.2 (.inl ⟨rfl,rfl⟩)
   . exact absurd rfl h1
 . generalize hes:l.map (RT.enc GN)=es at he hlm
   cases he with
   |nil=>exact absurd (Dc hlm.symm) hne
   | sl _ _ _ l0 o n b hb hk hc hne2 hn hw hle hr=>
     obtain⟨c1,rfl,c3⟩:=hc;subst hn
     have hwb:b.w=2:=by
      cases l with
      |nil=>exact absurd rfl hne
      |cons r t=>rw[<- hw (RT.enc GN r) (by rw[<- hes];exact List.mem_map.2 ⟨r,KT ..,rfl⟩)];rfl
     rw[hlm];rw[hwb,hlm] at hle
     refine jc (cs0:=b.cs) hRa rfl hl (λ i hi=>⟨?_,l0,b,rfl,hb,hk,hwb,rfl,by omega⟩) hok λ r H hE hg=>?_
     . have hi':i<es.length:=by rw[hlm];exact hi
       have hW:∀ e∈es,e.length=2:=λ e he=>by rw[<- hwb];exact hw e he
       have hel:Bb es i=[.fl (.int .i64 l[i].1),.sl .own (Ga l[i].2)]:=by
        have hg:(List.getD (α:=GN.D) l i GN.dflt)=l[i]:=by
         show l.getD i ((0:Int),([]:List Int))=l[i];rw[CQ,A3 hi];rfl
        rw[<- hes,JL GN l i hi];exact congrArg (RT.enc GN) hg
       have z0:=hr (i*2) (by rw[hwb];omega);have z1:=hr (i*2+1) (by rw[hwb];omega);have f0:=Qg hW (k:=i) (c:=0) hi' (by omega);have f1:=Qg hW (k:=i) (c:=1) hi' (by omega);rw[Ej,hel] at f0;rw[hel] at f1;rw[f0,Bv] at z0;rw[f1,Bv] at z1;have y0:RC h (Cq h) .fz (.fl (.int .i64 l[i].1)) (get b.cs (i*2)):=YT z0 (by intro _ _ e;cases e);have y1:RC h (Cq h) .fz (.sl .own (Ga l[i].2)) (get b.cs (i*2+1)):=YT z1 (by intro _ _ e;cases e)
       have e0:get b.cs (i*2)= .int .i64 l[i].1:=by
        generalize get b.cs (i*2)=u at y0;cases y0;rfl
       rw[e0];exact gO (Zca y1)
     . refine hQ (C4 l p 0) r H hK hE.1 hE.2 ?_;rcases hg with⟨g1,rfl⟩|⟨g1,l',b',g2,g3,g4,g5,rfl,g7,g8⟩
       . exact .inl ⟨g1,rfl⟩
       . refine .inr ⟨g1,l',b',l0,_,rfl,g2,g3,g4,g5,rfl,?_,λ k c hk hc=>?_⟩
         . show _*2<=_;omega
         . have:AV h l0=b.cs:=by simp only[AV,hb]
           rw[this];exact g8 k c hk hc
end
section
set_option maxRecDepth 8000
def se:DCode:=(.seq [2,1] (.region [oa 0 1 (.boxB 0 2 (.t 0)),oa 1 2 (.allocB 1 [An,.nils])]) (.seq [2] (.region [oa 0 3 (.fieldA 0 (.t 1)),xB 1 4 (.loadB 0 none (.t 3)) (rg 1),oa 3 6 (.fieldA 1 (.t 1)),xA 4 7 (.loadB 0 none (.t 6)) [3],⟨2,some 5,.a false (.litSlice 1 0 [] []) (some (.one (.int .i64))),none,[]⟩,xA 5 8 (.app 1 (.t 5) (.t 7)) [2,3,4],xA 6 9 (.build [An,.nils] [(0,1,(.t 4)),(1,1,(.t 8))]) (rg 6),xS 7 (.storeB 1 2 (.t 2) (.t 9)) (rg 7)]) .ret))
def Jm:Fn:=⟨⟨1,10,2,false,[.cell 2 (some 2)],se⟩,[.agg [Av,(.frz,.sl (.one (.int .i64)))]],.one (.agg [BI,(.own,.sl (.one (.int .i64)))])⟩
theorem so:Jm.A:=AN trivial
def Pq:BE->Int×List (Int):=Jm.V
def VQ:BE->Prop:=Jm.O
theorem rn:Jm.B:=AO trivial (by kernel_rfl) (λ x=>by kernel_rfl)
def lL:DCode:=(.seq [2,1] (.region [oa 0 2 (.boxB 0 2 (.t 0)),oa 1 4 (.mv (.c .nils))]) (.seq [5,2,1] (.region [⟨0,some 7,.a false (.litSlice 2 0 [] []) (some (.cons (.int .i64) (.one (.sl (.one (.int .i64)))))),none,[]⟩,om 1 5 7]) (.seq [5] (.seq [6,5,2,1] (.region [oi 0 6 0]) (.block 0 (.loop [1,2,5,6] 1 (.seq [6,5,2,1] (.seq [11,6,5,2,1] (.region [om 0 8 6,on 1 9 1,oa 2 10 (.len (.t 9)),oa 3 11 (.bin .lss (.t 8) (.t 10))]) (.cond (.t 11) .skip (.exit 0))) (.seq [6,5,2,1] (.block 1 (.seq [6,5,2,1] (.seq [20,6,5,2,1] (.region [oa 0 14 (.loadB 0 (some 2) (.t 2)),on 1 15 1,om 2 16 6,xA 3 17 (.indexA 2 (.t 15) (.t 16)) [1,2],xA 4 18 (.loadH (some 2) (.t 17)) [1,2,3],xF 5 19 ID [(.t 14),(.t 18)] (rg 5),xA 6 20 (.un .not (.t 19)) (rg 6)]) (.cond (.t 20) (.region [om 0 21 5,on 1 22 1,om 2 23 6,oa 3 24 (.indexA 2 (.t 22) (.t 23)),oa 4 25 (.loadH (some 2) (.t 24)),oF 5 26 Jm [(.t 25)],⟨6,some 27,.a false (.litSlice 2 1 [An,.nils] [(0,2,(.t 26))]) (some (.cons (.int .i64) (.one (.sl (.one (.int .i64)))))),none,[]⟩,oa 7 28 (.app 2 (.t 21) (.t 27)),om 8 5 28]) .skip)) (.region [on 0 29 1,om 1 30 6,oa 2 31 (.indexA 2 (.t 29) (.t 30)),ob 3 32 (.loadH (some 2) (.t 31)),os 4 (.storeB 0 2 (.t 2) (.t 32))]))) (.region [om 0 12 6,oa 1 13 (.bin .add (.t 12) AF),om 2 6 13])))))) (.seq [4] (.region [om 0 33 5,om 1 4 33]) .ret))))
def IU:Fn:=⟨⟨2,34,1,false,[.tmp 4],lL⟩,[.agg [Av,(.frz,.sl (.one (.int .i64)))],.one .frz (.sl (.cons (.int .i64) (.one (.sl (.one (.int .i64))))))],.one (.one .own (.sl (.cons (.int .i64) (.one (.sl (.one (.int .i64)))))))⟩
theorem mx:IU.A:=AN ⟨kA,so,trivial⟩
def Sg:Mv->List BE:=IU.V
def RO:Mv->Prop:=IU.O
theorem lv:IU.B:=AO ⟨kN,rn,trivial⟩ (by kernel_rfl) (λ x=>by kernel_rfl)
def qk:DCode:=(.seq [4,2,1] (.region [oa 0 2 (.boxB 0 7 (.t 0)),oa 1 4 (.allocB 1 [An,.nils,.nils,An,.nils,An,Ea]),oa 2 5 (.mv (.c .nils)),oa 3 6 (.mv Ar)]) (.seq [7,4,2] (.region [oa 0 9 (.loadB 0 (some 7) (.t 2)),om 1 10 1,oF 2 11 Jv [(.t 9),(.t 10)],om 3 7 11]) (.seq [7,4,2] (.seq [18,7,4,2] (.region [oa 0 12 (.loadB 0 (some 7) (.t 2)),oF 1 13 IV [(.t 12)],oa 2 14 (.un .not (.t 13)),om 3 15 14,og 4 16 (.mv (.t 7)) 15 false,og 5 17 (.bin .lss (.t 16) AL) 15 false,oa 6 18 (.pick (.t 15) AZ (.t 17))]) (.cond (.t 18) (.seq [6,5,4] (.region [oa 0 19 (.build [An,.nils,.nils,An,.nils,An,Ea] []),⟨1,some 20,.a false (.litSlice 2 0 [] []) (some (.cons (.int .i64) (.one (.sl (.one (.int .i64)))))),none,[]⟩,os 2 (.storeB 1 7 (.t 4) (.t 19)),om 3 5 20,oa 4 6 (.mv Ar)]) .ret) .skip)) (.seq [8,7,4,2] (.region [oa 0 21 (.loadB 0 (some 7) (.t 2)),oF 1 22 Js [(.t 21)],oa 2 8 (.allocB 2 [An,.nils,.nils,An,.nils,An,Ea]),os 3 (.storeB 2 7 (.t 8) (.t 22))]) (.seq [8,4,2] (.region [oa 0 23 (.fieldA 4 (.t 8)),oa 1 24 (.loadB 2 none (.t 23)),om 2 25 7,oF 3 26 GX [(.t 24),(.t 25)],oa 4 27 (.fieldA 4 (.t 8)),os 5 (.storeB 2 1 (.t 27) (.t 26))]) (.seq [6,5,4] (.region [oa 0 28 (.loadB 2 (some 7) (.t 8)),oa 1 29 (.fieldA 4 (.t 2)),xA 2 30 (.loadB 0 none (.t 29)) [1],oa 4 32 (.fieldA 4 (.t 8)),xA 5 33 (.loadB 2 none (.t 32)) [4],xF 3 31 GZ [(.t 30)] [1,2],xF 6 34 GZ [(.t 33)] [1,2,3,4,5],⟨7,some 35,.a false (.litSlice 2 1 [An,.nils] [(0,2,(.t 34))]) (some (.cons (.int .i64) (.one (.sl (.one (.int .i64)))))),none,[1,2,3,4,5,6]⟩,xF 8 36 IU [(.t 31),(.t 35)] [1,2,3,4,5,6,7],⟨9,none,.clm (.t 8) 28 (.storeB 1 7 (.t 4) (.t 28)),none,[0,1,2,3,4,5,6,7,8]⟩,xA 10 5 (.mv (.t 36)) (rg 10),xA 11 6 (.mv AZ) (rg 11)]) .ret))))))
def Jc:Fn:=⟨⟨2,37,3,false,[.cell 4 (some 7),.tmp 5,.tmp 6],qk⟩,[.agg [Av,(.frz,.sl (.one (.sl Au))),(.frz,.sl (.one (.sl AJ))),Av,(.frz,.sl AY),Av,(.frz,.bool)],.one .frz (.int .i64)],.tup [.agg [BI,(.own,.sl (.one (.sl Au))),(.own,.sl (.one (.sl AJ))),BI,(.own,.sl AY),BI,(.own,.bool)],.one .own (.sl (.cons (.int .i64) (.one (.sl (.one (.int .i64)))))),.one .own (.bool)]⟩
theorem pk:Jc.A:=AN ⟨r8,mF,q8,ZF,ZP,ZP,mx,trivial⟩
def Bx:Em->BM×Cl×Bool:=Jc.V
def Nl:Em->Prop:=Jc.O
theorem pZ:Jc.B:=AO ⟨rV,nC,rD,ZH,ZU,ZU,lv,trivial⟩ (by kernel_rfl) (λ x=>by kernel_rfl)
def ko:DCode:=(.seq [2,1] (.region [oa 0 1 (.boxB 0 7 (.t 0)),oa 1 2 (.allocB 1 [An,.nils,.nils,An,.nils,An,Ea])]) (.seq [2,1] (.region [oa 0 3 (.fieldA 0 (.t 1)),oa 1 4 (.loadB 0 (some 2) (.t 3)),oF 2 5 IF [(.t 4)],oa 3 6 (.fieldA 0 (.t 1)),os 4 (.storeB 0 2 (.t 6) (.t 5))]) (.seq [2,1] (.region [oa 0 7 (.fieldA 2 (.t 1)),oa 1 8 (.loadB 0 none (.t 7)),oF 2 9 II [(.t 8)],oa 3 10 (.fieldA 2 (.t 1)),os 4 (.storeB 0 1 (.t 10) (.t 9))]) (.seq [2,1] (.region [oa 0 11 (.fieldA 4 (.t 1)),oa 1 12 (.loadB 0 none (.t 11)),oa 2 13 (.app 5 (.c .nils) (.t 12)),oa 3 14 (.fieldA 4 (.t 1)),os 4 (.storeB 0 1 (.t 14) (.t 13))]) (.seq [2] (.region [ob 0 15 (.loadB 0 (some 7) (.t 1)),os 1 (.storeB 1 7 (.t 2) (.t 15))]) .ret)))))
def IA:Fn:=⟨⟨1,16,2,false,[.cell 2 (some 7)],ko⟩,[.agg [Av,(.frz,.sl (.one (.sl Au))),(.frz,.sl (.one (.sl AJ))),Av,(.frz,.sl AY),Av,(.frz,.bool)]],.one (.agg [BI,(.own,.sl (.one (.sl Au))),(.own,.sl (.one (.sl AJ))),BI,(.own,.sl AY),BI,(.own,.bool)])⟩
theorem kE:IA.A:=AN ⟨kB,kx,trivial⟩
def Bn:BM->Int×Ct×Ch×Int×Be×Int×Bool:=IA.V
def Rt:BM->Prop:=IA.O
theorem kS:IA.B:=AO ⟨j8,km,trivial⟩ (by kernel_rfl) (λ x=>by kernel_rfl)
def qg:DCode:=(.seq [4,2,1] (.region [oa 0 2 (.boxB 0 7 (.t 0)),oa 1 4 (.allocB 1 [An,.nils,.nils,An,.nils,An,Ea]),oa 2 5 (.mv (.c .nils))]) (.seq [6,4,2,1] (.region [oa 0 8 (.loadB 0 (some 7) (.t 2)),oF 1 9 IA [(.t 8)],oa 2 6 (.allocB 2 [An,.nils,.nils,An,.nils,An,Ea]),os 3 (.storeB 2 7 (.t 6) (.t 9))]) (.seq [7,6,4,2] (.region [oa 0 10 (.loadB 0 (some 7) (.t 2)),om 1 11 1,oF 2 12 FI [(.t 10),(.t 11)],om 3 7 12]) (.seq [6,4,2] (.region [oa 0 13 (.fieldA 4 (.t 6)),xA 1 14 (.loadB 2 none (.t 13)) (rg 1),om 2 15 7,xA 3 16 (.slice 5 (.t 14) none (some (.t 15))) (rg 3),oa 4 17 (.fieldA 4 (.t 6)),xA 5 18 (.loadB 2 none (.t 17)) [4],om 6 19 7,xA 7 20 (.bin .add (.t 19) AF) [6],xA 8 21 (.slice 5 (.t 18) (some (.t 20)) none) [4,5,6,7],⟨9,some 22,.aw [(0,5)] false (.app 5 (.t 16) (.t 21)) none,none,[0,1,2,3,4,5,6,7,8]⟩,xA 10 23 (.fieldA 4 (.t 6)) (rg 10),xS 11 (.storeB 2 1 (.t 23) (.t 22)) (rg 11)]) (.seq [5,4] (.region [oa 0 24 (.loadB 2 (some 7) (.t 6)),oa 1 25 (.fieldA 4 (.t 2)),xA 2 26 (.loadB 0 none (.t 25)) [1],oa 4 28 (.fieldA 4 (.t 6)),xA 5 29 (.loadB 2 none (.t 28)) [4],xF 3 27 G0 [(.t 26)] [1,2],xF 6 30 G0 [(.t 29)] [1,2,3,4,5],⟨7,some 31,.a false (.litSlice 2 1 [An,.nils] [(0,2,(.t 30))]) (some (.cons (.int .i64) (.one (.sl (.one (.int .i64)))))),none,[1,2,3,4,5,6]⟩,⟨8,some 32,.tk Lq Va (.t 27) (.t 31),none,[1,2,3,4,5,6,7]⟩,⟨9,none,.clm (.t 6) 24 (.storeB 1 7 (.t 4) (.t 24)),none,[0,1,2,3,4,5,6,7,8]⟩,xA 10 5 (.mv (.t 32)) (rg 10)]) .ret)))))
def Jh:Fn:=⟨⟨2,33,3,false,[.cell 4 (some 7),.tmp 5],qg⟩,[.agg [Av,(.frz,.sl (.one (.sl Au))),(.frz,.sl (.one (.sl AJ))),Av,(.frz,.sl AY),Av,(.frz,.bool)],.one .frz (.int .i64)],.tup [.agg [BI,(.own,.sl (.one (.sl Au))),(.own,.sl (.one (.sl AJ))),BI,(.ownw 0,.sl AY),BI,(.own,.bool)],.one .own (.sl (.cons (.int .i64) (.one (.sl (.one (.int .i64))))))]⟩
theorem ph:Jh.A:=AN ⟨kE,au,ZL,ZL,jj,trivial⟩
def SB:Em->BM×Cl:=Jh.V
def VJ:Em->Prop:=Jh.O
theorem pD:Jh.B:=AO ⟨kS,al,ZK,ZK,trivial⟩ (by kernel_rfl) (λ x=>by kernel_rfl)
def pO:DCode:=(.seq [4,2,1] (.region [oa 0 2 (.boxB 0 7 (.t 0)),oa 1 4 (.allocB 1 [An,.nils,.nils,An,.nils,An,Ea]),oa 2 5 (.mv (.c .nils)),oa 3 6 (.mv Ar)]) (.seq [4,2,1] (.seq [17,4,2,1] (.region [oa 0 9 (.loadB 0 (some 7) (.t 2)),oF 1 10 I4 [(.t 9)],oa 2 11 (.un .not (.t 10)),om 3 12 11,og 4 13 (.loadB 0 (some 7) (.t 2)) 12 false,og 5 14 (.mv (.t 1)) 12 false,⟨6,some 15,.call false FI.S FI.P FI.D [(.t 13),(.t 14)],(some (12,false)),[]⟩,og 7 16 (.bin .lss (.t 15) AL) 12 false,oa 8 17 (.pick (.t 12) AZ (.t 16))]) (.cond (.t 17) (.seq [6,5,4] (.region [⟨0,some 18,.aw [(4,0)] false (.build [An,.nils,.nils,An,.nils,An,Ea] []) none,none,[]⟩,os 1 (.storeB 1 7 (.t 4) (.t 18)),oa 2 5 (.mv (.c .nils)),oa 3 6 (.mv Ar)]) .ret) .skip)) (.seq [8,7,4] (.region [oa 0 20 (.loadB 0 (some 7) (.t 2)),om 1 21 1,oF 2 22 Jh [(.t 20),(.t 21)],om 3 19 22,oa 4 23 (.extract (.t 19) 0),oa 5 24 (.extract (.t 19) 1),oa 6 7 (.allocB 2 [An,.nils,.nils,An,.nils,An,Ea]),os 7 (.storeB 2 7 (.t 7) (.t 23)),om 8 8 24]) (.seq [6,5,4] (.region [ob 0 25 (.loadB 2 (some 7) (.t 7)),om 1 26 8,os 2 (.storeB 1 7 (.t 4) (.t 25)),om 3 5 26,oa 4 6 (.mv AZ)]) .ret))))
def G3:Fn:=⟨⟨2,27,3,false,[.cell 4 (some 7),.tmp 5,.tmp 6],pO⟩,[.agg [Av,(.frz,.sl (.one (.sl Au))),(.frz,.sl (.one (.sl AJ))),Av,(.frz,.sl AY),Av,(.frz,.bool)],.one .frz (.int .i64)],.tup [.agg [BI,(.own,.sl (.one (.sl Au))),(.own,.sl (.one (.sl AJ))),BI,(.ownw 0,.sl AY),BI,(.own,.bool)],.one .own (.sl (.cons (.int .i64) (.one (.sl (.one (.int .i64)))))),.one .own (.bool)]⟩
theorem aa:G3.A:=AN ⟨oO,au,ph,trivial⟩
def Aj:Em->BM×Cl×Bool:=G3.V
def LA:Em->Prop:=G3.O
theorem Z5:G3.B:=AO ⟨oy,al,pD,trivial⟩ (by kernel_rfl) (λ x=>by kernel_rfl)
end
section
set_option maxRecDepth 100000
theorem q7 (x):Pq x=(x.1,(lApp [] x.2)):=(Jm.v x).trans (by kernel_rfl)
theorem sq (x):VQ x=(AK (((List.length ([]:List Int))+(List.length x.2))*1)):=(Jm.o x).trans (by kernel_rfl)
def OR(x:Mv)(x0:Cl×US):Bool:=(iLt x0.2.1 (lLen x.2))
def ON(x:Mv)(x0:Cl×US):(Cl×US):=((bSel (bNot (M9 (x0.2.2,(lGet x.2 (iNat x0.2.1) (0,[]))))) (lApp x0.1 [(Pq (lGet x.2 (iNat x0.2.1) (0,[])))]) x0.1),(iAdd .i64 x0.2.1 1),(lGet x.2 (iNat x0.2.1) (0,[])))
def Rp(x:Mv)(x0:Cl×US):Prop:=(((iLt x0.2.1 (lLen x.2))=true->(((((0:Int)<=x0.2.1)/\(x0.2.1<(((List.length x.2):Int))))/\(((iNat x0.2.1)<(List.length x.2))/\((Rx (x0.2.2,(lGet x.2 (iNat x0.2.1) (0,[]))))/\(((bNot (M9 (x0.2.2,(lGet x.2 (iNat x0.2.1) (0,[])))))=true->((((0:Int)<=x0.2.1)/\(x0.2.1<(((List.length x.2):Int))))/\(((iNat x0.2.1)<(List.length x.2))/\((VQ (lGet x.2 (iNat x0.2.1) (0,[])))/\(AK (((List.length x0.1)+(List.length [(Pq (lGet x.2 (iNat x0.2.1) (0,[])))]))*2))))))/\((bNot (M9 (x0.2.2,(lGet x.2 (iNat x0.2.1) (0,[])))))=false->True)))))/\((((0:Int)<=x0.2.1)/\(x0.2.1<(((List.length x.2):Int))))/\((iNat x0.2.1)<(List.length x.2)))))/\((iLt x0.2.1 (lLen x.2))=false->True))
theorem lE (x):Sg x=(Ap (OR x) (ON x) ([],0,x.1)).1:=(IU.v x).trans (by kernel_rfl)
theorem mn (x):RO x=(LoopOk (OR x) (ON x) (Rp x) ([],0,x.1)):=(IU.o x).trans (by kernel_rfl)
theorem ae (x):Bx x=(bSel (bOr (bNot (Nk x.1)) (iLt (FH x) 0)) ((0,[],[],0,[],0,false),[],false) (((DG x.1).1,(DG x.1).2.1,(DG x.1).2.2.1,(DG x.1).2.2.2.1,(Et ((DG x.1).2.2.2.2.1,(FH x))),(DG x.1).2.2.2.2.2),(Sg ((FF x.1.2.2.2.2.1),[(FF (Et ((DG x.1).2.2.2.2.1,(FH x))))])),true)):=(Jc.v x).trans (by kernel_rfl)
theorem Z7 (x):Nl x=((SD x)/\((Sq x.1)/\(((bOr (bNot (Nk x.1)) (iLt (FH x) 0))=true->True)/\((bOr (bNot (Nk x.1)) (iLt (FH x) 0))=false->((SH x.1)/\((OU ((DG x.1).2.2.2.2.1,(FH x)))/\((O5 x.1.2.2.2.2.1)/\((O5 (Et ((DG x.1).2.2.2.2.1,(FH x))))/\((RO ((FF x.1.2.2.2.2.1),[(FF (Et ((DG x.1).2.2.2.2.1,(FH x))))]))/\(((List.length (DG x.1).2.1)=(List.length (DG x.1).2.1))/\(((List.length (DG x.1).2.2.1)=(List.length (DG x.1).2.2.1))/\((List.length (Et ((DG x.1).2.2.2.2.1,(FH x))))=(List.length (Et ((DG x.1).2.2.2.2.1,(FH x)))))))))))))))):=(Jc.o x).trans (by kernel_rfl)
theorem ky (x):Bn x=((OZ (x.1,x.2.1)).1,(OZ (x.1,x.2.1)).2,(RL x.2.2.1),x.2.2.2):=(IA.v x).trans (by kernel_rfl)
theorem ku (x):Rt x=((Ru (x.1,x.2.1))/\((RD x.2.2.1)/\(AK ((List.length x.2.2.2.2.1)*5)))):=(IA.o x).trans (by kernel_rfl)
theorem pV (x):SB x=(((Bn x.1).1,(Bn x.1).2.1,(Bn x.1).2.2.1,(Bn x.1).2.2.2.1,(lApp (lTake (Bn x.1).2.2.2.2.1 (lN (lSub (Bn x.1).2.2.2.2.1 0 (iNat (B9 x))))) (lSub (Bn x.1).2.2.2.2.1 (iNat (iAdd .i64 (B9 x) 1)) (lN (Bn x.1).2.2.2.2.1))),(Bn x.1).2.2.2.2.2),(MY (Kl x.1.2.2.2.2.1) [(Kl (lApp (lTake (Bn x.1).2.2.2.2.1 (lN (lSub (Bn x.1).2.2.2.2.1 0 (iNat (B9 x))))) (lSub (Bn x.1).2.2.2.2.1 (iNat (iAdd .i64 (B9 x) 1)) (lN (Bn x.1).2.2.2.2.1))))])):=(Jh.v x).trans (by kernel_rfl)
theorem pM (x):VJ x=((Rt x.1)/\((Pk x)/\((((0:Int)<=(B9 x))/\((0<=(iNat (B9 x)))/\(((iNat (B9 x))<=(List.length (Bn x.1).2.2.2.2.1))/\(0<(List.length (Bn x.1).2.2.2.2.1)))))/\((((0:Int)<=(iAdd .i64 (B9 x) 1))/\(((iNat (iAdd .i64 (B9 x) 1))<=(lN (Bn x.1).2.2.2.2.1))/\(((lN (Bn x.1).2.2.2.2.1)<=(List.length (Bn x.1).2.2.2.2.1))/\(0<(List.length (Bn x.1).2.2.2.2.1)))))/\(((0<(List.length (Bn x.1).2.2.2.2.1))/\(((List.length (lSub (Bn x.1).2.2.2.2.1 0 (iNat (B9 x))))<=(List.length (Bn x.1).2.2.2.2.1))/\(AK (((List.length (lSub (Bn x.1).2.2.2.2.1 0 (iNat (B9 x))))+(List.length (lSub (Bn x.1).2.2.2.2.1 (iNat (iAdd .i64 (B9 x) 1)) (lN (Bn x.1).2.2.2.2.1))))*5))))/\((O8 x.1.2.2.2.2.1)/\((O8 (lApp (lTake (Bn x.1).2.2.2.2.1 (lN (lSub (Bn x.1).2.2.2.2.1 0 (iNat (B9 x))))) (lSub (Bn x.1).2.2.2.2.1 (iNat (iAdd .i64 (B9 x) 1)) (lN (Bn x.1).2.2.2.2.1))))/\((MX (Kl x.1.2.2.2.2.1) [(Kl (lApp (lTake (Bn x.1).2.2.2.2.1 (lN (lSub (Bn x.1).2.2.2.2.1 0 (iNat (B9 x))))) (lSub (Bn x.1).2.2.2.2.1 (iNat (iAdd .i64 (B9 x) 1)) (lN (Bn x.1).2.2.2.2.1))))])/\(((List.length (Bn x.1).2.1)=(List.length (Bn x.1).2.1))/\(((List.length (Bn x.1).2.2.1)=(List.length (Bn x.1).2.2.1))/\((List.length (lApp (lTake (Bn x.1).2.2.2.2.1 (lN (lSub (Bn x.1).2.2.2.2.1 0 (iNat (B9 x))))) (lSub (Bn x.1).2.2.2.2.1 (iNat (iAdd .i64 (B9 x) 1)) (lN (Bn x.1).2.2.2.2.1))))=(List.length (lApp (lTake (Bn x.1).2.2.2.2.1 (lN (lSub (Bn x.1).2.2.2.2.1 0 (iNat (B9 x))))) (lSub (Bn x.1).2.2.2.2.1 (iNat (iAdd .i64 (B9 x) 1)) (lN (Bn x.1).2.2.2.2.1))))))))))))))):=(Jh.o x).trans (by kernel_rfl)
theorem ah (x):Aj x=(bSel (bOr (bNot (E9 x.1)) (iLt (B9 x) 0)) ((0,[],[],0,[],0,false),[],false) ((SB x).1,(SB x).2,true)):=(G3.v x).trans (by kernel_rfl)
theorem Z4 (x):LA x=(((RR x.1)/\(((bNot (E9 x.1))=true->True)/\((bNot (E9 x.1))=false->(Pk x))))/\(((bOr (bNot (E9 x.1)) (iLt (B9 x) 0))=true->True)/\((bOr (bNot (E9 x.1)) (iLt (B9 x) 0))=false->(VJ x)))):=(G3.o x).trans (by kernel_rfl)
attribute [irreducible] Pq VQ Sg RO Bx Nl Bn Rt SB VJ Aj LA
end
section
set_option maxRecDepth 8000
def lk:DCode:=(.seq [1,0] (.region [oa 0 4 (.mv Ar)]) (.seq [1,0] (.seq [10,1,0] (.region [on 0 6 0,oa 1 7 (.len (.t 6)),on 2 8 1,oa 3 9 (.len (.t 8)),oa 4 10 (.bin .neq (.t 7) (.t 9))]) (.cond (.t 10) (.seq [4] (.region [oa 0 4 (.mv Ar)]) .ret) .skip)) (.seq [] (.seq [5,1,0] (.region [oi 0 5 0]) (.block 0 (.loop [0,1,5] 1 (.seq [5,1,0] (.seq [14,5,1,0] (.region [om 0 11 5,on 1 12 0,oa 2 13 (.len (.t 12)),oa 3 14 (.bin .lss (.t 11) (.t 13))]) (.cond (.t 14) .skip (.exit 0))) (.seq [5,1,0] (.block 1 (.seq [26,5,1,0] (.region [on 0 17 0,om 1 18 5,xA 2 19 (.indexA 2 (.t 17) (.t 18)) (rg 2),xA 3 20 (.loadH (some 2) (.t 19)) (rg 3),on 4 21 1,om 5 22 5,xA 6 23 (.indexA 2 (.t 21) (.t 22)) [4,5],xA 7 24 (.loadH (some 2) (.t 23)) [4,5,6],xF 8 25 IX [(.t 20),(.t 24)] (rg 8),xA 9 26 (.un .not (.t 25)) (rg 9)]) (.cond (.t 26) (.seq [4] (.region [oa 0 4 (.mv Ar)]) .ret) .skip))) (.region [om 0 15 5,oa 1 16 (.bin .add (.t 15) AF),om 2 5 16])))))) (.seq [4] (.region [oa 0 4 (.mv AZ)]) .ret))))
def DE:Fn:=⟨⟨2,27,0,true,[.tmp 4],lk⟩,[.one .frz (.sl (.cons (.int .i64) (.one (.sl (.one (.int .i64)))))),.one .frz (.sl (.cons (.int .i64) (.one (.sl (.one (.int .i64))))))],.one (.one .own (.bool))⟩
theorem Vt:DE.A:=AN ⟨oH,trivial⟩
def Gg:il->Bool:=DE.V
def Na:il->Prop:=DE.O
theorem Vr:DE.B:=AO ⟨oL,trivial⟩ (by kernel_rfl) (λ x=>by kernel_rfl)
def Zs:ACode:=(.seq (.region [⟨0,some 4,.mv (.c (.int .i64 0)),none,[]⟩]) (.seq (.seq (.region [⟨0,some 5,.mv (.c (.int .i64 0)),none,[]⟩]) (.block 0 (.loop [0,1,5] (.seq (.seq (.region [⟨0,some 6,.mv (.t 5),none,[]⟩,⟨1,some 7,.mv (.t 0),none,[]⟩,⟨2,some 8,.len (.t 7),none,[]⟩,⟨3,some 9,.bin .lss (.t 6) (.t 8),none,[]⟩]) (.cond (.t 9) .skip (.exit 0))) (.seq (.block 1 (.seq (.region [⟨0,some 12,.mv (.t 0),none,[]⟩,⟨1,some 13,.mv (.t 5),none,[]⟩,⟨2,some 14,.mv (.t 1),none,[]⟩,⟨3,some 15,.indexA 2 (.t 12) (.t 13),none,[]⟩,⟨4,some 16,.fieldA 0 (.t 15),none,[]⟩,⟨5,none,.storeH 1 (.t 16) (.t 14),none,[]⟩]) (.seq (.region [⟨0,some 17,.mv (.t 1),none,[]⟩,⟨1,some 18,.bin .add (.t 17) (.c (.int .i64 1)),none,[]⟩,⟨2,some 1,.mv (.t 18),none,[]⟩]) (.region [⟨0,some 19,.mv (.t 0),none,[]⟩,⟨1,some 20,.mv (.t 5),none,[]⟩,⟨2,some 21,.indexA 2 (.t 19) (.t 20),none,[]⟩,⟨3,some 22,.fieldA 1 (.t 21),none,[]⟩,⟨4,some 23,.loadH none (.t 22),none,[]⟩,⟨5,some 24,.mv (.t 1),none,[]⟩,⟨6,some 25,.call Np [(.t 23),(.t 24)],none,[]⟩,⟨7,some 1,.mv (.t 25),none,[]⟩])))) (.region [⟨0,some 10,.mv (.t 5),none,[]⟩,⟨1,some 11,.bin .add (.t 10) (.c (.int .i64 1)),none,[]⟩,⟨2,some 5,.mv (.t 11),none,[]⟩])))))) (.seq (.region [⟨0,some 26,.mv (.t 1),none,[]⟩,⟨1,some 4,.mv (.t 26),none,[]⟩]) .ret)))
def Vj:AFun:=⟨2,27,0,false,[.tmp 4],Zs⟩
@[irreducible] def Kj:A7:=E3 Vj
@[irreducible] def CG(x:Cl)(m:Int):Cl×Int:=(shut fun(x:Cl) (m:Int)=>AP (RT.mkI (.cons (.int .i64) (.one (.sl (.one (.int .i64)))))) x m).1 x m
@[irreducible] def MZ(x:Cl):Prop:=(shut fun(x:Cl)=>CT.wl (.sl (.cons (.int .i64) (.one (.sl (.one (.int .i64)))))) x).1 x
theorem Zj:CG=λ x m=>AP (RT.mkI (.cons (.int .i64) (.one (.sl (.one (.int .i64)))))) x m:=by unfold CG;exact(shut _).2
theorem Zi:MZ=λ x=>CT.wl (.sl (.cons (.int .i64) (.one (.sl (.one (.int .i64)))))) x:=by unfold MZ;exact(shut _).2
theorem jB:SlC Kj (.cons (.int .i64) (.one (.sl (.one (.int .i64))))):=by
 rintro h ω hd p l u m Q hok hinj hM hQ;have hn:=hM.len;have hlb:l.length<=9223372036854775807:=hok.1;unfold Kj;refine HR rfl ?_;unfold Zs;simp only[go_sem,reduceIte,reduceCtorEq,Nat.reduceAdd,Nat.reduceBEq,Int.reduceLT,Int.reduceLE,Int.reduceGT,Int.reduceGE,Int.reduceBEq,Int.reduceBNe,Nat.reduceEqDiff,Nat.reduceLeDiff,Nat.reduceLT,hn];refine KL l.length (λ i st=>∃ h',st=⟨[u,.int .i64 (A4 (RT.mkI (.cons (.int .i64) (.one (.sl (.one (.int .i64)))))) l m i).2,.undef,.undef,.undef,.int .i64 (i:Int)]++DY 21,[],h'⟩/\Only (Fo ω hd p) h h'/\MS h' ω hd p (.cons (.int .i64) (.one (.sl (.one (.int .i64))))) (A4 (RT.mkI (.cons (.int .i64) (.one (.sl (.one (.int .i64)))))) l m i).1 u) ?_ ?_
 . refine⟨h,?_,Only.refl _ _,hM⟩;simp only[Kv,keep,K5];rfl
 . rintro i st next hi ⟨h1,rfl,hO,hR⟩ hnx
   by_cases hlt:i<l.length
   . have hc:decide ((i:Int)<(l.length:Int))=true:=HU (by omega)
     have hw:IntKind.i64.wrap ((i:Int)+1)=((i+1:Nat):Int):=by rw[JY (by omega)];omega
     obtain⟨b,hub⟩:=hR.slice (by rw[Ey];omega);rw[Ey] at hub;subst hub
     cases hL:A4 (RT.mkI (.cons (.int .i64) (.one (.sl (.one (.int .i64)))))) l m i with
     |mk L k0=>
     rw[hL] at hR;obtain⟨hLl,hs,hx0⟩:=LG hlt hL
     have hiL:i<L.length:=by omega
     have hwx:=Mc hok hlt;rw[<- hx0] at hwx;have R0:=MS.frame hR hiL;clear hx0;generalize hx0:List.getD L i (RT.dflt (.cons (.int .i64) (.one (.sl (.one (.int .i64))))))=x0 at R0 hs hwx;clear hx0;have hx:=KJ (b:=b) (w:=2) hlt (k:=.i64);simp only;obtain⟨h2,s0,o0,R1⟩:=MS.st R0 hiL (off:=0) (by decide) (v:=(.int .i64 k0)) rfl rfl (y:=((k0,x0.2):RT.D (.cons (.int .i64) (.one (.sl (.one (.int .i64))))))) rfl hinj [];replace s0:DJ [] h1 1 (.ptr b (i*2)) (.int .i64 k0)=some (.undef,[],h2):=s0;obtain⟨u1,s1,M1,f1⟩:=MS.sb R1 hiL (off:=1) (by decide) (r':=(.one (.int .i64))) (l':=x0.2) rfl;replace s1:JK h2 none (.ptr b (i*2+1))=some u1:=s1;have ok1:=(MS.ok1 M1).1;simp only[go_sem,reduceIte,reduceCtorEq,Nat.reduceAdd,Nat.reduceBEq,Int.reduceLT,Int.reduceLE,Int.reduceGT,Int.reduceGE,Int.reduceBEq,Int.reduceBNe,Nat.reduceEqDiff,Nat.reduceLeDiff,Nat.reduceLT,hn,hc,hw,hx,s0,s1,ok1];refine J9 (oz h2 ω hd _ x0.2 u1 (IntKind.i64.wrap (k0+1)) _ hwx.2 hinj M1 λ h3 O1 N1=>?_);obtain⟨o1,R2⟩:=f1 h3 _ ((k0,(AP (RT.mkI (.one (.int .i64))) x0.2 (IntKind.i64.wrap (k0+1))).1):RT.D (.cons (.int .i64) (.one (.sl (.one (.int .i64)))))) O1 N1 rfl;simp only[go_sem,reduceIte,reduceCtorEq,Nat.reduceAdd,Nat.reduceBEq,Int.reduceLT,Int.reduceLE,Int.reduceGT,Int.reduceGE,Int.reduceBEq,Int.reduceBNe,Nat.reduceEqDiff,Nat.reduceLeDiff,Nat.reduceLT,hn,hc,hw,hx,s0,s1,ok1];exact hnx _ hlt ⟨h3,by rw[hs];rfl,(Only.trans (Only.trans hO o0) o1),by rw[hs];exact R2⟩
   . have hc:decide ((i:Int)<(l.length:Int))=false:=Gs (by omega)
     have hi':i=l.length:=by omega
     subst hi';simp only[go_sem,reduceIte,reduceCtorEq,Nat.reduceAdd,Nat.reduceBEq,Int.reduceLT,Int.reduceLE,Int.reduceGT,Int.reduceGE,Int.reduceBEq,Int.reduceBNe,Nat.reduceEqDiff,Nat.reduceLeDiff,Nat.reduceLT,hn,hc];have e:=Hb (RT.mkI (.cons (.int .i64) (.one (.sl (.one (.int .i64)))))) l m;rw[e] at hR ⊢;exact hQ h1 hO hR
theorem jF:JQ Kj (iZ (.cons (.int .i64) (.one (.sl (.one (.int .i64)))))).P:=SlC.sound jB
def Vm:DMk:=⟨.one (.sl (.cons (.int .i64) (.one (.sl (.one (.int .i64)))))),false,MZ,CG,false⟩
theorem jw:JQ Kj (DMk.P Vm):=by unfold Vm;rw[Zi,Zj];exact jF
def jN:DCode:=(.seq [1,0] (.region [oi 0 4 0]) (.seq [1] (.seq [5,1,0] (.region [oi 0 5 0]) (.block 0 (.loop [0,1,5] 1 (.seq [5,1,0] (.seq [9,5,1,0] (.region [om 0 6 5,on 1 7 0,oa 2 8 (.len (.t 7)),oa 3 9 (.bin .lss (.t 6) (.t 8))]) (.cond (.t 9) .skip (.exit 0))) (.seq [5,1,0] (.block 1 (.seq [5,1,0] (.seq [18,5,1,0] (.region [on 0 12 0,om 1 13 5,oa 2 14 (.indexA 2 (.t 12) (.t 13)),oa 3 15 (.fieldA 0 (.t 14)),oa 4 16 (.loadH none (.t 15)),om 5 17 1,oa 6 18 (.bin .neq (.t 16) (.t 17))]) (.cond (.t 18) (.seq [4] (.region [oi 0 4 (-1)]) .ret) .skip)) (.seq [5,1,0] (.region [om 0 19 1,oa 1 20 (.bin .add (.t 19) AF),om 2 1 20]) (.seq [5,1,0] (.region [on 0 21 0,om 1 22 5,oa 2 23 (.indexA 2 (.t 21) (.t 22)),oa 3 24 (.fieldA 1 (.t 23)),oa 4 25 (.loadH none (.t 24)),om 5 26 1,oF 6 27 I9 [(.t 25),(.t 26)],om 7 1 27]) (.seq [29,5,1,0] (.region [om 0 28 1,oa 1 29 (.bin .lss (.t 28) AL)]) (.cond (.t 29) (.seq [4] (.region [oi 0 4 (-1)]) .ret) .skip)))))) (.region [om 0 10 5,oa 1 11 (.bin .add (.t 10) AF),om 2 5 11])))))) (.seq [4] (.region [om 0 30 1,om 1 4 30]) .ret)))
def GS:Fn:=⟨⟨2,31,0,true,[.tmp 4],jN⟩,[.one .frz (.sl (.cons (.int .i64) (.one (.sl (.one (.int .i64)))))),.one .frz (.int .i64)],.one (.one .own (.int .i64))⟩
theorem Zq:GS.A:=AN ⟨nt,trivial⟩
def GR:iM->Int:=GS.V
def OO:iM->Prop:=GS.O
theorem Zl:GS.B:=AO ⟨mI,trivial⟩ (by kernel_rfl) (λ x=>by kernel_rfl)
def jk:DCode:=(.seq [2,1] (.region [oa 0 2 (.boxB 0 7 (.t 0)),oa 1 4 (.mv Ar)]) (.seq [5,2,1] (.region [oi 0 5 1048576]) (.seq [5,2,1] (.region [oa 0 19 (.loadB 0 (some 7) (.t 2)),om 1 20 5,oF 2 21 I3 [(.t 19),(.t 20)],om 3 5 21]) (.seq [2,1] (.seq [23,2,1] (.region [om 0 22 5,oa 1 23 (.bin .lss (.t 22) AL)]) (.cond (.t 23) (.seq [4] (.region [oa 0 4 (.mv AZ)]) .ret) .skip)) (.seq [8,7,6,2,1] (.region [oa 0 25 (.loadB 0 (some 7) (.t 2)),oF 1 26 EP [(.t 25)],om 2 27 1,oF 3 28 Jc [(.t 26),(.t 27)],om 4 24 28,oa 5 29 (.extract (.t 24) 0),oa 6 30 (.extract (.t 24) 1),oa 7 31 (.extract (.t 24) 2),oa 8 6 (.allocB 1 [An,.nils,.nils,An,.nils,An,Ea]),os 9 (.storeB 1 7 (.t 6) (.t 29)),on 10 7 30,om 11 8 31]) (.seq [9,8,7,6,2,1] (.region [oa 0 32 (.loadB 0 (some 7) (.t 2)),oF 1 33 EP [(.t 32)],oa 2 9 (.allocB 2 [An,.nils,.nils,An,.nils,An,Ea]),os 3 (.storeB 2 7 (.t 9) (.t 33))]) (.seq [12,11,10,9,8,7,6,2,1] (.region [oa 0 35 (.loadB 2 (some 7) (.t 9)),om 1 36 1,oF 2 37 G3 [(.t 35),(.t 36)],om 3 34 37,oa 4 38 (.extract (.t 34) 0),oa 5 39 (.extract (.t 34) 1),oa 6 40 (.extract (.t 34) 2),oa 7 10 (.allocB 3 [An,.nils,.nils,An,.nils,An,Ea]),os 8 (.storeB 3 7 (.t 10) (.t 38)),om 9 11 39,om 10 12 40]) (.seq [12,11,10,9,8,7,6,2,1] (.seq [55,12,11,10,9,8,7,6,2,1] (.region [oa 0 41 (.loadB 3 (some 7) (.t 10)),oa 1 42 (.loadB 1 (some 7) (.t 6)),oF 2 43 Ec [(.t 41),(.t 42)],oa 3 44 (.un .not (.t 43)),om 4 45 44,⟨5,some 46,.a true (.mv (.t 11)) none,(some (45,false)),[]⟩,⟨6,some 47,.a true (.mv (.t 7)) none,(some (45,false)),[]⟩,⟨7,some 48,.call false DE.S DE.P DE.D [(.t 46),(.t 47)],(some (45,false)),[]⟩,og 8 49 (.un .not (.t 48)) 45 false,oa 9 50 (.pick (.t 45) AZ (.t 49)),om 10 51 50,og 11 52 (.mv (.t 12)) 51 false,og 12 53 (.mv (.t 8)) 51 false,og 13 54 (.eqB true (.t 52) (.t 53)) 51 false,oa 14 55 (.pick (.t 51) AZ (.t 54))]) (.cond (.t 55) (.seq [4] (.region [oa 0 4 (.mv Ar)]) .ret) .skip)) (.seq [12,11,10,9,8,7,6,2,1] (.seq [60,12,11,10,9,8,7,6,2,1] (.region [oa 0 56 (.loadB 2 (some 7) (.t 9)),oa 1 57 (.loadB 0 (some 7) (.t 2)),xF 2 58 EP [(.t 57)] [1],xF 3 59 Ec [(.t 56),(.t 58)] (rg 3),xA 4 60 (.un .not (.t 59)) (rg 4)]) (.cond (.t 60) (.seq [4] (.region [oa 0 4 (.mv Ar)]) .ret) .skip)) (.seq [13,12,11,10,9,8,7,6,2,1] (.region [oi 0 13 1]) (.seq [13,12,11,10,8,7,6,2,1] (.region [oa 0 61 (.loadB 2 (some 7) (.t 9)),om 1 62 13,⟨2,some 63,.mark HF RQ (.t 61) (.t 62),none,[]⟩,om 3 13 63]) (.seq [11,10,8,7,6,2,1] (.seq [82,11,10,8,7,6,2,1] (.region [om 0 64 13,oa 1 65 (.bin .lss (.t 64) AL),om 2 66 65,og 3 67 (.loadB 3 (some 7) (.t 10)) 66 false,og 4 68 (.loadB 1 (some 7) (.t 6)) 66 false,⟨5,some 69,.call false Ec.S Ec.P Ec.D [(.t 67),(.t 68)],(some (66,false)),[]⟩,og 6 70 (.un .not (.t 69)) 66 false,oa 7 71 (.pick (.t 66) AZ (.t 70)),om 8 72 71,⟨9,some 73,.a true (.mv (.t 11)) none,(some (72,false)),[]⟩,⟨10,some 74,.a true (.mv (.t 7)) none,(some (72,false)),[]⟩,⟨11,some 75,.call false DE.S DE.P DE.D [(.t 73),(.t 74)],(some (72,false)),[]⟩,og 12 76 (.un .not (.t 75)) 72 false,oa 13 77 (.pick (.t 72) AZ (.t 76)),om 14 78 77,og 15 79 (.mv (.t 12)) 78 false,og 16 80 (.mv (.t 8)) 78 false,og 17 81 (.eqB true (.t 79) (.t 80)) 78 false,oa 18 82 (.pick (.t 78) AZ (.t 81))]) (.cond (.t 82) (.seq [4] (.region [oa 0 4 (.mv Ar)]) .ret) .skip)) (.seq [14,11,10,8,7,6,2,1] (.region [oi 0 14 1]) (.seq [14,11,10,8,7,6,2,1] (.region [oa 0 83 (.loadB 3 (some 7) (.t 10)),om 1 84 14,⟨2,some 85,.mark HF RQ (.t 83) (.t 84),none,[]⟩,om 3 14 85]) (.seq [14,11,10,8,7,6,2,1] (.region [on 0 86 11,om 1 87 14,⟨2,some 88,.mark Kj Vm (.t 86) (.t 87),none,[]⟩,om 3 14 88]) (.seq [15,14,11,10,8,7,6,2,1] (.region [oi 0 15 1]) (.seq [15,14,11,10,8,7,6,2,1] (.region [oa 0 89 (.loadB 3 (some 7) (.t 10)),om 1 90 15,oF 2 91 GU [(.t 89),(.t 90)],om 3 15 91]) (.seq [15,14,11,10,8,7,6,2,1] (.seq [93,15,14,11,10,8,7,6,2,1] (.region [om 0 92 15,oa 1 93 (.bin .lss (.t 92) AL)]) (.cond (.t 93) (.seq [4] (.region [oa 0 4 (.mv Ar)]) .ret) .skip)) (.seq [15,14,11,10,8,7,6,2,1] (.region [on 0 94 11,om 1 95 15,oF 2 96 GS [(.t 94),(.t 95)],om 3 15 96]) (.seq [15,14,11,10,8,7,6,2,1] (.seq [98,15,14,11,10,8,7,6,2,1] (.region [om 0 97 15,oa 1 98 (.bin .lss (.t 97) AL)]) (.cond (.t 98) (.seq [4] (.region [oa 0 4 (.mv Ar)]) .ret) .skip)) (.seq [14,11,10,8,7,6,2,1] (.seq [101,14,11,10,8,7,6,2,1] (.region [om 0 99 15,om 1 100 14,oa 2 101 (.bin .neq (.t 99) (.t 100))]) (.cond (.t 101) (.seq [4] (.region [oa 0 4 (.mv Ar)]) .ret) .skip)) (.seq [18,17,16,14,11,10,8,7,6] (.region [oa 0 103 (.loadB 0 (some 7) (.t 2)),oF 1 104 EP [(.t 103)],om 2 105 1,oF 3 106 G3 [(.t 104),(.t 105)],om 4 102 106,oa 5 107 (.extract (.t 102) 0),oa 6 108 (.extract (.t 102) 1),oa 7 109 (.extract (.t 102) 2),oa 8 16 (.allocB 4 [An,.nils,.nils,An,.nils,An,Ea]),os 9 (.storeB 4 7 (.t 16) (.t 107)),on 10 17 108,om 11 18 109]) (.seq [14,11,10] (.seq [124,14,11,10] (.region [oa 0 110 (.loadB 4 (some 7) (.t 16)),oa 1 111 (.loadB 1 (some 7) (.t 6)),oF 2 112 Ec [(.t 110),(.t 111)],oa 3 113 (.un .not (.t 112)),om 4 114 113,⟨5,some 115,.a true (.mv (.t 17)) none,(some (114,false)),[]⟩,⟨6,some 116,.a true (.mv (.t 7)) none,(some (114,false)),[]⟩,⟨7,some 117,.call false DE.S DE.P DE.D [(.t 115),(.t 116)],(some (114,false)),[]⟩,og 8 118 (.un .not (.t 117)) 114 false,oa 9 119 (.pick (.t 114) AZ (.t 118)),om 10 120 119,og 11 121 (.mv (.t 18)) 120 false,og 12 122 (.mv (.t 8)) 120 false,og 13 123 (.eqB true (.t 121) (.t 122)) 120 false,oa 14 124 (.pick (.t 120) AZ (.t 123))]) (.cond (.t 124) (.seq [4] (.region [oa 0 4 (.mv Ar)]) .ret) .skip)) (.seq [15,14,11,10] (.region [oi 0 15 1]) (.seq [15,14,11] (.region [oa 0 125 (.loadB 3 (some 7) (.t 10)),om 1 126 15,oF 2 127 GU [(.t 125),(.t 126)],om 3 15 127]) (.seq [15,14,11] (.seq [129,15,14,11] (.region [om 0 128 15,oa 1 129 (.bin .lss (.t 128) AL)]) (.cond (.t 129) (.seq [4] (.region [oa 0 4 (.mv Ar)]) .ret) .skip)) (.seq [15,14] (.region [on 0 130 11,om 1 131 15,oF 2 132 GS [(.t 130),(.t 131)],om 3 15 132]) (.seq [15,14] (.seq [134,15,14] (.region [om 0 133 15,oa 1 134 (.bin .lss (.t 133) AL)]) (.cond (.t 134) (.seq [4] (.region [oa 0 4 (.mv Ar)]) .ret) .skip)) (.seq [] (.seq [137] (.region [om 0 135 15,om 1 136 14,oa 2 137 (.bin .neq (.t 135) (.t 136))]) (.cond (.t 137) (.seq [4] (.region [oa 0 4 (.mv Ar)]) .ret) .skip)) (.seq [4] (.region [oa 0 4 (.mv AZ)]) .ret))))))))))))))))))))))))))))))
def Ge:Fn:=⟨⟨2,138,5,true,[.tmp 4],jk⟩,[.agg [Av,(.frz,.sl (.one (.sl Au))),(.frz,.sl (.one (.sl AJ))),Av,(.frz,.sl AY),Av,(.frz,.bool)],.one .frz (.int .i64)],.one (.one .own (.bool))⟩
theorem jl:Ge.A:=AN ⟨nH,R6,pk,R6,aa,R8,Vt,R6,R8,Zp,R8,Vt,Zp,jw,Zz,Zq,R6,aa,R8,Vt,Zz,Zq,trivial⟩
def Rf:Em->Bool:=Ge.V
def Re:Em->Prop:=Ge.O
end
section
set_option maxRecDepth 100000
theorem mr (x):Gg x=(bAnd (bNot (iNe (lLen x.1) (lLen x.2))) (bNot (iLt (Ap (fun(x0:Int)=>(bAnd (iLt x0 (lLen x.1)) (bNot (bNot (I8 (((lGet x.1 (iNat x0) (0,[])).1,(lGet x.1 (iNat x0) (0,[])).2),(lGet x.2 (iNat x0) (0,[])).1,(lGet x.2 (iNat x0) (0,[])).2)))))) (fun(x0:Int)=>(iAdd .i64 x0 1)) 0) (lLen x.1)))):=(DE.v x).trans (by kernel_rfl)
theorem mw (x):Na x=(((iNe (lLen x.1) (lLen x.2))=true->True)/\((iNe (lLen x.1) (lLen x.2))=false->(LoopOk (fun(x0:Int)=>(bAnd (iLt x0 (lLen x.1)) (bNot (bNot (I8 (((lGet x.1 (iNat x0) (0,[])).1,(lGet x.1 (iNat x0) (0,[])).2),(lGet x.2 (iNat x0) (0,[])).1,(lGet x.2 (iNat x0) (0,[])).2)))))) (fun(x0:Int)=>(iAdd .i64 x0 1)) (fun(x0:Int)=>(((iLt x0 (lLen x.1))=true->((((0:Int)<=x0)/\(x0<(((List.length x.1):Int))))/\(((iNat x0)<(List.length x.1))/\((((0:Int)<=x0)/\(x0<(((List.length x.2):Int))))/\(((iNat x0)<(List.length x.2))/\(O7 (((lGet x.1 (iNat x0) (0,[])).1,(lGet x.1 (iNat x0) (0,[])).2),(lGet x.2 (iNat x0) (0,[])).1,(lGet x.2 (iNat x0) (0,[])).2)))))))/\((iLt x0 (lLen x.1))=false->True))) 0))):=(DE.o x).trans (by kernel_rfl)
theorem jH (x):GR x=(bSel (iLt (Ap (fun(x0:Aq)=>(bAnd (iLt x0.2 (lLen x.1)) (bAnd (bNot (iNe (lGet x.1 (iNat x0.2) (0,[])).1 x0.1)) (bNot (iLt (Ed ((lGet x.1 (iNat x0.2) (0,[])).2,(iAdd .i64 x0.1 1))) 0))))) (fun(x0:Aq)=>((Ed ((lGet x.1 (iNat x0.2) (0,[])).2,(iAdd .i64 x0.1 1))),(iAdd .i64 x0.2 1))) (x.2,0)).2 (lLen x.1)) (bSel (iNe (lGet x.1 (iNat (Ap (fun(x0:Aq)=>(bAnd (iLt x0.2 (lLen x.1)) (bAnd (bNot (iNe (lGet x.1 (iNat x0.2) (0,[])).1 x0.1)) (bNot (iLt (Ed ((lGet x.1 (iNat x0.2) (0,[])).2,(iAdd .i64 x0.1 1))) 0))))) (fun(x0:Aq)=>((Ed ((lGet x.1 (iNat x0.2) (0,[])).2,(iAdd .i64 x0.1 1))),(iAdd .i64 x0.2 1))) (x.2,0)).2) (0,[])).1 (Ap (fun(x0:Aq)=>(bAnd (iLt x0.2 (lLen x.1)) (bAnd (bNot (iNe (lGet x.1 (iNat x0.2) (0,[])).1 x0.1)) (bNot (iLt (Ed ((lGet x.1 (iNat x0.2) (0,[])).2,(iAdd .i64 x0.1 1))) 0))))) (fun(x0:Aq)=>((Ed ((lGet x.1 (iNat x0.2) (0,[])).2,(iAdd .i64 x0.1 1))),(iAdd .i64 x0.2 1))) (x.2,0)).1) (-1) (-1)) (Ap (fun(x0:Aq)=>(bAnd (iLt x0.2 (lLen x.1)) (bAnd (bNot (iNe (lGet x.1 (iNat x0.2) (0,[])).1 x0.1)) (bNot (iLt (Ed ((lGet x.1 (iNat x0.2) (0,[])).2,(iAdd .i64 x0.1 1))) 0))))) (fun(x0:Aq)=>((Ed ((lGet x.1 (iNat x0.2) (0,[])).2,(iAdd .i64 x0.1 1))),(iAdd .i64 x0.2 1))) (x.2,0)).1):=(GS.v x).trans (by kernel_rfl)
theorem jP (x):OO x=(LoopOk (fun(x0:Aq)=>(bAnd (iLt x0.2 (lLen x.1)) (bAnd (bNot (iNe (lGet x.1 (iNat x0.2) (0,[])).1 x0.1)) (bNot (iLt (Ed ((lGet x.1 (iNat x0.2) (0,[])).2,(iAdd .i64 x0.1 1))) 0))))) (fun(x0:Aq)=>((Ed ((lGet x.1 (iNat x0.2) (0,[])).2,(iAdd .i64 x0.1 1))),(iAdd .i64 x0.2 1))) (fun(x0:Aq)=>(((iLt x0.2 (lLen x.1))=true->((((0:Int)<=x0.2)/\(x0.2<(((List.length x.1):Int))))/\(((iNat x0.2)<(List.length x.1))/\(((iNe (lGet x.1 (iNat x0.2) (0,[])).1 x0.1)=true->True)/\((iNe (lGet x.1 (iNat x0.2) (0,[])).1 x0.1)=false->((((0:Int)<=x0.2)/\(x0.2<(((List.length x.1):Int))))/\(((iNat x0.2)<(List.length x.1))/\(O6 ((lGet x.1 (iNat x0.2) (0,[])).2,(iAdd .i64 x0.1 1))))))))))/\((iLt x0.2 (lLen x.1))=false->True))) (x.2,0)):=(GS.o x).trans (by kernel_rfl)
theorem jm (x):Rf x=(bOr (iLt (HH (x.1,1048576)) 0) (bAnd (bNot (bOr (bNot (Dn ((Aj ((Ae x.1),x.2)).1,(Bx ((Ae x.1),x.2)).1))) (bOr (bNot (Gg ((Aj ((Ae x.1),x.2)).2.1,(Bx ((Ae x.1),x.2)).2.1))) (bNot (bIff (Aj ((Ae x.1),x.2)).2.2 (Bx ((Ae x.1),x.2)).2.2))))) (bAnd (bNot (bNot (Dn ((Ae x.1),(Ae x.1))))) (bAnd (bNot (bOr (iLt (AG (Ae x.1) 1).2 0) (bOr (bNot (Dn ((Aj ((Ae x.1),x.2)).1,(Bx ((Ae x.1),x.2)).1))) (bOr (bNot (Gg ((Aj ((Ae x.1),x.2)).2.1,(Bx ((Ae x.1),x.2)).2.1))) (bNot (bIff (Aj ((Ae x.1),x.2)).2.2 (Bx ((Ae x.1),x.2)).2.2)))))) (bAnd (bNot (iLt (DD (((Aj ((Ae x.1),x.2)).1.1,(AG (Aj ((Ae x.1),x.2)).1 1).1.2.1,(AG (Aj ((Ae x.1),x.2)).1 1).1.2.2.1,(Aj ((Ae x.1),x.2)).1.2.2.2.1,(AG (Aj ((Ae x.1),x.2)).1 1).1.2.2.2.2.1,(Aj ((Ae x.1),x.2)).1.2.2.2.2.2),1)) 0)) (bAnd (bNot (iLt (GR ((CG (Aj ((Ae x.1),x.2)).2.1 (AG (Aj ((Ae x.1),x.2)).1 1).2).1,(DD (((Aj ((Ae x.1),x.2)).1.1,(AG (Aj ((Ae x.1),x.2)).1 1).1.2.1,(AG (Aj ((Ae x.1),x.2)).1 1).1.2.2.1,(Aj ((Ae x.1),x.2)).1.2.2.2.1,(AG (Aj ((Ae x.1),x.2)).1 1).1.2.2.2.2.1,(Aj ((Ae x.1),x.2)).1.2.2.2.2.2),1)))) 0)) (bAnd (bNot (iNe (GR ((CG (Aj ((Ae x.1),x.2)).2.1 (AG (Aj ((Ae x.1),x.2)).1 1).2).1,(DD (((Aj ((Ae x.1),x.2)).1.1,(AG (Aj ((Ae x.1),x.2)).1 1).1.2.1,(AG (Aj ((Ae x.1),x.2)).1 1).1.2.2.1,(Aj ((Ae x.1),x.2)).1.2.2.2.1,(AG (Aj ((Ae x.1),x.2)).1 1).1.2.2.2.2.1,(Aj ((Ae x.1),x.2)).1.2.2.2.2.2),1)))) (CG (Aj ((Ae x.1),x.2)).2.1 (AG (Aj ((Ae x.1),x.2)).1 1).2).2)) (bAnd (bNot (bOr (bNot (Dn ((Aj ((Ae x.1),x.2)).1,(Bx ((Ae x.1),x.2)).1))) (bOr (bNot (Gg ((Aj ((Ae x.1),x.2)).2.1,(Bx ((Ae x.1),x.2)).2.1))) (bNot (bIff (Aj ((Ae x.1),x.2)).2.2 (Bx ((Ae x.1),x.2)).2.2))))) (bAnd (bNot (iLt (DD (((Aj ((Ae x.1),x.2)).1.1,(AG (Aj ((Ae x.1),x.2)).1 1).1.2.1,(AG (Aj ((Ae x.1),x.2)).1 1).1.2.2.1,(Aj ((Ae x.1),x.2)).1.2.2.2.1,(AG (Aj ((Ae x.1),x.2)).1 1).1.2.2.2.2.1,(Aj ((Ae x.1),x.2)).1.2.2.2.2.2),1)) 0)) (bAnd (bNot (iLt (GR ((CG (Aj ((Ae x.1),x.2)).2.1 (AG (Aj ((Ae x.1),x.2)).1 1).2).1,(DD (((Aj ((Ae x.1),x.2)).1.1,(AG (Aj ((Ae x.1),x.2)).1 1).1.2.1,(AG (Aj ((Ae x.1),x.2)).1 1).1.2.2.1,(Aj ((Ae x.1),x.2)).1.2.2.2.1,(AG (Aj ((Ae x.1),x.2)).1 1).1.2.2.2.2.1,(Aj ((Ae x.1),x.2)).1.2.2.2.2.2),1)))) 0)) (bNot (iNe (GR ((CG (Aj ((Ae x.1),x.2)).2.1 (AG (Aj ((Ae x.1),x.2)).1 1).2).1,(DD (((Aj ((Ae x.1),x.2)).1.1,(AG (Aj ((Ae x.1),x.2)).1 1).1.2.1,(AG (Aj ((Ae x.1),x.2)).1 1).1.2.2.1,(Aj ((Ae x.1),x.2)).1.2.2.2.1,(AG (Aj ((Ae x.1),x.2)).1 1).1.2.2.2.2.1,(Aj ((Ae x.1),x.2)).1.2.2.2.2.2),1)))) (CG (Aj ((Ae x.1),x.2)).2.1 (AG (Aj ((Ae x.1),x.2)).1 1).2).2)))))))))))):=(Ge.v x).trans (by kernel_rfl)
theorem jn (x):Re x=((RW (x.1,1048576))/\(((iLt (HH (x.1,1048576)) 0)=true->True)/\((iLt (HH (x.1,1048576)) 0)=false->((Lz x.1)/\((Nl ((Ae x.1),x.2))/\((Lz x.1)/\((LA ((Ae x.1),x.2))/\(((Ly ((Aj ((Ae x.1),x.2)).1,(Bx ((Ae x.1),x.2)).1))/\(((bNot (Dn ((Aj ((Ae x.1),x.2)).1,(Bx ((Ae x.1),x.2)).1)))=true->True)/\((bNot (Dn ((Aj ((Ae x.1),x.2)).1,(Bx ((Ae x.1),x.2)).1)))=false->(Na ((Aj ((Ae x.1),x.2)).2.1,(Bx ((Ae x.1),x.2)).2.1)))))/\(((bOr (bNot (Dn ((Aj ((Ae x.1),x.2)).1,(Bx ((Ae x.1),x.2)).1))) (bOr (bNot (Gg ((Aj ((Ae x.1),x.2)).2.1,(Bx ((Ae x.1),x.2)).2.1))) (bNot (bIff (Aj ((Ae x.1),x.2)).2.2 (Bx ((Ae x.1),x.2)).2.2))))=true->True)/\((bOr (bNot (Dn ((Aj ((Ae x.1),x.2)).1,(Bx ((Ae x.1),x.2)).1))) (bOr (bNot (Gg ((Aj ((Ae x.1),x.2)).2.1,(Bx ((Ae x.1),x.2)).2.1))) (bNot (bIff (Aj ((Ae x.1),x.2)).2.2 (Bx ((Ae x.1),x.2)).2.2))))=false->((Lz x.1)/\((Ly ((Ae x.1),(Ae x.1)))/\(((bNot (Dn ((Ae x.1),(Ae x.1))))=true->True)/\((bNot (Dn ((Ae x.1),(Ae x.1))))=false->(((((List.length (Ae x.1).2.1)=(List.length (Ae x.1).2.1))/\(((List.length (Ae x.1).2.2.1)=(List.length (Ae x.1).2.2.1))/\((List.length (Ae x.1).2.2.2.2.1)=(List.length (Ae x.1).2.2.2.2.1))))/\(DMk.ok (DMk.mk (RT.cons (CT.int IntKind.i64) (RT.cons (CT.sl (RT.one (CT.sl (RT.cons (CT.int IntKind.i64) (RT.cons (CT.int IntKind.i64) (RT.cons (CT.int IntKind.i64) (RT.one (CT.int IntKind.i64)))))))) (RT.cons (CT.sl (RT.one (CT.sl (RT.cons (CT.int IntKind.i64) (RT.cons (CT.int IntKind.i64) (RT.one (CT.int IntKind.i64))))))) (RT.cons (CT.int IntKind.i64) (RT.cons (CT.sl (RT.cons (CT.int IntKind.i64) (RT.cons (CT.int IntKind.i64) (RT.cons (CT.int IntKind.i64) (RT.cons (CT.int IntKind.i64) (RT.one (CT.int IntKind.i64))))))) (RT.cons (CT.int IntKind.i64) (RT.one CT.bool))))))) true Lr AG false) (Ae x.1)))/\((((iLt (AG (Ae x.1) 1).2 0)=true->True)/\((iLt (AG (Ae x.1) 1).2 0)=false->((Ly ((Aj ((Ae x.1),x.2)).1,(Bx ((Ae x.1),x.2)).1))/\(((bNot (Dn ((Aj ((Ae x.1),x.2)).1,(Bx ((Ae x.1),x.2)).1)))=true->True)/\((bNot (Dn ((Aj ((Ae x.1),x.2)).1,(Bx ((Ae x.1),x.2)).1)))=false->(Na ((Aj ((Ae x.1),x.2)).2.1,(Bx ((Ae x.1),x.2)).2.1)))))))/\(((bOr (iLt (AG (Ae x.1) 1).2 0) (bOr (bNot (Dn ((Aj ((Ae x.1),x.2)).1,(Bx ((Ae x.1),x.2)).1))) (bOr (bNot (Gg ((Aj ((Ae x.1),x.2)).2.1,(Bx ((Ae x.1),x.2)).2.1))) (bNot (bIff (Aj ((Ae x.1),x.2)).2.2 (Bx ((Ae x.1),x.2)).2.2)))))=true->True)/\((bOr (iLt (AG (Ae x.1) 1).2 0) (bOr (bNot (Dn ((Aj ((Ae x.1),x.2)).1,(Bx ((Ae x.1),x.2)).1))) (bOr (bNot (Gg ((Aj ((Ae x.1),x.2)).2.1,(Bx ((Ae x.1),x.2)).2.1))) (bNot (bIff (Aj ((Ae x.1),x.2)).2.2 (Bx ((Ae x.1),x.2)).2.2)))))=false->(((((List.length (Aj ((Ae x.1),x.2)).1.2.1)=(List.length (Aj ((Ae x.1),x.2)).1.2.1))/\(((List.length (Aj ((Ae x.1),x.2)).1.2.2.1)=(List.length (Aj ((Ae x.1),x.2)).1.2.2.1))/\((List.length (Aj ((Ae x.1),x.2)).1.2.2.2.2.1)=(List.length (Aj ((Ae x.1),x.2)).1.2.2.2.2.1))))/\(DMk.ok (DMk.mk (RT.cons (CT.int IntKind.i64) (RT.cons (CT.sl (RT.one (CT.sl (RT.cons (CT.int IntKind.i64) (RT.cons (CT.int IntKind.i64) (RT.cons (CT.int IntKind.i64) (RT.one (CT.int IntKind.i64)))))))) (RT.cons (CT.sl (RT.one (CT.sl (RT.cons (CT.int IntKind.i64) (RT.cons (CT.int IntKind.i64) (RT.one (CT.int IntKind.i64))))))) (RT.cons (CT.int IntKind.i64) (RT.cons (CT.sl (RT.cons (CT.int IntKind.i64) (RT.cons (CT.int IntKind.i64) (RT.cons (CT.int IntKind.i64) (RT.cons (CT.int IntKind.i64) (RT.one (CT.int IntKind.i64))))))) (RT.cons (CT.int IntKind.i64) (RT.one CT.bool))))))) true Lr AG false) (Aj ((Ae x.1),x.2)).1))/\((((List.length (Aj ((Ae x.1),x.2)).2.1)=(List.length (Aj ((Ae x.1),x.2)).2.1))/\(DMk.ok (DMk.mk (RT.one (CT.sl (RT.cons (CT.int IntKind.i64) (RT.one (CT.sl (RT.one (CT.int IntKind.i64))))))) false MZ CG false) (Aj ((Ae x.1),x.2)).2.1))/\((OS (((Aj ((Ae x.1),x.2)).1.1,(AG (Aj ((Ae x.1),x.2)).1 1).1.2.1,(AG (Aj ((Ae x.1),x.2)).1 1).1.2.2.1,(Aj ((Ae x.1),x.2)).1.2.2.2.1,(AG (Aj ((Ae x.1),x.2)).1 1).1.2.2.2.2.1,(Aj ((Ae x.1),x.2)).1.2.2.2.2.2),1))/\(((iLt (DD (((Aj ((Ae x.1),x.2)).1.1,(AG (Aj ((Ae x.1),x.2)).1 1).1.2.1,(AG (Aj ((Ae x.1),x.2)).1 1).1.2.2.1,(Aj ((Ae x.1),x.2)).1.2.2.2.1,(AG (Aj ((Ae x.1),x.2)).1 1).1.2.2.2.2.1,(Aj ((Ae x.1),x.2)).1.2.2.2.2.2),1)) 0)=true->True)/\((iLt (DD (((Aj ((Ae x.1),x.2)).1.1,(AG (Aj ((Ae x.1),x.2)).1 1).1.2.1,(AG (Aj ((Ae x.1),x.2)).1 1).1.2.2.1,(Aj ((Ae x.1),x.2)).1.2.2.2.1,(AG (Aj ((Ae x.1),x.2)).1 1).1.2.2.2.2.1,(Aj ((Ae x.1),x.2)).1.2.2.2.2.2),1)) 0)=false->((OO ((CG (Aj ((Ae x.1),x.2)).2.1 (AG (Aj ((Ae x.1),x.2)).1 1).2).1,(DD (((Aj ((Ae x.1),x.2)).1.1,(AG (Aj ((Ae x.1),x.2)).1 1).1.2.1,(AG (Aj ((Ae x.1),x.2)).1 1).1.2.2.1,(Aj ((Ae x.1),x.2)).1.2.2.2.1,(AG (Aj ((Ae x.1),x.2)).1 1).1.2.2.2.2.1,(Aj ((Ae x.1),x.2)).1.2.2.2.2.2),1))))/\(((iLt (GR ((CG (Aj ((Ae x.1),x.2)).2.1 (AG (Aj ((Ae x.1),x.2)).1 1).2).1,(DD (((Aj ((Ae x.1),x.2)).1.1,(AG (Aj ((Ae x.1),x.2)).1 1).1.2.1,(AG (Aj ((Ae x.1),x.2)).1 1).1.2.2.1,(Aj ((Ae x.1),x.2)).1.2.2.2.1,(AG (Aj ((Ae x.1),x.2)).1 1).1.2.2.2.2.1,(Aj ((Ae x.1),x.2)).1.2.2.2.2.2),1)))) 0)=true->True)/\((iLt (GR ((CG (Aj ((Ae x.1),x.2)).2.1 (AG (Aj ((Ae x.1),x.2)).1 1).2).1,(DD (((Aj ((Ae x.1),x.2)).1.1,(AG (Aj ((Ae x.1),x.2)).1 1).1.2.1,(AG (Aj ((Ae x.1),x.2)).1 1).1.2.2.1,(Aj ((Ae x.1),x.2)).1.2.2.2.1,(AG (Aj ((Ae x.1),x.2)).1 1).1.2.2.2.2.1,(Aj ((Ae x.1),x.2)).1.2.2.2.2.2),1)))) 0)=false->(((iNe (GR ((CG (Aj ((Ae x.1),x.2)).2.1 (AG (Aj ((Ae x.1),x.2)).1 1).2).1,(DD (((Aj ((Ae x.1),x.2)).1.1,(AG (Aj ((Ae x.1),x.2)).1 1).1.2.1,(AG (Aj ((Ae x.1),x.2)).1 1).1.2.2.1,(Aj ((Ae x.1),x.2)).1.2.2.2.1,(AG (Aj ((Ae x.1),x.2)).1 1).1.2.2.2.2.1,(Aj ((Ae x.1),x.2)).1.2.2.2.2.2),1)))) (CG (Aj ((Ae x.1),x.2)).2.1 (AG (Aj ((Ae x.1),x.2)).1 1).2).2)=true->True)/\((iNe (GR ((CG (Aj ((Ae x.1),x.2)).2.1 (AG (Aj ((Ae x.1),x.2)).1 1).2).1,(DD (((Aj ((Ae x.1),x.2)).1.1,(AG (Aj ((Ae x.1),x.2)).1 1).1.2.1,(AG (Aj ((Ae x.1),x.2)).1 1).1.2.2.1,(Aj ((Ae x.1),x.2)).1.2.2.2.1,(AG (Aj ((Ae x.1),x.2)).1 1).1.2.2.2.2.1,(Aj ((Ae x.1),x.2)).1.2.2.2.2.2),1)))) (CG (Aj ((Ae x.1),x.2)).2.1 (AG (Aj ((Ae x.1),x.2)).1 1).2).2)=false->((Lz x.1)/\((LA ((Ae x.1),x.2))/\(((Ly ((Aj ((Ae x.1),x.2)).1,(Bx ((Ae x.1),x.2)).1))/\(((bNot (Dn ((Aj ((Ae x.1),x.2)).1,(Bx ((Ae x.1),x.2)).1)))=true->True)/\((bNot (Dn ((Aj ((Ae x.1),x.2)).1,(Bx ((Ae x.1),x.2)).1)))=false->(Na ((Aj ((Ae x.1),x.2)).2.1,(Bx ((Ae x.1),x.2)).2.1)))))/\(((bOr (bNot (Dn ((Aj ((Ae x.1),x.2)).1,(Bx ((Ae x.1),x.2)).1))) (bOr (bNot (Gg ((Aj ((Ae x.1),x.2)).2.1,(Bx ((Ae x.1),x.2)).2.1))) (bNot (bIff (Aj ((Ae x.1),x.2)).2.2 (Bx ((Ae x.1),x.2)).2.2))))=true->True)/\((bOr (bNot (Dn ((Aj ((Ae x.1),x.2)).1,(Bx ((Ae x.1),x.2)).1))) (bOr (bNot (Gg ((Aj ((Ae x.1),x.2)).2.1,(Bx ((Ae x.1),x.2)).2.1))) (bNot (bIff (Aj ((Ae x.1),x.2)).2.2 (Bx ((Ae x.1),x.2)).2.2))))=false->((OS (((Aj ((Ae x.1),x.2)).1.1,(AG (Aj ((Ae x.1),x.2)).1 1).1.2.1,(AG (Aj ((Ae x.1),x.2)).1 1).1.2.2.1,(Aj ((Ae x.1),x.2)).1.2.2.2.1,(AG (Aj ((Ae x.1),x.2)).1 1).1.2.2.2.2.1,(Aj ((Ae x.1),x.2)).1.2.2.2.2.2),1))/\(((iLt (DD (((Aj ((Ae x.1),x.2)).1.1,(AG (Aj ((Ae x.1),x.2)).1 1).1.2.1,(AG (Aj ((Ae x.1),x.2)).1 1).1.2.2.1,(Aj ((Ae x.1),x.2)).1.2.2.2.1,(AG (Aj ((Ae x.1),x.2)).1 1).1.2.2.2.2.1,(Aj ((Ae x.1),x.2)).1.2.2.2.2.2),1)) 0)=true->True)/\((iLt (DD (((Aj ((Ae x.1),x.2)).1.1,(AG (Aj ((Ae x.1),x.2)).1 1).1.2.1,(AG (Aj ((Ae x.1),x.2)).1 1).1.2.2.1,(Aj ((Ae x.1),x.2)).1.2.2.2.1,(AG (Aj ((Ae x.1),x.2)).1 1).1.2.2.2.2.1,(Aj ((Ae x.1),x.2)).1.2.2.2.2.2),1)) 0)=false->(OO ((CG (Aj ((Ae x.1),x.2)).2.1 (AG (Aj ((Ae x.1),x.2)).1 1).2).1,(DD (((Aj ((Ae x.1),x.2)).1.1,(AG (Aj ((Ae x.1),x.2)).1 1).1.2.1,(AG (Aj ((Ae x.1),x.2)).1 1).1.2.2.1,(Aj ((Ae x.1),x.2)).1.2.2.2.1,(AG (Aj ((Ae x.1),x.2)).1 1).1.2.2.2.2.1,(Aj ((Ae x.1),x.2)).1.2.2.2.2.2),1)))))))))))))))))))))))))))))))))))))))):=(Ge.o x).trans (by kernel_rfl)
attribute [irreducible] Gg Na GR OO Rf Re
end
theorem Ax(a:Bool):bNot a=!a:=by simp only[Og]
theorem AD(a b:Bool):bAnd a b=(a&&b):=by simp only[Yq]
theorem Dt(a b:Bool):bOr a b=(a||b):=by simp only[ib]
theorem Ez(a b:Bool):bIff a b=(a == b):=by simp only[gi]
theorem Cn{α:Type}(c:Bool)(x y:α):bSel c x y=if c=true then x else y:=by cases c<;>simp[Eg,EE]
theorem De(a b:Int):iEq a b=decide (a=b):=by
 rw[UR];by_cases h:a=b<;>simp[h]
theorem BD(a b:Int):iNe a b=!decide (a=b):=by
 rw[iJ];by_cases h:a=b<;>simp[h]
theorem As(a b:Int):iLt a b=decide (a<b):=by simp only[im]
theorem L9(a b:Int):iLe a b=decide (a<=b):=by simp only[iw]
theorem K3(a b:Int):iGt a b=decide (b<a):=by simp only[iR]
theorem KR(a b:Int):iGe a b=decide (b<=a):=by simp only[iU]
theorem ZbD(a b:Ij):sEq a b=(a == b):=by simp only[ie]
theorem ZbA(a b:Ij):sNe a b=!(a == b):=by simp only[hZ]
section
variable {α:Type}
theorem Al(l:List α):lLen l=(l.length:Int):=by simp only[gh]
theorem K6(l:List α):lN l=l.length:=by simp only[UZ]
theorem AU(l:List α)(j:Nat)(d:α):lGet l j d=l.getD j d:=by simp only[YA]
theorem Hj(l:List α)(j:Nat)(x:α):lSet l j x=l.set j x:=by simp only[Yl]
theorem L5(l:List α)(a b:Nat):lSub l a b=(l.drop a).take (b-a):=by simp only[gr]
theorem WN(l:List α)(n:Nat):lTake l n=l.take n:=by simp only[Xx]
theorem D4(l m:List α):lApp l m=l++m:=by simp only[Ml]
theorem eY(n:Int)(x:α):lRep n x=List.replicate n.toNat x:=by simp only[gU]
theorem Ay(a:Int):iNat a=a.toNat:=by simp only[X7]
theorem ZaG(a b:Ij):sAdd a b=a++b:=by simp only[gY]
end
def Cv(n:Int):Prop:=-9223372036854775808<=n/\n<=9223372036854775807
theorem wrap_i64{n:Int}(h:Cv n):IntKind.i64.wrap n=n:=by
 obtain⟨h1,h2⟩:=h;show (if decide (n % 18446744073709551616>=9223372036854775808)=true then n % 18446744073709551616-18446744073709551616 else n % 18446744073709551616)=n;simp only[AB];split<;>omega
theorem CH{a b:Int}(h:Cv (a+b)):iAdd .i64 a b=a+b:=by rw[Yj];exact wrap_i64 h
theorem NR{a b:Int}(h:Cv (a-b)):iSub .i64 a b=a-b:=by rw[gx];exact wrap_i64 h
section
variable {X:Type} {c:X->Bool} {f:X->X} {p:X->Prop}
theorem LS(I:X->Prop)(m:X->Nat)(h:∀ x,I x->p x/\(c x=true->I (f x)/\m (f x)<m x)){x0:X}(h0:I x0) :
 LoopOk c f p x0/\I (Ap c f x0)/\c (Ap c f x0)=false:=by
 have go:∀ (n:Nat) (x:X),m x<n->I x->∃ y,LoopTo c f p x y/\I y/\c y=false:=by
  intro n
  induction n with
  |zero=>intro x hm;exact absurd hm (Mf _)
  | succ n ih=>
    intro x hm hI;obtain⟨h1,h2⟩:=h x hI
    cases hc:c x with
    |false=>exact⟨x,.stop h1 hc,hI,hc⟩
    | true=>
      obtain⟨h3,h4⟩:=h2 hc;obtain⟨y,h5,h6,h7⟩:=ih (f x) (by omega) h3;exact⟨y,.go h1 hc h5,h6,h7⟩
 obtain⟨y,h1,h2,h3⟩:=go _ x0 (Qq _) h0
 rw[h1.val]
 exact⟨⟨y,h1⟩,h2,h3⟩
theorem bD(I:X->Prop)(m:X->Nat)(h:∀ x,I x->c x=true->I (f x)/\m (f x)<m x){x0:X}(h0:I x0):I (Ap c f x0)/\c (Ap c f x0)=false:=
 (LS (p:=λ _=>True) I m (λ x hx=>⟨trivial,h x hx⟩) h0).2
theorem NK(n:Nat)(st:Nat->X){x0:X}(h0:st 0=x0)(hs:∀ k,k<n->p (st k)/\c (st k)=true/\f (st k)=st (k+1))(he:p (st n)/\c (st n)=false):LoopOk c f p x0/\Ap c f x0=st n:=by
 have go:∀ k,k<=n->LoopTo c f p (st (n-k)) (st n):=by
  intro k
  induction k with
  |zero=>intro _;exact .stop he.1 he.2
  | succ k ih=>
    intro hk;obtain⟨h1,h2,h3⟩:=hs (n-(k+1)) (by omega);refine .go h1 h2 ?_;rw[h3,show n-(k+1)+1=n-k by omega];exact ih (by omega)
 have:=go n (Bt _);rw[UE,h0] at this;exact⟨⟨_,this⟩,this.val⟩
end
def CI(t:Nat->Bool):Nat->Nat->Nat
 |0,i=>i
 |k+1,i=>if t i then i else CI t k (i+1)
theorem Kx(t:Nat->Bool):∀ k i,i<=CI t k i/\CI t k i<=i+k
 |0,i=>⟨Bt _,Bt _⟩
 | k+1,i=>by
   unfold CI
   split
   . omega
   . have:=Kx t k (i+1);omega
theorem NA(t:Nat->Bool):∀ k i,CI t k i<i+k->t (CI t k i)=true
 |0,i,h=>by unfold CI at h;omega
 | k + 1,i,h=>by
   unfold CI at h ⊢
   split
   . rename_i ht;exact ht
   . rename_i ht
     rw[Af ht] at h
     exact NA t k (i+1) (by omega)
theorem S9(t:Nat->Bool):∀ k i j,i<=j->j<CI t k i->t j=false
 |0,i,j,h,h'=>by unfold CI at h';omega
 | k + 1,i,j,h,h'=>by
   unfold CI at h'
   split at h'
   . omega
   . rename_i ht
     by_cases hj:j=i
     . subst hj;simpa using ht
     . exact S9 t k (i+1) j (by omega) h'
theorem cV{c:Int->Bool}{f:Int->Int}{p:Int->Prop}(n:Nat)(t:Nat->Bool)(hn:(n:Int)<=9223372036854775806)(hc:∀ i:Nat,i<=n->c i=(decide (i<n)&&!t i))(hf:∀ i:Nat,i<n->f i=iAdd .i64 i 1)(hp:∀ i:Nat,i<=n->p i) :
 LoopOk c f p 0/\Ap c f 0=(CI t n 0:Nat):=by
 have hle:=Kx t n 0
 refine NK (CI t n 0) (λ k=>(k:Int)) rfl (λ k hk=>?_) ⟨hp _ (by omega),?_⟩
 . have hk':k<n:=by omega
   refine⟨hp k (by omega),?_,?_⟩
   . rw[hc k (by omega),S9 t n 0 k (by omega) hk];simp[hk']
   . rw[hf k hk',CH (by unfold Cv;omega)];omega
 . rw[hc _ (by omega)]
   by_cases h:CI t n 0<n
   . rw[NA t n 0 (by omega)];simp
   . simp[h]
theorem Py{t:Nat->Bool}{n:Nat}:CI t n 0=n↔∀ i,i<n->t i=false:=by
 constructor
 . intro h i hi;exact S9 t n 0 i (by omega) (by omega)
 . intro h;have hle:=Kx t n 0;rcases Br (CI t n 0) n with h1|h1
   . have:=NA t n 0 (by omega);rw[h _ h1] at this;cases this
   . omega
section
variable {α:Type}
theorem zu(x:List α)(k:Nat)(hk:k<x.length)(d:α)(l:List α)(hl:l.length=x.length)(h:l.take k=x.take k):(l.set k (x.getD k d)).take (k+1)=x.take (k+1):=by
 rw[Ur,Ur,List.take_set]
 have:(l.take k).set k (x.getD k d)=l.take k:=by
  apply List.set_eq_of_length_le;rw[CJ];exact Nat.min_le_left _ _
 rw[this,h];congr 1;rw[Yc (by omega),CQ,A3 hk];simp
end
theorem fu{α:Type}{c:Int->Bool}{f:Int->Int}{p:Int->Prop}(a b:List α)(d:α)(ne:Nat->Bool)(hl:a.length=b.length)(hne:∀ i,i<a.length->(ne i=false↔a.getD i d=b.getD i d))(hn:(a.length:Int)<=9223372036854775806)(hc:∀ i:Nat,i<=a.length->c i=(decide (i<a.length)&&!ne i))(hf:∀ i:Nat,i<a.length->f i=iAdd .i64 i 1)(hp:∀ i:Nat,i<=a.length->p i) :
 LoopOk c f p 0/\(Ap c f 0<(a.length:Int)↔a≠b):=by
 obtain⟨h1,h2⟩:=cV a.length ne hn hc hf hp
 refine⟨h1,?_⟩
 rw[h2]
 have hle:=Kx ne a.length 0
 constructor
 . intro h hab
   subst hab;have:=NA ne a.length 0 (by omega);rw[(hne _ (by omega)).2 rfl] at this;cases this
 . intro h
   rcases Br (CI ne a.length 0) a.length with h3|h3
   . omega
   . exfalso;apply h
     have h4:CI ne a.length 0=a.length:=by omega
     rw[Py] at h4
     refine Yp hl λ i hi hi'=>?_
     have:=(hne i hi).1 (h4 i hi);rw[CQ,CQ,A3 hi,A3 hi'] at this;simpa using this
theorem Yt{c:Int->Bool}{f:Int->Int}(n:Nat)(t:Nat->Bool)(hn:(n:Int)<=9223372036854775806)(hc:∀ i:Nat,i<=n->c i=(decide (i<n)&&!t i))(hf:∀ i:Nat,i<n->f i=iAdd .i64 i 1):Ap c f 0=(CI t n 0:Nat):=(cV (p:=λ _=>True) n t hn hc hf (λ _ _=>trivial)).2
theorem MA{α:Type}{c:Int->Bool}{f:Int->Int}{p:Int->Prop}(a b:List α)(d:α)(ne:Nat->Bool)(hl:a.length=b.length)(hne:∀ i,i<a.length->(ne i=false↔a.getD i d=b.getD i d))(hn:(a.length:Int)<=9223372036854775806)(hc:∀ i:Nat,i<=a.length->c i=(decide (i<a.length)&&!ne i))(hf:∀ i:Nat,i<a.length->f i=iAdd .i64 i 1)(hp:∀ i:Nat,i<=a.length->p i):LoopOk c f p 0:=(fu a b d ne hl hne hn hc hf hp).1
theorem MH{α:Type}{c:Int->Bool}{f:Int->Int}(a b:List α)(d:α)(ne:Nat->Bool)(hl:a.length=b.length)(hne:∀ i,i<a.length->(ne i=false↔a.getD i d=b.getD i d))(hn:(a.length:Int)<=9223372036854775806)(hc:∀ i:Nat,i<=a.length->c i=(decide (i<a.length)&&!ne i))(hf:∀ i:Nat,i<a.length->f i=iAdd .i64 i 1):Ap c f 0<(a.length:Int)↔a≠b:=(fu (p:=λ _=>True) a b d ne hl hne hn hc hf (λ _ _=>trivial)).2
theorem bL {α:Type} {c:List α×Int->Bool} {f:List α×Int->List α×Int} {p:List α×Int->Prop} (x:List α) (z d:α) (hn:x.length<=1048576)
 (hc:∀ st,c st=iLt st.2 (lLen x)) (hf:∀ (l:List α) (i:Nat),i<x.length->f (l,(i:Int))=(l.set i (x.getD i d),iAdd .i64 i 1))
 (hp:∀ (l:List α) (i:Nat),l.length=x.length->i<=x.length->p (l,i)) :
 LoopOk c f p (lRep (lLen x) z,0)/\(Ap c f (lRep (lLen x) z,0)).1=x:=by
 have h:=LS (c:=c) (f:=f) (p:=p) (λ st=>st.1.length=x.length/\∃ i:Nat,st.2=i/\i<=x.length/\st.1.take i=x.take i) (λ st=>x.length-st.2.toNat) (λ st hI=>?_) (x0:=(lRep (lLen x) z,0)) ⟨by simp[eY,Al],0,rfl,FW _,by simp⟩
 . obtain⟨h1,⟨h2,i,h3,h4,h5⟩,h6⟩:=h
   refine⟨h1,?_⟩;rw[hc,h3,As,Al,B7] at h6
   have:i=x.length:=by omega
   subst this;rw[H4,<- h2,H4] at h5;exact h5
 . obtain⟨l,j⟩:=st
   obtain⟨h2,i,h3,h4,h5⟩:=hI;simp only at h2 h3 h5;subst h3;refine⟨hp l i h2 h4,λ hcc=>?_⟩;rw[hc,As,Al,AB] at hcc;simp only at hcc
   have hi:i<x.length:=by omega
   rw[hf l i hi];simp only[AQ];rw[CH (by unfold Cv;omega)];refine⟨⟨by simp[h2],i+1,by omega,by omega,zu x i hi d l h2 h5⟩,by omega⟩
theorem P3 {α:Type} {c:List α×Int->Bool} {f:List α×Int->List α×Int} {p:List α×Int->Prop} (x:List α) (z d:α) (hn:x.length<=1048576)
 (hc:∀ st,c st=iLt st.2 (lLen x)) (hf:∀ (l:List α) (i:Nat),i<x.length->f (l,(i:Int))=(l.set i (x.getD i d),iAdd .i64 i 1))
 (hp:∀ (l:List α) (i:Nat),l.length=x.length->i<=x.length->p (l,i)):LoopOk c f p (lRep (lLen x) z,0):=(bL x z d hn hc hf hp).1
theorem Qf {α:Type} {c:List α×Int->Bool} {f:List α×Int->List α×Int} (x:List α) (z d:α) (hn:x.length<=1048576)
 (hc:∀ st,c st=iLt st.2 (lLen x)) (hf:∀ (l:List α) (i:Nat),i<x.length->f (l,(i:Int))=(l.set i (x.getD i d),iAdd .i64 i 1)):(Ap c f (lRep (lLen x) z,0)).1=x:=(bL (p:=λ _=>True) x z d hn hc hf (λ _ _ _ _=>trivial)).2
theorem Ce{α:Type}(x:List α)(i:Nat)(d:α)(h:i<x.length):x.getD i d∈x:=by
 rw[CQ,A3 h];exact Eh h
theorem PR{n:Int}{w:Nat}(h0:0<=n)(h:n<=1048576)(hw:w<=1000):AK (n.toNat*w):=by
 show n.toNat*w<=2^40
 have h1:n.toNat<=1048576:=by omega
 have:=Nat.mul_le_mul h1 hw;omega
theorem eZ {α:Type} {c:Int×Int->Bool} {f:Int×Int->Int×Int} {p:Int×Int->Prop} (x:List α) (d:α) (S:α->Prop) (g:α->Int->Int) (l0:Int) (h0:0<=l0) (h1:l0<=1048576) (hn:x.length<=1048576)
 (hg:∀ i,i<x.length->∀ l,0<=l->l<=1048576->g (x.getD i d) l<0\/(0<=g (x.getD i d) l/\g (x.getD i d) l<=l/\S (x.getD i d)))
 (hc:∀ (l:Int) (i:Nat),i<=x.length->c (l,(i:Int))=(decide (i<x.length)&&!decide (g (x.getD i d) l<0))) (hf:∀ (l:Int) (i:Nat),i<x.length->f (l,(i:Int))=(g (x.getD i d) l,iAdd .i64 i 1))
 (hp:∀ (l:Int) (i:Nat),0<=l->l<=1048576->i<=x.length->p (l,i)) :
 LoopOk c f p (l0,0)/\((Ap c f (l0,0)).2<(x.length:Int)\/(¬ (Ap c f (l0,0)).2<(x.length:Int)/\0<=(Ap c f (l0,0)).1/\(Ap c f (l0,0)).1<=l0/\∀ a∈x,S a)):=by
 have h:=LS (c:=c) (f:=f) (p:=p) (λ st=>0<=st.1/\st.1<=l0/\∃ i:Nat,st.2=i/\i<=x.length/\∀ j,j<i->S (x.getD j d)) (λ st=>x.length-st.2.toNat) (λ st hI=>?_) (x0:=(l0,0)) ⟨h0,Int.le_refl _,0,rfl,FW _,λ j hj=>by omega⟩
 . obtain⟨k1,⟨k2,k3,i,k4,k5,k6⟩,k7⟩:=h
   refine⟨k1,?_⟩;rw[k4];rcases Br i x.length with hi|hi
   . left;omega
   . right;refine⟨by omega,k2,k3,λ a ha=>?_⟩;obtain⟨j,hj,rfl⟩:=H5 ha;have:=k6 j (by omega);rw[CQ,A3 hj] at this;exact this
 . obtain⟨l,j⟩:=st
   obtain⟨k1,k2,i,k3,k4,k5⟩:=hI;simp only at k1 k2 k3;subst k3;refine⟨hp l i k1 (by omega) k4,λ hcc=>?_⟩;rw[hc l i k4] at hcc;simp only[Ai,AB,BJ,B7] at hcc;obtain⟨hi,hcc⟩:=hcc;have hgi:=(hg i hi l k1 (by omega)).resolve_left hcc;rw[hf l i hi];simp only[AQ];rw[CH (by unfold Cv;omega)];refine⟨⟨hgi.1,by omega,i+1,by omega,by omega,λ j hj=>?_⟩,by omega⟩;by_cases hji:j=i
   . subst hji;exact hgi.2.2
   . exact k5 j (by omega)
theorem ic {α:Type} {c:Int×Int->Bool} {f:Int×Int->Int×Int} {p:Int×Int->Prop} (x:List α) (d:α) (S:α->Prop) (g:α->Int->Int) (l0:Int) (h0:0<=l0) (h1:l0<=1048576) (hn:x.length<=1048576)
 (hg:∀ i,i<x.length->∀ l,0<=l->l<=1048576->g (x.getD i d) l<0\/(0<=g (x.getD i d) l/\g (x.getD i d) l<=l/\S (x.getD i d)))
 (hc:∀ (l:Int) (i:Nat),i<=x.length->c (l,(i:Int))=(decide (i<x.length)&&!decide (g (x.getD i d) l<0))) (hf:∀ (l:Int) (i:Nat),i<x.length->f (l,(i:Int))=(g (x.getD i d) l,iAdd .i64 i 1))
 (hp:∀ (l:Int) (i:Nat),0<=l->l<=1048576->i<=x.length->p (l,i)):LoopOk c f p (l0,0):=(eZ x d S g l0 h0 h1 hn hg hc hf hp).1
theorem iY {α:Type} {c:Int×Int->Bool} {f:Int×Int->Int×Int} (x:List α) (d:α) (S:α->Prop) (g:α->Int->Int) (l0:Int) (h0:0<=l0) (h1:l0<=1048576) (hn:x.length<=1048576)
 (hg:∀ i,i<x.length->∀ l,0<=l->l<=1048576->g (x.getD i d) l<0\/(0<=g (x.getD i d) l/\g (x.getD i d) l<=l/\S (x.getD i d)))
 (hc:∀ (l:Int) (i:Nat),i<=x.length->c (l,(i:Int))=(decide (i<x.length)&&!decide (g (x.getD i d) l<0))) (hf:∀ (l:Int) (i:Nat),i<x.length->f (l,(i:Int))=(g (x.getD i d) l,iAdd .i64 i 1)) :
 (Ap c f (l0,0)).2<(x.length:Int)\/(¬ (Ap c f (l0,0)).2<(x.length:Int)/\0<=(Ap c f (l0,0)).1/\(Ap c f (l0,0)).1<=l0/\∀ a∈x,S a):=(eZ (p:=λ _=>True) x d S g l0 h0 h1 hn hg hc hf (λ _ _ _ _ _=>trivial)).2
theorem gD{α:Type}{x:List α}{y:Int×Int}{l0 l:Int}{S:α->Prop}(h:l0<=l)(hv:y.2<(x.length:Int)\/(¬ y.2<(x.length:Int)/\0<=y.1/\y.1<=l0/\∀ a∈x,S a)) :
 bSel (iLt y.2 (lLen x)) (-1) y.1<0\/(0<=bSel (iLt y.2 (lLen x)) (-1) y.1/\bSel (iLt y.2 (lLen x)) (-1) y.1<=l/\∀ a∈x,S a):=by
 rw[As,Al]
 rcases hv with hv|⟨hv,h2,h3,h4⟩
 . rw[HU hv,Eg];left;omega
 . rw[Gs hv,EE];right;exact⟨h2,by omega,h4⟩
theorem K0{X:Type}{c:X->Bool}{f:X->X}{p:X->Prop}(ix:X->Int)(n:Int)(hn:n<=9223372036854775806)(hc:∀ x,0<=ix x->ix x<=n->c x=true->ix x<n)(hf:∀ x,ix (f x)=iAdd .i64 (ix x) 1)(hp:∀ x,0<=ix x->ix x<=n->p x){x0:X}(h0:0<=ix x0)(h1:ix x0<=n):LoopOk c f p x0:=by
 refine(LS (λ x=>0<=ix x/\ix x<=n) (λ x=>(n-ix x).toNat) (λ x hI=>⟨hp x hI.1 hI.2,λ hcc=>?_⟩) ⟨h0,h1⟩).1;have:=hc x hI.1 hI.2 hcc;obtain⟨k1,k2⟩:=hI;have e:=hf x;rw[CH (by unfold Cv;omega)] at e;refine⟨by omega,by omega⟩
theorem dY{c:Int->Bool}{f:Int->Int}{n:Nat}(h:¬ Ap c f 0<(n:Int))(hn:(n:Int)<=9223372036854775806)(hc:∀ i:Nat,i<=n->c i=true->i<n)(hf:∀ i:Nat,i<n->f i=iAdd .i64 i 1):∀ i:Nat,i<n->c i=true:=by
 have hv:=Yt (c:=c) (f:=f) n (λ i=>!c i) hn (λ i hi=>by
  by_cases h1:i<n
  . simp[h1]
  . cases h2:c i with
    |false=>simp[h1]
    |true=>exact absurd (hc i hi h2) h1) hf
 rw[hv] at h;have hle:=Kx (λ i=>!c i) n 0
 have e:CI (λ i=>!c i) n 0=n:=by omega
 intro i hi;have:=Py.1 e i hi;simpa using this
def NF(_:Int×Int×Int×Int):Prop:=True
def Tv(_:Int×Int×Int×Int):Prop:=True
theorem df(a b:Dv)(h:NF a):Nf (a,b)/\(HI (a,b)=true↔a=b):=by
 obtain⟨a0,a1,a2,a3⟩:=a;obtain⟨b0,b1,b2,b3⟩:=b;rw[ot,nX];refine⟨by simp,?_⟩;simp only[Ax,AD,Ez,BD,Ai,JV,AB,Ao,A6]
 try (constructor<;>intro h<;>simp_all)
def N4(x:C0):Prop:=NF (x.2.1,x.2.2.1,x.2.2.2.1,x.2.2.2.2)/\True
def fk(x:C0):Prop:=Tv (x.2.1,x.2.2.1,x.2.2.2.1,x.2.2.2.2)/\True
def JF(x:Be):Prop:=x.length<=1048576/\∀ a∈x,N4 a
def eG(x:Be):Prop:=x.length<=9223372036854775807/\∀ a∈x,fk a
theorem yK(x:Be)(hw:eG x)(l:Int)(h0:0<=l)(h1:l<=1048576):Sw (x,l)/\(Ko (x,l)<0\/(0<=Ko (x,l)/\Ko (x,l)<=l/\JF x)):=by
 rw[pH,p6];have hl:x.length<=9223372036854775807:=hw.1
 have hs:iSub .i64 l (lLen x)=l-x.length:=by rw[Al];exact NR (by unfold Cv;omega)
 refine⟨trivial,?_⟩;simp only[hs,As,Cn,AB];split
 . left;omega
 . right;exact⟨by omega,by omega,⟨by omega,λ a _=>by simp[N4,NF]⟩⟩
theorem db(x:Dv)(h:NF x):Nh x/\Eu x=x:=by
 rw[oe,oA];exact⟨trivial,rfl⟩
theorem Zay(x:C0)(h:N4 x):Pm x/\Fa x=x:=by
 rw[qE,sz];have k0:=db (x.2.1,x.2.2.1,x.2.2.2.1,x.2.2.2.2) (by unfold N4 at h;exact h.1);refine⟨k0.1,?_⟩;simp only[k0.2]
theorem zK(x:Be)(h:JF x):Sv x/\SN x=x:=by
 rw[p8,o7];obtain⟨h1,h2⟩:=h
 have hY:∀ i:Nat,i<x.length->Pm ((x.getD i (0,0,0,0,0)).1,(x.getD i (0,0,0,0,0)).2.1,(x.getD i (0,0,0,0,0)).2.2.1,(x.getD i (0,0,0,0,0)).2.2.2.1,(x.getD i (0,0,0,0,0)).2.2.2.2)/\Fa ((x.getD i (0,0,0,0,0)).1,(x.getD i (0,0,0,0,0)).2.1,(x.getD i (0,0,0,0,0)).2.2.1,(x.getD i (0,0,0,0,0)).2.2.2.1,(x.getD i (0,0,0,0,0)).2.2.2.2)=x.getD i (0,0,0,0,0):=λ i hi=>Zay _ (h2 _ (Ce x i (0,0,0,0,0) hi))
 refine⟨⟨⟨by rw[Al];omega,PR (by rw[Al];omega) (by rw[Al];omega) (by omega)⟩,P3 x (0,0,0,0,0) (0,0,0,0,0) h1 (λ _=>rfl) (λ l i hi=>by simp only[Hj,AU,Ay,AQ];rw[(hY i hi).2]) (λ l i hl hi=>?_)⟩,Qf x (0,0,0,0,0) (0,0,0,0,0) h1 (λ _=>rfl) (λ l i hi=>by simp only[Hj,AU,Ay,AQ];rw[(hY i hi).2])⟩;simp only[As,Al,Ay,AU,AB,AQ];exact⟨λ hh=>⟨by omega,by omega,(hY i (by omega)).1,by omega,by omega⟩,λ _=>trivial⟩
theorem ZaQ(a b:C0)(h:N4 a):Pg (a,b)/\(Jq (a,b)=true↔a=b):=by
 obtain⟨a0,a1,a2,a3,a4⟩:=a;obtain⟨b0,b1,b2,b3,b4⟩:=b;have k0:=df (a1,a2,a3,a4) (b1,b2,b3,b4) (by unfold N4 at h;exact h.1);rw[q9,qK];refine⟨by simp[k0.1,k0.2],?_⟩;simp only[k0.1,k0.2,Ax,AD,Ez,BD,Ai,JV,AB,Ao,A6]
 try (constructor<;>intro h<;>simp_all)
theorem zO(a b:Be)(h:JF a):Sr (a,b)/\(SJ (a,b)=true↔a=b):=by
 rw[o8,pB];obtain⟨h1,h2⟩:=h
 have hY:∀ i:Nat,i<a.length->Pg (((lGet a i (0,0,0,0,0)).1,(lGet a i (0,0,0,0,0)).2.1,(lGet a i (0,0,0,0,0)).2.2.1,(lGet a i (0,0,0,0,0)).2.2.2.1,(lGet a i (0,0,0,0,0)).2.2.2.2),((lGet b i (0,0,0,0,0)).1,(lGet b i (0,0,0,0,0)).2.1,(lGet b i (0,0,0,0,0)).2.2.1,(lGet b i (0,0,0,0,0)).2.2.2.1,(lGet b i (0,0,0,0,0)).2.2.2.2))/\(Jq (((lGet a i (0,0,0,0,0)).1,(lGet a i (0,0,0,0,0)).2.1,(lGet a i (0,0,0,0,0)).2.2.1,(lGet a i (0,0,0,0,0)).2.2.2.1,(lGet a i (0,0,0,0,0)).2.2.2.2),((lGet b i (0,0,0,0,0)).1,(lGet b i (0,0,0,0,0)).2.1,(lGet b i (0,0,0,0,0)).2.2.1,(lGet b i (0,0,0,0,0)).2.2.2.1,(lGet b i (0,0,0,0,0)).2.2.2.2))=true↔a.getD i (0,0,0,0,0)=b.getD i (0,0,0,0,0)):=λ i hi=>by
  have:=ZaQ (a.getD i (0,0,0,0,0)) (b.getD i (0,0,0,0,0)) (h2 _ (Ce a i (0,0,0,0,0) hi));rw[AU,AU];exact this
 by_cases hl:a.length=b.length
 . refine⟨⟨λ _=>trivial,λ _=>MA a b (0,0,0,0,0) (λ i=>bNot (Jq (((lGet a i (0,0,0,0,0)).1,(lGet a i (0,0,0,0,0)).2.1,(lGet a i (0,0,0,0,0)).2.2.1,(lGet a i (0,0,0,0,0)).2.2.2.1,(lGet a i (0,0,0,0,0)).2.2.2.2),((lGet b i (0,0,0,0,0)).1,(lGet b i (0,0,0,0,0)).2.1,(lGet b i (0,0,0,0,0)).2.2.1,(lGet b i (0,0,0,0,0)).2.2.2.1,(lGet b i (0,0,0,0,0)).2.2.2.2)))) hl (λ i hi=>by simp only[Ax,Cf,(hY i hi).2]) (by omega) (λ i hi=>by simp only[AD,As,Al,Ay,Ax,AQ,Dd]) (λ i hi=>rfl) (λ i hi=>?_)⟩,?_⟩
   . simp only[As,Al,Ay,AB,AQ];exact⟨λ hh=>⟨by omega,by omega,by omega,by omega,(hY i (by omega)).1⟩,λ _=>trivial⟩
   . have hv:=MH (c:=λ i:Int=>bAnd (iLt i (lLen a)) (bNot ((λ i=>bNot (Jq (((lGet a i (0,0,0,0,0)).1,(lGet a i (0,0,0,0,0)).2.1,(lGet a i (0,0,0,0,0)).2.2.1,(lGet a i (0,0,0,0,0)).2.2.2.1,(lGet a i (0,0,0,0,0)).2.2.2.2),((lGet b i (0,0,0,0,0)).1,(lGet b i (0,0,0,0,0)).2.1,(lGet b i (0,0,0,0,0)).2.2.1,(lGet b i (0,0,0,0,0)).2.2.2.1,(lGet b i (0,0,0,0,0)).2.2.2.2)))) i.toNat))) (f:=λ i=>iAdd .i64 i 1) a b (0,0,0,0,0) (λ i=>bNot (Jq (((lGet a i (0,0,0,0,0)).1,(lGet a i (0,0,0,0,0)).2.1,(lGet a i (0,0,0,0,0)).2.2.1,(lGet a i (0,0,0,0,0)).2.2.2.1,(lGet a i (0,0,0,0,0)).2.2.2.2),((lGet b i (0,0,0,0,0)).1,(lGet b i (0,0,0,0,0)).2.1,(lGet b i (0,0,0,0,0)).2.2.1,(lGet b i (0,0,0,0,0)).2.2.2.1,(lGet b i (0,0,0,0,0)).2.2.2.2)))) hl (λ i hi=>by simp only[Ax,Cf,(hY i hi).2]) (by omega) (λ i hi=>by simp only[AD,As,Al,Ax,AQ,Dd]) (λ i hi=>rfl)
     have e1:bNot (iNe (lLen a) (lLen b))=true:=by rw[Ax,BD,Al,Al,hl];simp
     rw[e1,AD true,JO,Ax (iLt _ (lLen a)),As _ (lLen a)];simp only[<- Ay,Al] at hv ⊢;simp only[BJ,B7];rw[hv];simp
 . have e1:bNot (iNe (lLen a) (lLen b))=false:=by rw[Ax,BD,Al,Al];simp;omega
   refine⟨⟨λ _=>trivial,λ h=>?_⟩,?_⟩
   . rw[Ax] at e1;rw[h] at e1;cases e1
   . rw[e1,AD,J5];constructor
     . intro h;cases h
     . intro e;subst e;exact absurd rfl hl
def Kw(x:Dh):Prop:=x.length<=1048576/\∀ a∈x,NF a
def bT(x:Dh):Prop:=x.length<=9223372036854775807/\∀ a∈x,Tv a
theorem vf(x:Dh)(hw:bT x)(l:Int)(h0:0<=l)(h1:l<=1048576):OX (x,l)/\(D1 (x,l)<0\/(0<=D1 (x,l)/\D1 (x,l)<=l/\Kw x)):=by
 rw[mb,me];have hl:x.length<=9223372036854775807:=hw.1
 have hs:iSub .i64 l (lLen x)=l-x.length:=by rw[Al];exact NR (by unfold Cv;omega)
 refine⟨trivial,?_⟩;simp only[hs,As,Cn,AB];split
 . left;omega
 . right;exact⟨by omega,by omega,⟨by omega,λ a _=>by simp[NF]⟩⟩
def Kt(x:Ct):Prop:=x.length<=1048576/\∀ a∈x,Kw a
def bt(x:Ct):Prop:=x.length<=9223372036854775807/\∀ a∈x,bT a
theorem uH(x:Ct)(hw:bt x)(l:Int)(h0:0<=l)(h1:l<=1048576):Ry (x,l)/\(Kk (x,l)<0\/(0<=Kk (x,l)/\Kk (x,l)<=l/\Kt x)):=by
 rw[kD,j5];obtain⟨hl,hw2⟩:=hw
 have hs:iSub .i64 l (lLen x)=l-x.length:=by rw[Al];exact NR (by unfold Cv;omega)
 simp only[hs];by_cases hneg:l-(x.length:Int)<0
 . have hb:iLt (l-(x.length:Int)) 0=true:=by rw[As];simpa using hneg
   rw[hb];exact⟨⟨λ _=>trivial,λ h=>(by cases h)⟩,by rw[Eg];left;omega⟩
 . have hb:iLt (l-(x.length:Int)) 0=false:=by rw[As];simpa using hneg
   rw[hb]
   have hg:∀ i:Nat,i<x.length->∀ m:Int,0<=m->m<=1048576->OX (x.getD i [],m)/\(D1 (x.getD i [],m)<0\/(0<=D1 (x.getD i [],m)/\D1 (x.getD i [],m)<=m/\Kw (x.getD i []))):=λ i hi m g0 g1=>vf _ (hw2 _ (Ce x i [] hi)) m g0 g1
   refine⟨⟨λ h=>(by cases h),λ _=>ic x [] Kw (λ a m=>D1 (a,m)) (l-(x.length:Int)) (by omega) (by omega) (by omega) (λ i hi m g0 g1=>(hg i hi m g0 g1).2) (λ m i hi=>by simp only[AD,As,Al,Ay,AU,Ax,AQ,Dd]) (λ m i hi=>by simp only[Ay,AU,AQ]) (λ m i g0 g1 hi=>?_)⟩,?_⟩
   . simp only[As,Al,Ay,AU,AB,AQ];exact⟨λ hh=>⟨by omega,by omega,(hg i (by omega) m g0 g1).1⟩,λ _=>trivial⟩
   . rw[EE];have hv:=iY (c:=λ st:Int×Int=>bAnd (iLt st.2 (lLen x)) (bNot (iLt (D1 ((lGet x (iNat st.2) []),st.1)) 0))) (f:=λ st=>(D1 ((lGet x (iNat st.2) []),st.1),iAdd .i64 st.2 1)) x [] Kw (λ a m=>D1 (a,m)) (l-(x.length:Int)) (by omega) (by omega) (by omega) (λ i hi m g0 g1=>(hg i hi m g0 g1).2) (λ m i hi=>by simp only[AD,As,Al,Ay,AU,Ax,AQ,Dd]) (λ m i hi=>by simp only[Ay,AU,AQ]);rcases gD (l:=l) (by omega) hv with h|⟨h2,h3,h4⟩
     . exact .inl h
     . exact .inr ⟨h2,h3,(by omega),h4⟩
def Fc(x:BH):Prop:=Kt x.2/\True
def Tw(x:BH):Prop:=bt x.2/\True
theorem xO(x:BH)(hw:Tw x)(l:Int)(h0:0<=l)(h1:l<=1048576):Sa (x,l)/\(Ev (x,l)<0\/(0<=Ev (x,l)/\Ev (x,l)<=l/\Fc x)):=by
 rw[mM,oh];have hx:=hw;unfold Tw at hw;obtain⟨k0,g0⟩:=uH x.2 hw.1 l (by omega) (by omega);generalize hz0:Kk (x.2,l)=z0 at g0 ⊢;rcases g0 with g0|⟨g0,g0',g0''⟩
 . have hb:iLt z0 0=true:=by rw[As];simpa using g0
   refine⟨?_,?_⟩
   . simp[k0,hb]
   . simp only[hb,Eg];left;omega
 have hb0:iLt z0 0=false:=by rw[As];simpa using g0
 simp only[hb0,EE];exact⟨by simp[k0],.inr ⟨by omega,by omega,g0'',trivial⟩⟩
theorem vN(x:Dh)(h:Kw x):OV x/\Nc x=x:=by
 rw[lP,lA];obtain⟨h1,h2⟩:=h
 have hY:∀ i:Nat,i<x.length->Nh ((x.getD i (0,0,0,0)).1,(x.getD i (0,0,0,0)).2.1,(x.getD i (0,0,0,0)).2.2.1,(x.getD i (0,0,0,0)).2.2.2)/\Eu ((x.getD i (0,0,0,0)).1,(x.getD i (0,0,0,0)).2.1,(x.getD i (0,0,0,0)).2.2.1,(x.getD i (0,0,0,0)).2.2.2)=x.getD i (0,0,0,0):=λ i hi=>db _ (h2 _ (Ce x i (0,0,0,0) hi))
 refine⟨⟨⟨by rw[Al];omega,PR (by rw[Al];omega) (by rw[Al];omega) (by omega)⟩,P3 x (0,0,0,0) (0,0,0,0) h1 (λ _=>rfl) (λ l i hi=>by simp only[Hj,AU,Ay,AQ];rw[(hY i hi).2]) (λ l i hl hi=>?_)⟩,Qf x (0,0,0,0) (0,0,0,0) h1 (λ _=>rfl) (λ l i hi=>by simp only[Hj,AU,Ay,AQ];rw[(hY i hi).2])⟩;simp only[As,Al,Ay,AU,AB,AQ];exact⟨λ hh=>⟨by omega,by omega,(hY i (by omega)).1,by omega,by omega⟩,λ _=>trivial⟩
theorem uf(x:Ct)(h:Kt x):RE x/\RJ x=x:=by
 rw[kc,jX];obtain⟨h1,h2⟩:=h
 have hY:∀ i:Nat,i<x.length->OV (x.getD i [])/\Nc (x.getD i [])=x.getD i []:=λ i hi=>vN _ (h2 _ (Ce x i [] hi))
 refine⟨⟨⟨by rw[Al];omega,PR (by rw[Al];omega) (by rw[Al];omega) (by omega)⟩,P3 x [] [] h1 (λ _=>rfl) (λ l i hi=>by simp only[Hj,AU,Ay,AQ];rw[(hY i hi).2]) (λ l i hl hi=>?_)⟩,Qf x [] [] h1 (λ _=>rfl) (λ l i hi=>by simp only[Hj,AU,Ay,AQ];rw[(hY i hi).2])⟩;simp only[As,Al,Ay,AU,AB,AQ];exact⟨λ hh=>⟨by omega,by omega,(hY i (by omega)).1,by omega,by omega⟩,λ _=>trivial⟩
theorem yr(x:BH)(h:Fc x):Sf x/\O9 x=x:=by
 rw[oK,nY];have k0:=uf x.2 (by unfold Fc at h;exact h.1);refine⟨k0.1,?_⟩;simp only[k0.2]
theorem u7(a b:Dh)(h:Kw a):OW (a,b)/\(IK (a,b)=true↔a=b):=by
 rw[lH,kY];obtain⟨h1,h2⟩:=h
 have hY:∀ i:Nat,i<a.length->Nf (((lGet a i (0,0,0,0)).1,(lGet a i (0,0,0,0)).2.1,(lGet a i (0,0,0,0)).2.2.1,(lGet a i (0,0,0,0)).2.2.2),((lGet b i (0,0,0,0)).1,(lGet b i (0,0,0,0)).2.1,(lGet b i (0,0,0,0)).2.2.1,(lGet b i (0,0,0,0)).2.2.2))/\(HI (((lGet a i (0,0,0,0)).1,(lGet a i (0,0,0,0)).2.1,(lGet a i (0,0,0,0)).2.2.1,(lGet a i (0,0,0,0)).2.2.2),((lGet b i (0,0,0,0)).1,(lGet b i (0,0,0,0)).2.1,(lGet b i (0,0,0,0)).2.2.1,(lGet b i (0,0,0,0)).2.2.2))=true↔a.getD i (0,0,0,0)=b.getD i (0,0,0,0)):=λ i hi=>by
  have:=df (a.getD i (0,0,0,0)) (b.getD i (0,0,0,0)) (h2 _ (Ce a i (0,0,0,0) hi));rw[AU,AU];exact this
 by_cases hl:a.length=b.length
 . refine⟨⟨λ _=>trivial,λ _=>MA a b (0,0,0,0) (λ i=>bNot (HI (((lGet a i (0,0,0,0)).1,(lGet a i (0,0,0,0)).2.1,(lGet a i (0,0,0,0)).2.2.1,(lGet a i (0,0,0,0)).2.2.2),((lGet b i (0,0,0,0)).1,(lGet b i (0,0,0,0)).2.1,(lGet b i (0,0,0,0)).2.2.1,(lGet b i (0,0,0,0)).2.2.2)))) hl (λ i hi=>by simp only[Ax,Cf,(hY i hi).2]) (by omega) (λ i hi=>by simp only[AD,As,Al,Ay,Ax,AQ,Dd]) (λ i hi=>rfl) (λ i hi=>?_)⟩,?_⟩
   . simp only[As,Al,Ay,AB,AQ];exact⟨λ hh=>⟨by omega,by omega,by omega,by omega,(hY i (by omega)).1⟩,λ _=>trivial⟩
   . have hv:=MH (c:=λ i:Int=>bAnd (iLt i (lLen a)) (bNot ((λ i=>bNot (HI (((lGet a i (0,0,0,0)).1,(lGet a i (0,0,0,0)).2.1,(lGet a i (0,0,0,0)).2.2.1,(lGet a i (0,0,0,0)).2.2.2),((lGet b i (0,0,0,0)).1,(lGet b i (0,0,0,0)).2.1,(lGet b i (0,0,0,0)).2.2.1,(lGet b i (0,0,0,0)).2.2.2)))) i.toNat))) (f:=λ i=>iAdd .i64 i 1) a b (0,0,0,0) (λ i=>bNot (HI (((lGet a i (0,0,0,0)).1,(lGet a i (0,0,0,0)).2.1,(lGet a i (0,0,0,0)).2.2.1,(lGet a i (0,0,0,0)).2.2.2),((lGet b i (0,0,0,0)).1,(lGet b i (0,0,0,0)).2.1,(lGet b i (0,0,0,0)).2.2.1,(lGet b i (0,0,0,0)).2.2.2)))) hl (λ i hi=>by simp only[Ax,Cf,(hY i hi).2]) (by omega) (λ i hi=>by simp only[AD,As,Al,Ax,AQ,Dd]) (λ i hi=>rfl)
     have e1:bNot (iNe (lLen a) (lLen b))=true:=by rw[Ax,BD,Al,Al,hl];simp
     rw[e1,AD true,JO,Ax (iLt _ (lLen a)),As _ (lLen a)];simp only[<- Ay,Al] at hv ⊢;simp only[BJ,B7];rw[hv];simp
 . have e1:bNot (iNe (lLen a) (lLen b))=false:=by rw[Ax,BD,Al,Al];simp;omega
   refine⟨⟨λ _=>trivial,λ h=>?_⟩,?_⟩
   . rw[Ax] at e1;rw[h] at e1;cases e1
   . rw[e1,AD,J5];constructor
     . intro h;cases h
     . intro e;subst e;exact absurd rfl hl
theorem uW(a b:Ct)(h:Kt a):RF (a,b)/\(RI (a,b)=true↔a=b):=by
 rw[ke,jU];obtain⟨h1,h2⟩:=h
 have hY:∀ i:Nat,i<a.length->OW ((lGet a i []),(lGet b i []))/\(IK ((lGet a i []),(lGet b i []))=true↔a.getD i []=b.getD i []):=λ i hi=>by
  have:=u7 (a.getD i []) (b.getD i []) (h2 _ (Ce a i [] hi));rw[AU,AU];exact this
 by_cases hl:a.length=b.length
 . refine⟨⟨λ _=>trivial,λ _=>MA a b [] (λ i=>bNot (IK ((lGet a i []),(lGet b i [])))) hl (λ i hi=>by simp only[Ax,Cf,(hY i hi).2]) (by omega) (λ i hi=>by simp only[AD,As,Al,Ay,Ax,AQ,Dd]) (λ i hi=>rfl) (λ i hi=>?_)⟩,?_⟩
   . simp only[As,Al,Ay,AB,AQ];exact⟨λ hh=>⟨by omega,by omega,by omega,by omega,(hY i (by omega)).1⟩,λ _=>trivial⟩
   . have hv:=MH (c:=λ i:Int=>bAnd (iLt i (lLen a)) (bNot ((λ i=>bNot (IK ((lGet a i []),(lGet b i [])))) i.toNat))) (f:=λ i=>iAdd .i64 i 1) a b [] (λ i=>bNot (IK ((lGet a i []),(lGet b i [])))) hl (λ i hi=>by simp only[Ax,Cf,(hY i hi).2]) (by omega) (λ i hi=>by simp only[AD,As,Al,Ax,AQ,Dd]) (λ i hi=>rfl)
     have e1:bNot (iNe (lLen a) (lLen b))=true:=by rw[Ax,BD,Al,Al,hl];simp
     rw[e1,AD true,JO,Ax (iLt _ (lLen a)),As _ (lLen a)];simp only[<- Ay,Al] at hv ⊢;simp only[BJ,B7];rw[hv];simp
 . have e1:bNot (iNe (lLen a) (lLen b))=false:=by rw[Ax,BD,Al,Al];simp;omega
   refine⟨⟨λ _=>trivial,λ h=>?_⟩,?_⟩
   . rw[Ax] at e1;rw[h] at e1;cases e1
   . rw[e1,AD,J5];constructor
     . intro h;cases h
     . intro e;subst e;exact absurd rfl hl
theorem xc(a b:BH)(h:Fc a):RX (a,b)/\(Nn (a,b)=true↔a=b):=by
 obtain⟨a0,a1⟩:=a;obtain⟨b0,b1⟩:=b;have k0:=uW a1 b1 (by unfold Fc at h;exact h.1);rw[nL,mJ];refine⟨by simp[k0.1,k0.2],?_⟩;simp only[k0.1,k0.2,Ax,AD,Ez,BD,Ai,JV,AB,Ao,A6]
 try (constructor<;>intro h<;>simp_all)
def Ua(_:Int×Int×Int):Prop:=True
def fV(_:Int×Int×Int):Prop:=True
def KG(x:Cp):Prop:=x.length<=1048576/\∀ a∈x,Ua a
def dz(x:Cp):Prop:=x.length<=9223372036854775807/\∀ a∈x,fV a
theorem zS(x:Cp)(hw:dz x)(l:Int)(h0:0<=l)(h1:l<=1048576):Pa (x,l)/\(D2 (x,l)<0\/(0<=D2 (x,l)/\D2 (x,l)<=l/\KG x)):=by
 rw[oY,qx];have hl:x.length<=9223372036854775807:=hw.1
 have hs:iSub .i64 l (lLen x)=l-x.length:=by rw[Al];exact NR (by unfold Cv;omega)
 refine⟨trivial,?_⟩;simp only[hs,As,Cn,AB];split
 . left;omega
 . right;exact⟨by omega,by omega,⟨by omega,λ a _=>by simp[Ua]⟩⟩
def HP(x:Ch):Prop:=x.length<=1048576/\∀ a∈x,KG a
def WA(x:Ch):Prop:=x.length<=9223372036854775807/\∀ a∈x,dz a
theorem wX(x:Ch)(hw:WA x)(l:Int)(h0:0<=l)(h1:l<=1048576):Si (x,l)/\(Gh (x,l)<0\/(0<=Gh (x,l)/\Gh (x,l)<=l/\HP x)):=by
 rw[mL,nM];obtain⟨hl,hw2⟩:=hw
 have hs:iSub .i64 l (lLen x)=l-x.length:=by rw[Al];exact NR (by unfold Cv;omega)
 simp only[hs];by_cases hneg:l-(x.length:Int)<0
 . have hb:iLt (l-(x.length:Int)) 0=true:=by rw[As];simpa using hneg
   rw[hb];exact⟨⟨λ _=>trivial,λ h=>(by cases h)⟩,by rw[Eg];left;omega⟩
 . have hb:iLt (l-(x.length:Int)) 0=false:=by rw[As];simpa using hneg
   rw[hb]
   have hg:∀ i:Nat,i<x.length->∀ m:Int,0<=m->m<=1048576->Pa (x.getD i [],m)/\(D2 (x.getD i [],m)<0\/(0<=D2 (x.getD i [],m)/\D2 (x.getD i [],m)<=m/\KG (x.getD i []))):=λ i hi m g0 g1=>zS _ (hw2 _ (Ce x i [] hi)) m g0 g1
   refine⟨⟨λ h=>(by cases h),λ _=>ic x [] KG (λ a m=>D2 (a,m)) (l-(x.length:Int)) (by omega) (by omega) (by omega) (λ i hi m g0 g1=>(hg i hi m g0 g1).2) (λ m i hi=>by simp only[AD,As,Al,Ay,AU,Ax,AQ,Dd]) (λ m i hi=>by simp only[Ay,AU,AQ]) (λ m i g0 g1 hi=>?_)⟩,?_⟩
   . simp only[As,Al,Ay,AU,AB,AQ];exact⟨λ hh=>⟨by omega,by omega,(hg i (by omega) m g0 g1).1⟩,λ _=>trivial⟩
   . rw[EE];have hv:=iY (c:=λ st:Int×Int=>bAnd (iLt st.2 (lLen x)) (bNot (iLt (D2 ((lGet x (iNat st.2) []),st.1)) 0))) (f:=λ st=>(D2 ((lGet x (iNat st.2) []),st.1),iAdd .i64 st.2 1)) x [] KG (λ a m=>D2 (a,m)) (l-(x.length:Int)) (by omega) (by omega) (by omega) (λ i hi m g0 g1=>(hg i hi m g0 g1).2) (λ m i hi=>by simp only[AD,As,Al,Ay,AU,Ax,AQ,Dd]) (λ m i hi=>by simp only[Ay,AU,AQ]);rcases gD (l:=l) (by omega) hv with h|⟨h2,h3,h4⟩
     . exact .inl h
     . exact .inr ⟨h2,h3,(by omega),h4⟩
def DI(x:BM):Prop:=Fc (x.1,x.2.1)/\HP x.2.2.1/\JF x.2.2.2.2.1/\True
def Wq(x:BM):Prop:=Tw (x.1,x.2.1)/\WA x.2.2.1/\eG x.2.2.2.2.1/\True
theorem xu(x:BM)(hw:Wq x)(l:Int)(h0:0<=l)(h1:l<=1048576):RW (x,l)/\(HH (x,l)<0\/(0<=HH (x,l)/\HH (x,l)<=l/\DI x)):=by
 rw[n7,oJ];have hx:=hw;unfold Wq at hw;obtain⟨k0,g0⟩:=xO (x.1,x.2.1) hw.1 l (by omega) (by omega);generalize hz0:Ev ((x.1,x.2.1),l)=z0 at g0 ⊢;rcases g0 with g0|⟨g0,g0',g0''⟩
 . have hb:iLt z0 0=true:=by rw[As];simpa using g0
   refine⟨?_,?_⟩
   . simp[k0,hb]
   . simp only[hb,Eg];left;omega
 have hb0:iLt z0 0=false:=by rw[As];simpa using g0
 simp only[hb0,EE];obtain⟨k1,g1⟩:=wX x.2.2.1 hw.2.1 z0 (by omega) (by omega);generalize hz1:Gh (x.2.2.1,z0)=z1 at g1 ⊢;rcases g1 with g1|⟨g1,g1',g1''⟩
 . have hb:iLt z1 0=true:=by rw[As];simpa using g1
   refine⟨?_,?_⟩
   . simp[k0,k1,hb]
   . simp only[hb,Eg];left;omega
 have hb1:iLt z1 0=false:=by rw[As];simpa using g1
 simp only[hb1,EE];obtain⟨k2,g2⟩:=yK x.2.2.2.2.1 hw.2.2.1 z1 (by omega) (by omega);generalize hz2:Ko (x.2.2.2.2.1,z1)=z2 at g2 ⊢;rcases g2 with g2|⟨g2,g2',g2''⟩
 . have hb:iLt z2 0=true:=by rw[As];simpa using g2
   refine⟨?_,?_⟩
   . simp[k0,k1,k2,hb]
   . simp only[hb,Eg];left;omega
 have hb2:iLt z2 0=false:=by rw[As];simpa using g2
 simp only[hb2,EE];exact⟨by simp[k0,k1,k2],.inr ⟨by omega,by omega,g0'',g1'',g2'',trivial⟩⟩
theorem Za5(x:DX)(h:Ua x):Po x/\HJ x=x:=by
 rw[sB,rW];exact⟨trivial,rfl⟩
theorem zg(x:Cp)(h:KG x):Pd x/\Nr x=x:=by
 rw[o9,oZ];obtain⟨h1,h2⟩:=h
 have hY:∀ i:Nat,i<x.length->Po ((x.getD i (0,0,0)).1,(x.getD i (0,0,0)).2.1,(x.getD i (0,0,0)).2.2)/\HJ ((x.getD i (0,0,0)).1,(x.getD i (0,0,0)).2.1,(x.getD i (0,0,0)).2.2)=x.getD i (0,0,0):=λ i hi=>Za5 _ (h2 _ (Ce x i (0,0,0) hi))
 refine⟨⟨⟨by rw[Al];omega,PR (by rw[Al];omega) (by rw[Al];omega) (by omega)⟩,P3 x (0,0,0) (0,0,0) h1 (λ _=>rfl) (λ l i hi=>by simp only[Hj,AU,Ay,AQ];rw[(hY i hi).2]) (λ l i hl hi=>?_)⟩,Qf x (0,0,0) (0,0,0) h1 (λ _=>rfl) (λ l i hi=>by simp only[Hj,AU,Ay,AQ];rw[(hY i hi).2])⟩;simp only[As,Al,Ay,AU,AB,AQ];exact⟨λ hh=>⟨by omega,by omega,(hY i (by omega)).1,by omega,by omega⟩,λ _=>trivial⟩
theorem wR(x:Ch)(h:HP x):Sm x/\Su x=x:=by
 rw[nA,oR];obtain⟨h1,h2⟩:=h
 have hY:∀ i:Nat,i<x.length->Pd (x.getD i [])/\Nr (x.getD i [])=x.getD i []:=λ i hi=>zg _ (h2 _ (Ce x i [] hi))
 refine⟨⟨⟨by rw[Al];omega,PR (by rw[Al];omega) (by rw[Al];omega) (by omega)⟩,P3 x [] [] h1 (λ _=>rfl) (λ l i hi=>by simp only[Hj,AU,Ay,AQ];rw[(hY i hi).2]) (λ l i hl hi=>?_)⟩,Qf x [] [] h1 (λ _=>rfl) (λ l i hi=>by simp only[Hj,AU,Ay,AQ];rw[(hY i hi).2])⟩;simp only[As,Al,Ay,AU,AB,AQ];exact⟨λ hh=>⟨by omega,by omega,(hY i (by omega)).1,by omega,by omega⟩,λ _=>trivial⟩
theorem wQ(x:BM)(h:DI x):Lz x/\Ae x=x:=by
 rw[nG,nw];have k0:=yr (x.1,x.2.1) (by unfold DI at h;exact h.1);have k1:=wR x.2.2.1 (by unfold DI at h;exact h.2.1);have k2:=zK x.2.2.2.2.1 (by unfold DI at h;exact h.2.2.1);refine⟨⟨k0.1,k1.1,k2.1⟩,?_⟩;simp only[k0.2,k1.2,k2.2]
theorem Zai(a b:DX)(h:Ua a):Ph (a,b)/\(Ju (a,b)=true↔a=b):=by
 obtain⟨a0,a1,a2⟩:=a;obtain⟨b0,b1,b2⟩:=b;rw[ss,qN];refine⟨by simp,?_⟩;simp only[Ax,AD,Ez,BD,Ai,JV,AB,Ao,A6]
 try (constructor<;>intro h<;>simp_all)
theorem zU(a b:Cp)(h:KG a):Pb (a,b)/\(Jl (a,b)=true↔a=b):=by
 rw[pK,qw];obtain⟨h1,h2⟩:=h
 have hY:∀ i:Nat,i<a.length->Ph (((lGet a i (0,0,0)).1,(lGet a i (0,0,0)).2.1,(lGet a i (0,0,0)).2.2),((lGet b i (0,0,0)).1,(lGet b i (0,0,0)).2.1,(lGet b i (0,0,0)).2.2))/\(Ju (((lGet a i (0,0,0)).1,(lGet a i (0,0,0)).2.1,(lGet a i (0,0,0)).2.2),((lGet b i (0,0,0)).1,(lGet b i (0,0,0)).2.1,(lGet b i (0,0,0)).2.2))=true↔a.getD i (0,0,0)=b.getD i (0,0,0)):=λ i hi=>by
  have:=Zai (a.getD i (0,0,0)) (b.getD i (0,0,0)) (h2 _ (Ce a i (0,0,0) hi));rw[AU,AU];exact this
 by_cases hl:a.length=b.length
 . refine⟨⟨λ _=>trivial,λ _=>MA a b (0,0,0) (λ i=>bNot (Ju (((lGet a i (0,0,0)).1,(lGet a i (0,0,0)).2.1,(lGet a i (0,0,0)).2.2),((lGet b i (0,0,0)).1,(lGet b i (0,0,0)).2.1,(lGet b i (0,0,0)).2.2)))) hl (λ i hi=>by simp only[Ax,Cf,(hY i hi).2]) (by omega) (λ i hi=>by simp only[AD,As,Al,Ay,Ax,AQ,Dd]) (λ i hi=>rfl) (λ i hi=>?_)⟩,?_⟩
   . simp only[As,Al,Ay,AB,AQ];exact⟨λ hh=>⟨by omega,by omega,by omega,by omega,(hY i (by omega)).1⟩,λ _=>trivial⟩
   . have hv:=MH (c:=λ i:Int=>bAnd (iLt i (lLen a)) (bNot ((λ i=>bNot (Ju (((lGet a i (0,0,0)).1,(lGet a i (0,0,0)).2.1,(lGet a i (0,0,0)).2.2),((lGet b i (0,0,0)).1,(lGet b i (0,0,0)).2.1,(lGet b i (0,0,0)).2.2)))) i.toNat))) (f:=λ i=>iAdd .i64 i 1) a b (0,0,0) (λ i=>bNot (Ju (((lGet a i (0,0,0)).1,(lGet a i (0,0,0)).2.1,(lGet a i (0,0,0)).2.2),((lGet b i (0,0,0)).1,(lGet b i (0,0,0)).2.1,(lGet b i (0,0,0)).2.2)))) hl (λ i hi=>by simp only[Ax,Cf,(hY i hi).2]) (by omega) (λ i hi=>by simp only[AD,As,Al,Ax,AQ,Dd]) (λ i hi=>rfl)
     have e1:bNot (iNe (lLen a) (lLen b))=true:=by rw[Ax,BD,Al,Al,hl];simp
     rw[e1,AD true,JO,Ax (iLt _ (lLen a)),As _ (lLen a)];simp only[<- Ay,Al] at hv ⊢;simp only[BJ,B7];rw[hv];simp
 . have e1:bNot (iNe (lLen a) (lLen b))=false:=by rw[Ax,BD,Al,Al];simp;omega
   refine⟨⟨λ _=>trivial,λ h=>?_⟩,?_⟩
   . rw[Ax] at e1;rw[h] at e1;cases e1
   . rw[e1,AD,J5];constructor
     . intro h;cases h
     . intro e;subst e;exact absurd rfl hl
theorem ye(a b:Ch)(h:HP a):Sp (a,b)/\(Nq (a,b)=true↔a=b):=by
 rw[nJ,mz];obtain⟨h1,h2⟩:=h
 have hY:∀ i:Nat,i<a.length->Pb ((lGet a i []),(lGet b i []))/\(Jl ((lGet a i []),(lGet b i []))=true↔a.getD i []=b.getD i []):=λ i hi=>by
  have:=zU (a.getD i []) (b.getD i []) (h2 _ (Ce a i [] hi));rw[AU,AU];exact this
 by_cases hl:a.length=b.length
 . refine⟨⟨λ _=>trivial,λ _=>MA a b [] (λ i=>bNot (Jl ((lGet a i []),(lGet b i [])))) hl (λ i hi=>by simp only[Ax,Cf,(hY i hi).2]) (by omega) (λ i hi=>by simp only[AD,As,Al,Ay,Ax,AQ,Dd]) (λ i hi=>rfl) (λ i hi=>?_)⟩,?_⟩
   . simp only[As,Al,Ay,AB,AQ];exact⟨λ hh=>⟨by omega,by omega,by omega,by omega,(hY i (by omega)).1⟩,λ _=>trivial⟩
   . have hv:=MH (c:=λ i:Int=>bAnd (iLt i (lLen a)) (bNot ((λ i=>bNot (Jl ((lGet a i []),(lGet b i [])))) i.toNat))) (f:=λ i=>iAdd .i64 i 1) a b [] (λ i=>bNot (Jl ((lGet a i []),(lGet b i [])))) hl (λ i hi=>by simp only[Ax,Cf,(hY i hi).2]) (by omega) (λ i hi=>by simp only[AD,As,Al,Ax,AQ,Dd]) (λ i hi=>rfl)
     have e1:bNot (iNe (lLen a) (lLen b))=true:=by rw[Ax,BD,Al,Al,hl];simp
     rw[e1,AD true,JO,Ax (iLt _ (lLen a)),As _ (lLen a)];simp only[<- Ay,Al] at hv ⊢;simp only[BJ,B7];rw[hv];simp
 . have e1:bNot (iNe (lLen a) (lLen b))=false:=by rw[Ax,BD,Al,Al];simp;omega
   refine⟨⟨λ _=>trivial,λ h=>?_⟩,?_⟩
   . rw[Ax] at e1;rw[h] at e1;cases e1
   . rw[e1,AD,J5];constructor
     . intro h;cases h
     . intro e;subst e;exact absurd rfl hl
theorem cu(a b:BM)(h:DI a):Ly (a,b)/\(Dn (a,b)=true↔a=b):=by
 obtain⟨a0,a1,a2,a3,a4,a5,a6⟩:=a;obtain⟨b0,b1,b2,b3,b4,b5,b6⟩:=b;have k0:=xc (a0,a1) (b0,b1) (by unfold DI at h;exact h.1);have k1:=ye a2 b2 (by unfold DI at h;exact h.2.1);have k2:=zO a4 b4 (by unfold DI at h;exact h.2.2.1);rw[mD,nR];refine⟨by simp[k0.1,k0.2,k1.1,k1.2,k2.1,k2.2],?_⟩;simp only[k0.1,k0.2,k1.1,k1.2,k2.1,k2.2,Ax,AD,Ez,BD,Ai,JV,AB,Ao,A6]
 try (constructor<;>intro h<;>simp_all)
def Xz(x:BF):Prop:=x.length<=1048576
def Wl(x:BE):Prop:=Xz x.2/\True
theorem ZaB(a b:BF)(h:Xz a):SG (a,b)/\(SP (a,b)=true↔a=b):=by
 rw[r7,qZ];have h1:a.length<=1048576:=h;by_cases hl:a.length=b.length
 . refine⟨⟨λ _=>trivial,λ _=>MA a b 0 (λ i=>iNe (lGet a i 0) (lGet b i 0)) hl (λ i hi=>by simp[BD,AU]) (by omega) (λ i hi=>by simp only[AD,As,Al,Ay,Ax,AQ,Dd]) (λ i hi=>rfl) (λ i hi=>?_)⟩,?_⟩
   . simp only[As,Al,Ay,AB,AQ];exact⟨λ hh=>(by omega),λ _=>trivial⟩
   . have hv:=MH (c:=λ i:Int=>bAnd (iLt i (lLen a)) (bNot ((λ i=>iNe (lGet a i 0) (lGet b i 0)) i.toNat))) (f:=λ i=>iAdd .i64 i 1) a b 0 (λ i=>iNe (lGet a i 0) (lGet b i 0)) hl (λ i hi=>by simp[BD,AU]) (by omega) (λ i hi=>by simp only[AD,As,Al,Ax,AQ,Dd]) (λ i hi=>rfl)
     have e1:bNot (iNe (lLen a) (lLen b))=true:=by rw[Ax,BD,Al,Al,hl];simp
     rw[e1,AD true,JO,Ax (iLt _ (lLen a)),As _ (lLen a)];simp only[<- Ay,Al] at hv ⊢;simp only[BJ,B7];rw[hv];simp
 . have e1:bNot (iNe (lLen a) (lLen b))=false:=by rw[Ax,BD,Al,Al];simp;omega
   refine⟨⟨λ _=>trivial,λ h=>?_⟩,?_⟩
   . rw[Ax] at e1;rw[h] at e1;cases e1
   . rw[e1,AD,J5];constructor
     . intro h;cases h
     . intro e;subst e;exact absurd rfl hl
theorem wT(a b:BE)(h:Wl a):O7 (a,b)/\(I8 (a,b)=true↔a=b):=by
 obtain⟨a0,a1⟩:=a;obtain⟨b0,b1⟩:=b;have k0:=ZaB a1 b1 (by unfold Wl at h;exact h.1);rw[nE,ow];refine⟨by simp[k0.1,k0.2],?_⟩;simp only[k0.1,k0.2,Ax,AD,Ez,BD,Ai,JV,AB,Ao,A6]
 try (constructor<;>intro h<;>simp_all)
theorem LR(a:Int):iAdd .i64 a 1=IntKind.i64.wrap (a+1):=by simp only[Yj]
theorem LM(k:IntKind)(a:Int):iConv k a=k.wrap a:=by simp only[fR]
theorem LP(a b:Int):iRem a b=a.tmod b:=by simp only[gH]
section
variable {α:Type} {f:α->Int->α×Int} {l:List α} {c:Nat} {m:Int}
def Kh(f:α->Int->α×Int)(l:List α)(c:Nat):Prop:=∀ a∈l,∀ m:Int,0<=m->m+c<=2305843009213693952->m<=(f a m).2/\(f a m).2<=m+c
theorem KF(hf:Kh f l c)(h0:0<=m)(h1:m+(l.length*c:Nat)<=2305843009213693952)(d:α):∀ i,i<=l.length->m<=(A4 f l m i).2/\(A4 f l m i).2<=m+(i*c:Nat):=by
 intro i
 induction i with
 |zero=>intro _;rw[Kv];simp
 | succ i ih=>
   intro hi;obtain⟨h2,h3⟩:=ih (by omega);rw[Pz f l m (by omega) d];have hm:l.getD i d∈l:=Ce l i d (by omega);have hmul:(i+1)*c<=l.length*c:=FZ _ (by omega);rw[Df,H6] at hmul ⊢;obtain⟨h4,h5⟩:=hf _ hm (A4 f l m i).2 (by omega) (by omega);exact⟨by omega,by simp only;omega⟩
theorem Mk(hf:Kh f l c)(h0:0<=m)(h1:m+(l.length*c:Nat)<=2305843009213693952):m<=(AP f l m).2/\(AP f l m).2<=m+(l.length*c:Nat):=by
 cases l with
 |nil=>simp[AP]
 | cons a r=>
   have:=KF hf h0 h1 a (a::r).length (Bt _);rw[Hb] at this;exact this
theorem LX(f:α->Int->α×Int)(l:List α)(m:Int){i:Nat}(hi:i<l.length)(d:α):(AP f l m).1.getD i d=(f (l.getD i d) (A4 f l m i).2).1:=by
 have h1:=Pz f l m hi d
 have h2:(A4 f l m (i+1)).1.getD i d=(f (l.getD i d) (A4 f l m i).2).1:=by
  rw[h1];simp only;rw[CQ,Yc (by rw[Ey];exact hi)];rfl
 rw[<- h2,<- Hb f l m]
 have:∀ k,i<k->k<=l.length->(A4 f l m k).1.getD i d=(A4 f l m (i+1)).1.getD i d:=by
  intro k
  induction k with
  |zero=>intro h;omega
  | succ k ih=>
    intro h h';by_cases hk:k=i
    . rw[hk]
    . rw[<- ih (by omega) (by omega),Pz f l m (by omega) d];simp only[CQ];rw[List.getElem?_set_ne hk]
 exact this _ hi (Bt _)
theorem LK {C:Int×Int->Bool} {F:Int×Int->Int×Int} {p:Int×Int->Prop} (hl:l.length<=1048576) (d:α)
 (hs:∀ i,i<l.length->p ((A4 f l m i).2,(i:Int))/\C ((A4 f l m i).2,(i:Int))=true/\F ((A4 f l m i).2,(i:Int))=((f (l.getD i d) (A4 f l m i).2).2,iAdd .i64 (i:Int) 1))
 (he:p ((AP f l m).2,(l.length:Int))/\C ((AP f l m).2,(l.length:Int))=false):LoopOk C F p (m,0)/\Ap C F (m,0)=((AP f l m).2,(l.length:Int)):=by
 have:=NK (p:=p) (c:=C) (f:=F) l.length (λ i=>((A4 f l m i).2,(i:Int))) (x0:=(m,0)) rfl (λ k hk=>by
  obtain⟨h1,h2,h3⟩:=hs k hk;refine⟨h1,h2,?_⟩;rw[h3,Pz f l m hk d,CH (by unfold Cv;omega)]
  simp) (by rw[Hb];exact he)
 simp only[Hb] at this
 exact this
end
theorem LQ{i n c:Nat}(h:i<n):i*c+c<=n*c:=by
 have:=FZ c (show i+1<=n from h);rw[Df,H6] at this;exact this
theorem L6{n m c B:Nat}(h:n<=m)(e:m*c=B):n*c<=B:=e▸FZ c h
theorem Cu{m:Int}(h0:0<=m)(h1:m<=2305843009213693960):IntKind.i64.wrap (m+1)=m+1:=JY (by omega)
section
set_option maxRecDepth 20000
def FX(a:Int)(k:Int):(Int)×Int:=(k,(IntKind.i64.wrap (k+1)))
theorem eX(x:BF)(h:Xz x)(m:Int)(h0:0<=m)(h1:m+1048576<=2305843009213693952):RH x/\(m<=(FD x m).2/\(FD x m).2<=m+1048576)/\O6 ((FD x m).1,m)/\Ed ((FD x m).1,m)=(FD x m).2:=by
 have hl:x.length<=1048576:=h
 have hU:Kh FX x 1:=by
  intro a ha k k0 k1;have e0:IntKind.i64.wrap (k+1)=k+1:=Cu (by omega) (by omega)
  have ee:(FX a k).2=(k+1):=by simp only[FX,e0]
  rw[ee];omega
 have hB:x.length*1<=1048576:=L6 hl (by decide);have up:=Mk (m:=m) hU h0 (by omega)
 have hmg:FD x m=AP FX x m:=by unfold FX;rw[ZC];rfl
 rw[hmg];have hL:=FY FX x m
 have hg:∀ i,i<x.length->(AP FX x m).1.getD i 0=(FX (x.getD i 0) (A4 FX x m i).2).1:=λ i hi=>LX _ _ _ hi _
 have hok:RH x:=by rw[lz];exact⟨Cz h (by decide),λ a ha=>trivial⟩
 rw[m0,mG];dsimp only;generalize (AP FX x m).1=L at hL hg ⊢
 have key:LoopOk (fun(x0:Aq)=>(bAnd (iLt x0.2 (lLen L)) (bNot (iNe (lGet L (iNat x0.2) 0) x0.1)))) (fun(x0:Aq)=>((iAdd .i64 x0.1 1),(iAdd .i64 x0.2 1))) (fun(x0:Aq)=>(((iLt x0.2 (lLen L))=true->((((0:Int)<=x0.2)/\(x0.2<(((List.length L):Int))))/\((iNat x0.2)<(List.length L))))/\((iLt x0.2 (lLen L))=false->True))) (m,0)/\Ap (fun(x0:Aq)=>(bAnd (iLt x0.2 (lLen L)) (bNot (iNe (lGet L (iNat x0.2) 0) x0.1)))) (fun(x0:Aq)=>((iAdd .i64 x0.1 1),(iAdd .i64 x0.2 1))) (m,0)=((AP FX x m).2,(x.length:Int)):=by
  refine LK hl 0 (λ i hi=>?_) ?_
  . obtain⟨b1,b2⟩:=KF (m:=m) hU h0 (by omega) 0 i (by omega);have bm:i*1+1<=x.length*1:=LQ hi;have g:=hg i hi
    have hlt:(i:Int)<(L.length:Int):=by omega
    have hlN:i<L.length:=by omega
    have ha:=Ce x i 0 hi;generalize (A4 FX x m i).2=k at b1 b2 g ⊢;generalize x.getD i 0=a at g ha ⊢;have e0:IntKind.i64.wrap (k+1)=k+1:=Cu (by omega) (by omega);simp only[AU,Ay,Al,AQ,LR,LM,BD,As,De,LP,AD,Ax,Ez,g,FX,e0];simp[hlt,hlN]
  . simp[As,Al,hL,AD]
 refine⟨hok,⟨up.1,by omega⟩,key.1,?_⟩;simp only[key.2];simp[Cn,As,Al,hL]
end
section
set_option maxRecDepth 20000
def FM(a:Dv)(k:Int):Dv×Int:=((k,(IntKind.i64.wrap (k+1)),(IntKind.i64.wrap ((IntKind.i64.wrap (k+1))+1)),(IntKind.i64.wrap ((IntKind.i64.wrap ((IntKind.i64.wrap (k+1))+1))+1))),(IntKind.i64.wrap ((IntKind.i64.wrap ((IntKind.i64.wrap ((IntKind.i64.wrap (k+1))+1))+1))+1)))
theorem bS(x:Dh)(h:Kw x)(m:Int)(h0:0<=m)(h1:m+4194304<=2305843009213693952):Rh x/\(m<=(Fx x m).2/\(Fx x m).2<=m+4194304)/\OQ ((Fx x m).1,m)/\Fy ((Fx x m).1,m)=(Fx x m).2:=by
 have hl:x.length<=1048576:=h.1
 have hU:Kh FM x 4:=by
  intro a ha k k0 k1;have e0:IntKind.i64.wrap (k+1)=k+1:=Cu (by omega) (by omega);have e1:IntKind.i64.wrap ((k+1)+1)=(k+1)+1:=Cu (by omega) (by omega);have e2:IntKind.i64.wrap (((k+1)+1)+1)=((k+1)+1)+1:=Cu (by omega) (by omega);have e3:IntKind.i64.wrap ((((k+1)+1)+1)+1)=(((k+1)+1)+1)+1:=Cu (by omega) (by omega)
  have ee:(FM a k).2=((((k+1)+1)+1)+1):=by simp only[FM,e0,e1,e2,e3]
  rw[ee];omega
 have hB:x.length*4<=4194304:=L6 hl (by decide);have up:=Mk (m:=m) hU h0 (by omega)
 have hmg:Fx x m=AP FM x m:=by unfold FM;rw[Zh];rfl
 rw[hmg];have hL:=FY FM x m
 have hg:∀ i,i<x.length->(AP FM x m).1.getD i (0,0,0,0)=(FM (x.getD i (0,0,0,0)) (A4 FM x m i).2).1:=λ i hi=>LX _ _ _ hi _
 have hok:Rh x:=by rw[jA];exact⟨Cz h.1 (by decide),λ a ha=>⟨trivial,trivial,trivial,trivial⟩⟩
 rw[jK,jJ];dsimp only;generalize (AP FM x m).1=L at hL hg ⊢
 have key:LoopOk (fun(x0:Aq)=>(bAnd (iLt x0.2 (lLen L)) (bAnd (bNot (iNe (lGet L (iNat x0.2) (0,0,0,0)).1 x0.1)) (bAnd (bNot (iNe (lGet L (iNat x0.2) (0,0,0,0)).2.1 (iAdd .i64 x0.1 1))) (bAnd (bNot (iNe (lGet L (iNat x0.2) (0,0,0,0)).2.2.1 (iAdd .i64 (iAdd .i64 x0.1 1) 1))) (bNot (iNe (lGet L (iNat x0.2) (0,0,0,0)).2.2.2 (iAdd .i64 (iAdd .i64 (iAdd .i64 x0.1 1) 1) 1)))))))) (fun(x0:Aq)=>((iAdd .i64 (iAdd .i64 (iAdd .i64 (iAdd .i64 x0.1 1) 1) 1) 1),(iAdd .i64 x0.2 1))) (fun(x0:Aq)=>(((iLt x0.2 (lLen L))=true->((((0:Int)<=x0.2)/\(x0.2<(((List.length L):Int))))/\(((iNat x0.2)<(List.length L))/\(((iNe (lGet L (iNat x0.2) (0,0,0,0)).1 x0.1)=true->True)/\((iNe (lGet L (iNat x0.2) (0,0,0,0)).1 x0.1)=false->((((0:Int)<=x0.2)/\(x0.2<(((List.length L):Int))))/\(((iNat x0.2)<(List.length L))/\(((iNe (lGet L (iNat x0.2) (0,0,0,0)).2.1 (iAdd .i64 x0.1 1))=true->True)/\((iNe (lGet L (iNat x0.2) (0,0,0,0)).2.1 (iAdd .i64 x0.1 1))=false->((((0:Int)<=x0.2)/\(x0.2<(((List.length L):Int))))/\(((iNat x0.2)<(List.length L))/\(((iNe (lGet L (iNat x0.2) (0,0,0,0)).2.2.1 (iAdd .i64 (iAdd .i64 x0.1 1) 1))=true->True)/\((iNe (lGet L (iNat x0.2) (0,0,0,0)).2.2.1 (iAdd .i64 (iAdd .i64 x0.1 1) 1))=false->((((0:Int)<=x0.2)/\(x0.2<(((List.length L):Int))))/\((iNat x0.2)<(List.length L))))))))))))))))/\((iLt x0.2 (lLen L))=false->True))) (m,0)/\Ap (fun(x0:Aq)=>(bAnd (iLt x0.2 (lLen L)) (bAnd (bNot (iNe (lGet L (iNat x0.2) (0,0,0,0)).1 x0.1)) (bAnd (bNot (iNe (lGet L (iNat x0.2) (0,0,0,0)).2.1 (iAdd .i64 x0.1 1))) (bAnd (bNot (iNe (lGet L (iNat x0.2) (0,0,0,0)).2.2.1 (iAdd .i64 (iAdd .i64 x0.1 1) 1))) (bNot (iNe (lGet L (iNat x0.2) (0,0,0,0)).2.2.2 (iAdd .i64 (iAdd .i64 (iAdd .i64 x0.1 1) 1) 1)))))))) (fun(x0:Aq)=>((iAdd .i64 (iAdd .i64 (iAdd .i64 (iAdd .i64 x0.1 1) 1) 1) 1),(iAdd .i64 x0.2 1))) (m,0)=((AP FM x m).2,(x.length:Int)):=by
  refine LK hl (0,0,0,0) (λ i hi=>?_) ?_
  . obtain⟨b1,b2⟩:=KF (m:=m) hU h0 (by omega) (0,0,0,0) i (by omega);have bm:i*4+4<=x.length*4:=LQ hi;have g:=hg i hi
    have hlt:(i:Int)<(L.length:Int):=by omega
    have hlN:i<L.length:=by omega
    have ha:=Ce x i (0,0,0,0) hi;generalize (A4 FM x m i).2=k at b1 b2 g ⊢;generalize x.getD i (0,0,0,0)=a at g ha ⊢;have e0:IntKind.i64.wrap (k+1)=k+1:=Cu (by omega) (by omega);have e1:IntKind.i64.wrap ((k+1)+1)=(k+1)+1:=Cu (by omega) (by omega);have e2:IntKind.i64.wrap (((k+1)+1)+1)=((k+1)+1)+1:=Cu (by omega) (by omega);have e3:IntKind.i64.wrap ((((k+1)+1)+1)+1)=(((k+1)+1)+1)+1:=Cu (by omega) (by omega);simp only[AU,Ay,Al,AQ,LR,LM,BD,As,De,LP,AD,Ax,Ez,g,FM,e0,e1,e2,e3];simp[hlt,hlN]
  . simp[As,Al,hL,AD]
 refine⟨hok,⟨up.1,by omega⟩,key.1,?_⟩;simp only[key.2];simp[Cn,As,Al,hL]
def FK(a:Dh)(k:Int):Dh×Int:=((Fx a k).1,(Fx a k).2)
theorem uj(x:Ct)(h:Kt x)(m:Int)(h0:0<=m)(h1:m+4398046511104<=2305843009213693952):Rg x/\(m<=(GP x m).2/\(GP x m).2<=m+4398046511104)/\Rl ((GP x m).1,m)/\OP ((GP x m).1,m)=(GP x m).2:=by
 have hl:x.length<=1048576:=h.1
 have hU:Kh FK x 4194304:=by
  intro a ha k k0 k1;obtain⟨_,⟨p0,q0⟩,y0,z0⟩:=bS a (h.2 a ha) k (by omega) (by omega)
  have t0:¬ (Fx a k).2<0:=by omega
  have ee:(FK a k).2=(Fx a k).2:=by simp only[FK]
  rw[ee];omega
 have hB:x.length*4194304<=4398046511104:=L6 hl (by decide);have up:=Mk (m:=m) hU h0 (by omega)
 have hmg:GP x m=AP FK x m:=by unfold FK;rw[Zg,Zh];rfl
 rw[hmg];have hL:=FY FK x m
 have hg:∀ i,i<x.length->(AP FK x m).1.getD i []=(FK (x.getD i []) (A4 FK x m i).2).1:=λ i hi=>LX _ _ _ hi _
 have hok:Rg x:=by rw[jr];exact⟨Cz h.1 (by decide),λ a ha=>⟨Cz (h.2 a ha).1 (by decide),λ a ha=>⟨trivial,trivial,trivial,trivial⟩⟩⟩
 rw[jz,ju];dsimp only;generalize (AP FK x m).1=L at hL hg ⊢
 have key:LoopOk (fun(x0:Aq)=>(bAnd (iLt x0.2 (lLen L)) (bNot (iLt (Fy ((lGet L (iNat x0.2) []),x0.1)) 0)))) (fun(x0:Aq)=>((Fy ((lGet L (iNat x0.2) []),x0.1)),(iAdd .i64 x0.2 1))) (fun(x0:Aq)=>(((iLt x0.2 (lLen L))=true->((((0:Int)<=x0.2)/\(x0.2<(((List.length L):Int))))/\(((iNat x0.2)<(List.length L))/\(OQ ((lGet L (iNat x0.2) []),x0.1)))))/\((iLt x0.2 (lLen L))=false->True))) (m,0)/\Ap (fun(x0:Aq)=>(bAnd (iLt x0.2 (lLen L)) (bNot (iLt (Fy ((lGet L (iNat x0.2) []),x0.1)) 0)))) (fun(x0:Aq)=>((Fy ((lGet L (iNat x0.2) []),x0.1)),(iAdd .i64 x0.2 1))) (m,0)=((AP FK x m).2,(x.length:Int)):=by
  refine LK hl [] (λ i hi=>?_) ?_
  . obtain⟨b1,b2⟩:=KF (m:=m) hU h0 (by omega) [] i (by omega);have bm:i*4194304+4194304<=x.length*4194304:=LQ hi;have g:=hg i hi
    have hlt:(i:Int)<(L.length:Int):=by omega
    have hlN:i<L.length:=by omega
    have ha:=Ce x i [] hi;generalize (A4 FK x m i).2=k at b1 b2 g ⊢;generalize x.getD i []=a at g ha ⊢;obtain⟨_,⟨p0,q0⟩,y0,z0⟩:=bS a (h.2 a ha) k (by omega) (by omega)
    have t0:¬ (Fx a k).2<0:=by omega
    simp only[AU,Ay,Al,AQ,LR,LM,BD,As,De,LP,AD,Ax,Ez,g,FK,y0,z0,t0];simp[hlt,hlN,y0,z0,t0]
  . simp[As,Al,hL,AD]
 refine⟨hok,⟨up.1,by omega⟩,key.1,?_⟩;simp only[key.2];simp[Cn,As,Al,hL]
theorem wV(x:BH)(h:Fc x)(m:Int)(h0:0<=m)(h1:m+4398046511104<=2305843009213693952):Rn x/\(m<=(Eb x m).2/\(Eb x m).2<=m+4398046511104)/\Rs ((x.1,(Eb x m).1.2),m)/\FB ((x.1,(Eb x m).1.2),m)=(Eb x m).2:=by
 unfold Fc at h;obtain⟨k0,⟨p0,q0⟩,y0,z0⟩:=uj x.2 h.1 m (by omega) (by omega)
 have t0:¬ (GP x.2 m).2<0:=by omega
 have e:Eb x m=((x.1,(GP x.2 m).1),(GP x.2 m).2):=by rw[Zk,Zg];rfl
 have hok:Rn x:=by rw[jG];exact⟨trivial,⟨Cz h.1.1 (by decide),λ a ha=>⟨Cz (h.1.2 a ha).1 (by decide),λ a ha=>⟨trivial,trivial,trivial,trivial⟩⟩⟩⟩
 rw[e];refine⟨hok,⟨by simp only;omega,by simp only;omega⟩,?_,?_⟩
 . rw[kX];simp[As,Cn,y0,z0,t0]
 . rw[kz];simp[As,Cn,y0,z0,t0]
end
section
set_option maxRecDepth 20000
def FQ(a:DX)(k:Int):DX×Int:=((k,(IntKind.i64.wrap (k+1)),(IntKind.i64.wrap ((IntKind.i64.wrap (k+1))+1))),(IntKind.i64.wrap ((IntKind.i64.wrap ((IntKind.i64.wrap (k+1))+1))+1)))
theorem ew(x:Cp)(h:KG x)(m:Int)(h0:0<=m)(h1:m+3145728<=2305843009213693952):RA x/\(m<=(FA x m).2/\(FA x m).2<=m+3145728)/\O3 ((FA x m).1,m)/\FC ((FA x m).1,m)=(FA x m).2:=by
 have hl:x.length<=1048576:=h.1
 have hU:Kh FQ x 3:=by
  intro a ha k k0 k1;have e0:IntKind.i64.wrap (k+1)=k+1:=Cu (by omega) (by omega);have e1:IntKind.i64.wrap ((k+1)+1)=(k+1)+1:=Cu (by omega) (by omega);have e2:IntKind.i64.wrap (((k+1)+1)+1)=((k+1)+1)+1:=Cu (by omega) (by omega)
  have ee:(FQ a k).2=(((k+1)+1)+1):=by simp only[FQ,e0,e1,e2]
  rw[ee];omega
 have hB:x.length*3<=3145728:=L6 hl (by decide);have up:=Mk (m:=m) hU h0 (by omega)
 have hmg:FA x m=AP FQ x m:=by unfold FQ;rw[Zt];rfl
 rw[hmg];have hL:=FY FQ x m
 have hg:∀ i,i<x.length->(AP FQ x m).1.getD i (0,0,0)=(FQ (x.getD i (0,0,0)) (A4 FQ x m i).2).1:=λ i hi=>LX _ _ _ hi _
 have hok:RA x:=by rw[kL];exact⟨Cz h.1 (by decide),λ a ha=>⟨trivial,trivial,trivial⟩⟩
 rw[lY,mj];dsimp only;generalize (AP FQ x m).1=L at hL hg ⊢
 have key:LoopOk (fun(x0:Aq)=>(bAnd (iLt x0.2 (lLen L)) (bAnd (bNot (iNe (lGet L (iNat x0.2) (0,0,0)).1 x0.1)) (bAnd (bNot (iNe (lGet L (iNat x0.2) (0,0,0)).2.1 (iAdd .i64 x0.1 1))) (bNot (iNe (lGet L (iNat x0.2) (0,0,0)).2.2 (iAdd .i64 (iAdd .i64 x0.1 1) 1))))))) (fun(x0:Aq)=>((iAdd .i64 (iAdd .i64 (iAdd .i64 x0.1 1) 1) 1),(iAdd .i64 x0.2 1))) (fun(x0:Aq)=>(((iLt x0.2 (lLen L))=true->((((0:Int)<=x0.2)/\(x0.2<(((List.length L):Int))))/\(((iNat x0.2)<(List.length L))/\(((iNe (lGet L (iNat x0.2) (0,0,0)).1 x0.1)=true->True)/\((iNe (lGet L (iNat x0.2) (0,0,0)).1 x0.1)=false->((((0:Int)<=x0.2)/\(x0.2<(((List.length L):Int))))/\(((iNat x0.2)<(List.length L))/\(((iNe (lGet L (iNat x0.2) (0,0,0)).2.1 (iAdd .i64 x0.1 1))=true->True)/\((iNe (lGet L (iNat x0.2) (0,0,0)).2.1 (iAdd .i64 x0.1 1))=false->((((0:Int)<=x0.2)/\(x0.2<(((List.length L):Int))))/\((iNat x0.2)<(List.length L))))))))))))/\((iLt x0.2 (lLen L))=false->True))) (m,0)/\Ap (fun(x0:Aq)=>(bAnd (iLt x0.2 (lLen L)) (bAnd (bNot (iNe (lGet L (iNat x0.2) (0,0,0)).1 x0.1)) (bAnd (bNot (iNe (lGet L (iNat x0.2) (0,0,0)).2.1 (iAdd .i64 x0.1 1))) (bNot (iNe (lGet L (iNat x0.2) (0,0,0)).2.2 (iAdd .i64 (iAdd .i64 x0.1 1) 1))))))) (fun(x0:Aq)=>((iAdd .i64 (iAdd .i64 (iAdd .i64 x0.1 1) 1) 1),(iAdd .i64 x0.2 1))) (m,0)=((AP FQ x m).2,(x.length:Int)):=by
  refine LK hl (0,0,0) (λ i hi=>?_) ?_
  . obtain⟨b1,b2⟩:=KF (m:=m) hU h0 (by omega) (0,0,0) i (by omega);have bm:i*3+3<=x.length*3:=LQ hi;have g:=hg i hi
    have hlt:(i:Int)<(L.length:Int):=by omega
    have hlN:i<L.length:=by omega
    have ha:=Ce x i (0,0,0) hi;generalize (A4 FQ x m i).2=k at b1 b2 g ⊢;generalize x.getD i (0,0,0)=a at g ha ⊢;have e0:IntKind.i64.wrap (k+1)=k+1:=Cu (by omega) (by omega);have e1:IntKind.i64.wrap ((k+1)+1)=(k+1)+1:=Cu (by omega) (by omega);have e2:IntKind.i64.wrap (((k+1)+1)+1)=((k+1)+1)+1:=Cu (by omega) (by omega);simp only[AU,Ay,Al,AQ,LR,LM,BD,As,De,LP,AD,Ax,Ez,g,FQ,e0,e1,e2];simp[hlt,hlN]
  . simp[As,Al,hL,AD]
 refine⟨hok,⟨up.1,by omega⟩,key.1,?_⟩;simp only[key.2];simp[Cn,As,Al,hL]
def FO(a:Cp)(k:Int):Cp×Int:=((FA a k).1,(FA a k).2)
theorem xr(x:Ch)(h:HP x)(m:Int)(h0:0<=m)(h1:m+3298534883328<=2305843009213693952):Ro x/\(m<=(E8 x m).2/\(E8 x m).2<=m+3298534883328)/\Rr ((E8 x m).1,m)/\Iz ((E8 x m).1,m)=(E8 x m).2:=by
 have hl:x.length<=1048576:=h.1
 have hU:Kh FO x 3145728:=by
  intro a ha k k0 k1;obtain⟨_,⟨p0,q0⟩,y0,z0⟩:=ew a (h.2 a ha) k (by omega) (by omega)
  have t0:¬ (FA a k).2<0:=by omega
  have ee:(FO a k).2=(FA a k).2:=by simp only[FO]
  rw[ee];omega
 have hB:x.length*3145728<=3298534883328:=L6 hl (by decide);have up:=Mk (m:=m) hU h0 (by omega)
 have hmg:E8 x m=AP FO x m:=by unfold FO;rw[Zn,Zt];rfl
 rw[hmg];have hL:=FY FO x m
 have hg:∀ i,i<x.length->(AP FO x m).1.getD i []=(FO (x.getD i []) (A4 FO x m i).2).1:=λ i hi=>LX _ _ _ hi _
 have hok:Ro x:=by rw[jO];exact⟨Cz h.1 (by decide),λ a ha=>⟨Cz (h.2 a ha).1 (by decide),λ a ha=>⟨trivial,trivial,trivial⟩⟩⟩
 rw[kg,jR];dsimp only;generalize (AP FO x m).1=L at hL hg ⊢
 have key:LoopOk (fun(x0:Aq)=>(bAnd (iLt x0.2 (lLen L)) (bNot (iLt (FC ((lGet L (iNat x0.2) []),x0.1)) 0)))) (fun(x0:Aq)=>((FC ((lGet L (iNat x0.2) []),x0.1)),(iAdd .i64 x0.2 1))) (fun(x0:Aq)=>(((iLt x0.2 (lLen L))=true->((((0:Int)<=x0.2)/\(x0.2<(((List.length L):Int))))/\(((iNat x0.2)<(List.length L))/\(O3 ((lGet L (iNat x0.2) []),x0.1)))))/\((iLt x0.2 (lLen L))=false->True))) (m,0)/\Ap (fun(x0:Aq)=>(bAnd (iLt x0.2 (lLen L)) (bNot (iLt (FC ((lGet L (iNat x0.2) []),x0.1)) 0)))) (fun(x0:Aq)=>((FC ((lGet L (iNat x0.2) []),x0.1)),(iAdd .i64 x0.2 1))) (m,0)=((AP FO x m).2,(x.length:Int)):=by
  refine LK hl [] (λ i hi=>?_) ?_
  . obtain⟨b1,b2⟩:=KF (m:=m) hU h0 (by omega) [] i (by omega);have bm:i*3145728+3145728<=x.length*3145728:=LQ hi;have g:=hg i hi
    have hlt:(i:Int)<(L.length:Int):=by omega
    have hlN:i<L.length:=by omega
    have ha:=Ce x i [] hi;generalize (A4 FO x m i).2=k at b1 b2 g ⊢;generalize x.getD i []=a at g ha ⊢;obtain⟨_,⟨p0,q0⟩,y0,z0⟩:=ew a (h.2 a ha) k (by omega) (by omega)
    have t0:¬ (FA a k).2<0:=by omega
    simp only[AU,Ay,Al,AQ,LR,LM,BD,As,De,LP,AD,Ax,Ez,g,FO,y0,z0,t0];simp[hlt,hlN,y0,z0,t0]
  . simp[As,Al,hL,AD]
 refine⟨hok,⟨up.1,by omega⟩,key.1,?_⟩;simp only[key.2];simp[Cn,As,Al,hL]
def FR(a:C0)(k:Int):C0×Int:=((k,(IntKind.i64.wrap (k+1)),(IntKind.i64.wrap ((IntKind.i64.wrap (k+1))+1)),(IntKind.i64.wrap ((IntKind.i64.wrap ((IntKind.i64.wrap (k+1))+1))+1)),(IntKind.i64.wrap ((IntKind.i64.wrap ((IntKind.i64.wrap ((IntKind.i64.wrap (k+1))+1))+1))+1))),(IntKind.i64.wrap ((IntKind.i64.wrap ((IntKind.i64.wrap ((IntKind.i64.wrap ((IntKind.i64.wrap (k+1))+1))+1))+1))+1)))
theorem yW(x:Be)(h:JF x)(m:Int)(h0:0<=m)(h1:m+5242880<=2305843009213693952):Rw x/\(m<=(GV x m).2/\(GV x m).2<=m+5242880)/\RP ((GV x m).1,m)/\O4 ((GV x m).1,m)=(GV x m).2:=by
 have hl:x.length<=1048576:=h.1
 have hU:Kh FR x 5:=by
  intro a ha k k0 k1;have e0:IntKind.i64.wrap (k+1)=k+1:=Cu (by omega) (by omega);have e1:IntKind.i64.wrap ((k+1)+1)=(k+1)+1:=Cu (by omega) (by omega);have e2:IntKind.i64.wrap (((k+1)+1)+1)=((k+1)+1)+1:=Cu (by omega) (by omega);have e3:IntKind.i64.wrap ((((k+1)+1)+1)+1)=(((k+1)+1)+1)+1:=Cu (by omega) (by omega);have e4:IntKind.i64.wrap (((((k+1)+1)+1)+1)+1)=((((k+1)+1)+1)+1)+1:=Cu (by omega) (by omega)
  have ee:(FR a k).2=(((((k+1)+1)+1)+1)+1):=by simp only[FR,e0,e1,e2,e3,e4]
  rw[ee];omega
 have hB:x.length*5<=5242880:=L6 hl (by decide);have up:=Mk (m:=m) hU h0 (by omega)
 have hmg:GV x m=AP FR x m:=by unfold FR;rw[Zx];rfl
 rw[hmg];have hL:=FY FR x m
 have hg:∀ i,i<x.length->(AP FR x m).1.getD i (0,0,0,0,0)=(FR (x.getD i (0,0,0,0,0)) (A4 FR x m i).2).1:=λ i hi=>LX _ _ _ hi _
 have hok:Rw x:=by rw[jS];exact⟨Cz h.1 (by decide),λ a ha=>⟨trivial,trivial,trivial,trivial,trivial⟩⟩
 rw[lV,k8];dsimp only;generalize (AP FR x m).1=L at hL hg ⊢
 have key:LoopOk (fun(x0:Aq)=>(bAnd (iLt x0.2 (lLen L)) (bAnd (bNot (iNe (lGet L (iNat x0.2) (0,0,0,0,0)).1 x0.1)) (bAnd (bNot (iNe (lGet L (iNat x0.2) (0,0,0,0,0)).2.1 (iAdd .i64 x0.1 1))) (bAnd (bNot (iNe (lGet L (iNat x0.2) (0,0,0,0,0)).2.2.1 (iAdd .i64 (iAdd .i64 x0.1 1) 1))) (bAnd (bNot (iNe (lGet L (iNat x0.2) (0,0,0,0,0)).2.2.2.1 (iAdd .i64 (iAdd .i64 (iAdd .i64 x0.1 1) 1) 1))) (bNot (iNe (lGet L (iNat x0.2) (0,0,0,0,0)).2.2.2.2 (iAdd .i64 (iAdd .i64 (iAdd .i64 (iAdd .i64 x0.1 1) 1) 1) 1))))))))) (fun(x0:Aq)=>((iAdd .i64 (iAdd .i64 (iAdd .i64 (iAdd .i64 (iAdd .i64 x0.1 1) 1) 1) 1) 1),(iAdd .i64 x0.2 1))) (fun(x0:Aq)=>(((iLt x0.2 (lLen L))=true->((((0:Int)<=x0.2)/\(x0.2<(((List.length L):Int))))/\(((iNat x0.2)<(List.length L))/\(((iNe (lGet L (iNat x0.2) (0,0,0,0,0)).1 x0.1)=true->True)/\((iNe (lGet L (iNat x0.2) (0,0,0,0,0)).1 x0.1)=false->((((0:Int)<=x0.2)/\(x0.2<(((List.length L):Int))))/\(((iNat x0.2)<(List.length L))/\(((iNe (lGet L (iNat x0.2) (0,0,0,0,0)).2.1 (iAdd .i64 x0.1 1))=true->True)/\((iNe (lGet L (iNat x0.2) (0,0,0,0,0)).2.1 (iAdd .i64 x0.1 1))=false->((((0:Int)<=x0.2)/\(x0.2<(((List.length L):Int))))/\(((iNat x0.2)<(List.length L))/\(((iNe (lGet L (iNat x0.2) (0,0,0,0,0)).2.2.1 (iAdd .i64 (iAdd .i64 x0.1 1) 1))=true->True)/\((iNe (lGet L (iNat x0.2) (0,0,0,0,0)).2.2.1 (iAdd .i64 (iAdd .i64 x0.1 1) 1))=false->((((0:Int)<=x0.2)/\(x0.2<(((List.length L):Int))))/\(((iNat x0.2)<(List.length L))/\(((iNe (lGet L (iNat x0.2) (0,0,0,0,0)).2.2.2.1 (iAdd .i64 (iAdd .i64 (iAdd .i64 x0.1 1) 1) 1))=true->True)/\((iNe (lGet L (iNat x0.2) (0,0,0,0,0)).2.2.2.1 (iAdd .i64 (iAdd .i64 (iAdd .i64 x0.1 1) 1) 1))=false->((((0:Int)<=x0.2)/\(x0.2<(((List.length L):Int))))/\((iNat x0.2)<(List.length L))))))))))))))))))))/\((iLt x0.2 (lLen L))=false->True))) (m,0)/\Ap (fun(x0:Aq)=>(bAnd (iLt x0.2 (lLen L)) (bAnd (bNot (iNe (lGet L (iNat x0.2) (0,0,0,0,0)).1 x0.1)) (bAnd (bNot (iNe (lGet L (iNat x0.2) (0,0,0,0,0)).2.1 (iAdd .i64 x0.1 1))) (bAnd (bNot (iNe (lGet L (iNat x0.2) (0,0,0,0,0)).2.2.1 (iAdd .i64 (iAdd .i64 x0.1 1) 1))) (bAnd (bNot (iNe (lGet L (iNat x0.2) (0,0,0,0,0)).2.2.2.1 (iAdd .i64 (iAdd .i64 (iAdd .i64 x0.1 1) 1) 1))) (bNot (iNe (lGet L (iNat x0.2) (0,0,0,0,0)).2.2.2.2 (iAdd .i64 (iAdd .i64 (iAdd .i64 (iAdd .i64 x0.1 1) 1) 1) 1))))))))) (fun(x0:Aq)=>((iAdd .i64 (iAdd .i64 (iAdd .i64 (iAdd .i64 (iAdd .i64 x0.1 1) 1) 1) 1) 1),(iAdd .i64 x0.2 1))) (m,0)=((AP FR x m).2,(x.length:Int)):=by
  refine LK hl (0,0,0,0,0) (λ i hi=>?_) ?_
  . obtain⟨b1,b2⟩:=KF (m:=m) hU h0 (by omega) (0,0,0,0,0) i (by omega);have bm:i*5+5<=x.length*5:=LQ hi;have g:=hg i hi
    have hlt:(i:Int)<(L.length:Int):=by omega
    have hlN:i<L.length:=by omega
    have ha:=Ce x i (0,0,0,0,0) hi;generalize (A4 FR x m i).2=k at b1 b2 g ⊢;generalize x.getD i (0,0,0,0,0)=a at g ha ⊢;have e0:IntKind.i64.wrap (k+1)=k+1:=Cu (by omega) (by omega);have e1:IntKind.i64.wrap ((k+1)+1)=(k+1)+1:=Cu (by omega) (by omega);have e2:IntKind.i64.wrap (((k+1)+1)+1)=((k+1)+1)+1:=Cu (by omega) (by omega);have e3:IntKind.i64.wrap ((((k+1)+1)+1)+1)=(((k+1)+1)+1)+1:=Cu (by omega) (by omega);have e4:IntKind.i64.wrap (((((k+1)+1)+1)+1)+1)=((((k+1)+1)+1)+1)+1:=Cu (by omega) (by omega);simp only[AU,Ay,Al,AQ,LR,LM,BD,As,De,LP,AD,Ax,Ez,g,FR,e0,e1,e2,e3,e4];simp[hlt,hlN]
  . simp[As,Al,hL,AD]
 refine⟨hok,⟨up.1,by omega⟩,key.1,?_⟩;simp only[key.2];simp[Cn,As,Al,hL]
theorem cG(x:BM)(h:DI x)(m:Int)(h0:0<=m)(h1:m+7696586637312<=2305843009213693952):Lr x/\(m<=(AG x m).2/\(AG x m).2<=m+7696586637312)/\OS ((x.1,(AG x m).1.2.1,(AG x m).1.2.2.1,x.2.2.2.1,(AG x m).1.2.2.2.2.1,x.2.2.2.2.2),m)/\DD ((x.1,(AG x m).1.2.1,(AG x m).1.2.2.1,x.2.2.2.1,(AG x m).1.2.2.2.2.1,x.2.2.2.2.2),m)=(AG x m).2:=by
 unfold DI at h;obtain⟨k0,⟨p0,q0⟩,y0,z0⟩:=wV (x.1,x.2.1) h.1 m (by omega) (by omega)
 have t0:¬ (Eb (x.1,x.2.1) m).2<0:=by omega
 obtain⟨k1,⟨p1,q1⟩,y1,z1⟩:=xr x.2.2.1 h.2.1 (Eb (x.1,x.2.1) m).2 (by omega) (by omega)
 have t1:¬ (E8 x.2.2.1 (Eb (x.1,x.2.1) m).2).2<0:=by omega
 obtain⟨k2,⟨p2,q2⟩,y2,z2⟩:=yW x.2.2.2.2.1 h.2.2.1 (E8 x.2.2.1 (Eb (x.1,x.2.1) m).2).2 (by omega) (by omega)
 have t2:¬ (GV x.2.2.2.2.1 (E8 x.2.2.1 (Eb (x.1,x.2.1) m).2).2).2<0:=by omega
 have e:AG x m=((x.1,(Eb (x.1,x.2.1) m).1.2,(E8 x.2.2.1 (Eb (x.1,x.2.1) m).2).1,x.2.2.2.1,(GV x.2.2.2.2.1 (E8 x.2.2.1 (Eb (x.1,x.2.1) m).2).2).1,x.2.2.2.2.2.1,x.2.2.2.2.2.2),(GV x.2.2.2.2.1 (E8 x.2.2.1 (Eb (x.1,x.2.1) m).2).2).2):=by rw[Zr,Zx,Zk,Zn];rfl
 have hok:Lr x:=by rw[Zo];exact⟨trivial,⟨Cz h.1.1.1 (by decide),λ a ha=>⟨Cz (h.1.1.2 a ha).1 (by decide),λ a ha=>⟨trivial,trivial,trivial,trivial⟩⟩⟩,⟨Cz h.2.1.1 (by decide),λ a ha=>⟨Cz (h.2.1.2 a ha).1 (by decide),λ a ha=>⟨trivial,trivial,trivial⟩⟩⟩,trivial,⟨Cz h.2.2.1.1 (by decide),λ a ha=>⟨trivial,trivial,trivial,trivial,trivial⟩⟩,trivial,trivial⟩
 rw[e];refine⟨hok,⟨by simp only;omega,by simp only;omega⟩,?_,?_⟩
 . rw[kJ];simp[As,Cn,y0,z0,t0,y1,z1,t1,y2,z2,t2]
 . rw[kf];simp[As,Cn,y0,z0,t0,y1,z1,t1,y2,z2,t2]
end
end
end Go.Ag
