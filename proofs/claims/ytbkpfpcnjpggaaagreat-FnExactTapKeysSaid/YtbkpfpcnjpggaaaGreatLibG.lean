/- Part 7 of what FnExactTapKeys needs. No conditions. -/
import Derived.Test.YtbkpfpcnjpggaaaGreatLibF
namespace Go.Ag
set_option linter.unusedSimpArgs false
set_option linter.unusedVariables false
noncomputable section
section
set_option maxRecDepth 8000
def yQ:d5:=(A_ [1] 1 [O' 0 7 0,Q_ Ar] (.seq [1] (A_ [20,1] 5 [J' 0 1,K_ 0 2 5,I' I7 [6],P' 7,C_ 8,F' 9 (J' 2 1),F' 9 (J_ 0 10),F' 9 (L' 11),F' 9 (B_ (.bin .gtr 12 (.c (.int .i64 4)))),L_ 9 AU 13,C_ 14,F' 15 (J' 4 1),F' 15 (J_ 0 16),F' 15 (I' Et [17]),F' 15 (P' 18),L_ 15 AU 19] (.cond 20 (A_ [2] 2 [Q_ Ar] .ret) .skip)) (.seq [1] (A_ [3,1] 3 [E' 0] (.block 0 (.loop [1,3] 1 (.seq [3,1] (A_ [25,3,1] 21 [C_ 3,J' 2 1,J_ 0 22,L' 23,M' 21 24] (.cond 25 .skip (.exit 0))) (.seq [3,1] (.block 1 (A_ [34,3,1] 28 [J' 2 1,J_ 0 28,C_ 3,N_ 1 29 30,O_ 31,I' G3 [32],P' 33] (.cond 34 (A_ [2] 2 [Q_ Ar] .ret) .skip))) (At 26 [C_ 3,M_ 26 AD,G_ 3 (C_ 27)])))))) (.seq [1] (A_ [4,1] 4 [E' 0] (.block 2 (.loop [1,4] 1 (.seq [4,1] (A_ [39,4,1] 35 [C_ 4,J' 4 1,J_ 0 36,L' 37,M' 35 38] (.cond 39 .skip (.exit 2))) (.seq [4,1] (.block 3 (A_ [75,4,1] 42 [J' 4 1,G' (rg 1) (J_ 0 42),C_ 4,G' (rg 3) (N_ 5 43 44),G' (rg 4) (J' 0 45),G' (rg 5) (O_ 46),J' 0 1,G' [6] (J' 0 48),G' [6,7] (J_ 0 49),G' (rg 9) (B_ (.bin .geq 47 50)),G' (rg 10) (Q_ 51),F' 52 (G' [0,1,2,3,4,5,6,7,8,9,10] (I_ (.a false (.f5 4 1) none))),F' 52 (G' [0,1,2,3,4,5,6,7,8,9,10,11] (I_ (.a false (.d6 0 none 53) none))),F' 52 (G' [0,1,2,3,4,5,6,7,8,9,10] (I_ (.a false (.mv 4) none))),F' 52 (G' [0,1,2,3,4,5,6,7,8,9,10,11,12,13] (I_ (.a false (.m_ 5 54 55) none))),F' 52 (G' [0,1,2,3,4,5,6,7,8,9,10,11,12,13,14] (I_ (.a false (.f5 1 56) none))),F' 52 (G' [0,1,2,3,4,5,6,7,8,9,10,11,12,13,14,15] (I_ (.a false (.f5 0 57) none))),F' 52 (G' [0,1,2,3,4,5,6,7,8,9,10,11,12,13,14,15,16] (I_ (.a false (.g9 none 58) none))),F' 52 (G' [0,1,2,3,4,5,6,7,8,9,10,11,12,13,14,15,16,17] (I_ (.a false (.bin .neq 59 (.c (.int .i64 9))) none))),F' 52 (G' [0,1,2,3,4,5,6,7,8,9,10,11,12,13,14,15,16,17,18] (I_ (.a false (.mv 60) none))),F_ 61 (G' [0,1,2,3,4,5,6,7,8,9,10,11,12,13,14,15,16,17,18,19] (I_ (.a false (.f5 4 1) none))),F_ 61 (G' [0,1,2,3,4,5,6,7,8,9,10,11,12,13,14,15,16,17,18,19,20] (I_ (.a false (.d6 0 none 62) none))),F_ 61 (G' [0,1,2,3,4,5,6,7,8,9,10,11,12,13,14,15,16,17,18,19] (I_ (.a false (.mv 4) none))),F_ 61 (G' [0,1,2,3,4,5,6,7,8,9,10,11,12,13,14,15,16,17,18,19,20,21,22] (I_ (.a false (.m_ 5 63 64) none))),F_ 61 (G' [0,1,2,3,4,5,6,7,8,9,10,11,12,13,14,15,16,17,18,19,20,21,22,23] (I_ (.a false (.f5 1 65) none))),F_ 61 (G' [0,1,2,3,4,5,6,7,8,9,10,11,12,13,14,15,16,17,18,19,20,21,22,23,24] (I_ (.a false (.f5 3 66) none))),F_ 61 (G' [0,1,2,3,4,5,6,7,8,9,10,11,12,13,14,15,16,17,18,19,20,21,22,23,24,25] (I_ (.a false (.g9 none 67) none))),F_ 61 (G' [0,1,2,3,4,5,6,7,8,9,10,11,12,13,14,15,16,17,18,19] (I_ (.a false (.f5 0 1) none))),F_ 61 (G' [0,1,2,3,4,5,6,7,8,9,10,11,12,13,14,15,16,17,18,19,27] (I_ (.a false (.f5 1 69) none))),F_ 61 (G' [0,1,2,3,4,5,6,7,8,9,10,11,12,13,14,15,16,17,18,19,27,28] (I_ (.a false (.d6 0 none 70) none))),F_ 61 (G' [0,1,2,3,4,5,6,7,8,9,10,11,12,13,14,15,16,17,18,19,27,28,29] (I_ (.a false (.len 71) none))),F_ 61 (G' [0,1,2,3,4,5,6,7,8,9,10,11,12,13,14,15,16,17,18,19,20,21,22,23,24,25,26,27,28,29,30] (I_ (.a false (.bin .geq 68 72) none))),F' 52 (G' [0,1,2,3,4,5,6,7,8,9,10,11,12,13,14,15,16,17,18,19,20,21,22,23,24,25,26,27,28,29,30,31] (I_ (.a false (.pick 61 73 Ar) none))),G' (rg 33) (L_ 52 AU 74)] (.cond 75 (A_ [2] 2 [Q_ Ar] .ret) .skip))) (At 40 [C_ 4,M_ 40 AD,G_ 4 (C_ 41)])))))) (A_ [2] 76 [J' 3 1,G' (rg 1) (J_ 0 76),J' 0 1,G' [2] (J' 1 78),G' [2,3] (J_ 0 79),G' [2,3,4] (L' 80),G' [2,3,4,5] (B_ (.bin .shl AD 81)),G' [2,3,4,5,6] (B_ (.bin .sub 82 AD)),G' (rg 8) (I' B0 [77,AQ,83]),G' (rg 9) (Q_ 84),F_ 85 (G' [0,1,2,3,4,5,6,7,8,9] (I_ (.a false (.f5 3 1) none))),F_ 85 (G' [0,1,2,3,4,5,6,7,8,9,10] (I_ (.a false (.d6 0 none 86) none))),F_ 85 (G' [0,1,2,3,4,5,6,7,8,9,10,11] (I_ (.a false (.bin .rem 87 (.c (.int .i64 2))) none))),F_ 85 (G' [0,1,2,3,4,5,6,7,8,9,10,11,12] (I_ (.a false (.bin .eql 88 AQ) none))),G' (rg 14) (L_ 85 89 Ar),G' (rg 15) (Q_ 90),F_ 91 (G' [0,1,2,3,4,5,6,7,8,9,10,11,12,13,14,15] (I_ (.a false (.f5 5 1) none))),F_ 91 (G' [0,1,2,3,4,5,6,7,8,9,10,11,12,13,14,15,16] (I_ (.a false (.d6 0 none 92) none))),F_ 91 (G' [0,1,2,3,4,5,6,7,8,9,10,11,12,13,14,15,16,17] (I' B0 [93,AQ,(.c (.int .i64 15))])),G' (rg 19) (L_ 91 94 Ar),G_ 2 (G' (rg 20) (Q_ 95))] .ret)))))
def G2:Fn:=⟨⟨1,96,1,true,[.tmp 2],yQ⟩,[.agg [Av,(.Z_,.sl (.one (.sl Az))),(.Z_,.sl (.one (.sl AO))),Av,(.Z_,.sl AS),Av,(.Z_,.bool)]],.one (.one .own (.bool))⟩
theorem Z3:G2.A:=AK ⟨jc,Wx,jl,Gt,Gt,trivial⟩
def Gr:Bw->Bool:=G2.V
def PZ:Bw->Prop:=G2.O
theorem Z0:G2.B:=AM ⟨iL,Wr,jt,Gv,Gv,trivial⟩ (by kernel_rfl) (λx=>by kernel_rfl)
def yT:d5:=(A_ [1] 1 [O' 0 7 0,Q_ Ar] (.seq [1] (A_ [33,1] 8 [J' 0 1,K_ 0 2 8,I' K9 [9],P' 10,C_ 11,F' 12 (J' 2 1),F' 12 (J_ 0 13),F' 12 (L' 14),F' 12 (B_ (.bin .gtr 15 (.c (.int .i64 4)))),L_ 12 AU 16,C_ 17,F' 18 (J' 4 1),F' 18 (J_ 0 19),F' 18 (I' E7 [20]),F' 18 (P' 21),L_ 18 AU 22,C_ 23,F' 24 (J' 5 1),F' 24 (J_ 0 25),F' 24 (M' 26 AQ),L_ 24 AU 27,C_ 28,F' 29 (J' 5 1),F' 29 (J_ 0 30),F' 29 (B_ (.bin .gtr 31 (.c (.int .i64 15)))),L_ 29 AU 32] (.cond 33 (A_ [2] 2 [Q_ Ar] .ret) .skip)) (.seq [1] (A_ [37,36,35,1] 34 [J' 2 1,J_ 0 34,L' 35,E' 0] (.block 0 (.loop [1,35,36,37] 1 (A_ [38,37,36,35,1] 38 [M' 37 36] (.seq [37,36,35,1] (.cond 38 .skip (.exit 0)) (.seq [37,36,35,1] (.block 1 (A_ [37,36,35,4,1] 39 [N_ 1 35 37,O_ 39,G_ 4 (D_ 40)] (A_ [43,37,36,35,1] 41 [D_ 4,I' G4 [41],P' 42] (.cond 43 (A_ [2] 2 [Q_ Ar] .ret) .skip)))) (At 44 [M_ 37 AD,G_ 37 (C_ 44)]))))))) (A_ [5,1] 45 [J' 0 1,J' 1 45,J_ 0 46,L' 47,G_ 5 (C_ 48)] (.seq [5,1] (A_ [52,51,50,5,1] 49 [J' 4 1,J_ 0 49,L' 50,E' 0] (.block 2 (.loop [1,5,50,51,52] 1 (A_ [53,52,51,50,5,1] 53 [M' 52 51] (.seq [52,51,50,5,1] (.cond 53 .skip (.exit 2)) (.seq [52,51,50,5,1] (.block 3 (A_ [52,51,50,7,5,1] 54 [N_ 5 50 52,C' (.g9 (some 5) 54),G_ 7 (B_ (.d7 1 [Ab,Ab,Ab,Ab,Ab])),E_ (.U_ 1 5 7 55)] (A_ [74,52,51,50,5,1] 56 [J' 0 7,J_ 1 56,J' 0 1,J' 0 58,J_ 0 59,B_ (.bin .geq 57 60),C_ 61,F' 62 (J' 1 7),F' 62 (J' 0 63),F' 62 (J_ 1 64),F' 62 (N' 65 (.c (.int .i64 9))),F' 62 (Q_ 66),F_ 67 (J' 1 7),F_ 67 (J' 3 68),F_ 67 (J_ 1 69),F_ 67 (Q_ 5),F_ 67 (B_ (.bin .geq 70 71)),F' 62 (L_ 67 72 Ar),L_ 62 AU 73] (.cond 74 (A_ [2] 2 [Q_ Ar] .ret) .skip)))) (At 75 [M_ 52 AD,G_ 52 (C_ 75)]))))))) (A_ [2] 76 [J' 3 1,G' (rg 1) (J_ 0 76),G' (rg 2) (B_ (.bin .geq 77 AQ)),G' (rg 3) (Q_ 78),F_ 79 (G' [0,1,2,3] (I_ (.a false (.f5 3 1) none))),F_ 79 (G' [0,1,2,3,4] (I_ (.a false (.d6 0 none 80) none))),F_ 79 (G' [0,1,2,3,4,5] (I_ (.a false (.bin .rem 81 (.c (.int .i64 2))) none))),F_ 79 (G' [0,1,2,3,4,5,6] (I_ (.a false (.bin .eql 82 AQ) none))),G' (rg 8) (L_ 79 83 Ar),G' (rg 9) (Q_ 84),F_ 85 (G' [0,1,2,3,4,5,6,7,8,9] (I_ (.a false (.f5 3 1) none))),F_ 85 (G' [0,1,2,3,4,5,6,7,8,9,10] (I_ (.a false (.d6 0 none 86) none))),F_ 85 (G' [0,1,2,3,4,5,6,7,8,9] (I_ (.a false (.mv 5) none))),F_ 85 (G' [0,1,2,3,4,5,6,7,8,9,12] (I_ (.a false (.bin .shl AD 88) none))),F_ 85 (G' [0,1,2,3,4,5,6,7,8,9,10,11,12,13] (I_ (.a false (.bin .lss 87 89) none))),G' (rg 15) (L_ 85 90 Ar),G_ 2 (G' (rg 16) (Q_ 91))] .ret))))))
def IZ:Fn:=⟨⟨1,92,2,true,[.tmp 2],yT⟩,[.agg [Av,(.Z_,.sl (.one (.sl Az))),(.Z_,.sl (.one (.sl AO))),Av,(.Z_,.sl AS),Av,(.Z_,.bool)]],.one (.one .own (.bool))⟩
theorem iP:IZ.A:=AK ⟨yf,WE,jA,trivial⟩
def CG:Bw->Bool:=IZ.V
def P8:Bw->Prop:=IZ.O
theorem jh:IZ.B:=AM ⟨yF,Ws,jy,trivial⟩ (by kernel_rfl) (λx=>by kernel_rfl)
def Zaz:d5:=(A_ [2,1] 1 [O' 0 7 0,B_ (.d7 1 [Ab,.X_,.X_,Ab,.X_,Ab,CB])] (A_ [3,2,1] 5 [C' (.d6 0 (some 7) 1),G_ 3 (B_ (.d7 2 [Ab,.X_,.X_,Ab,.X_,Ab,CB])),E_ (.U_ 2 7 3 5)] (A_ [3,2,1] 6 [J' 0 1,K_ 0 2 6,I' Lx [7],J' 0 3,E_ (.U_ 2 2 9 8)] (A_ [3,2,1] 10 [Q' (.one (.sl AO)) (.d4 1 0 [] []),J' 2 3,E_ (.U_ 2 1 11 10)] (.seq [3,2,1] (A_ [4,3,2,1] 4 [E' 0] (.block 0 (.loop [1,2,3,4] 1 (.seq [4,3,2,1] (A_ [16,4,3,2,1] 12 [C_ 4,J' 2 1,J_ 0 13,L' 14,M' 12 15] (.cond 16 .skip (.exit 0))) (.seq [4,3,2,1] (.block 1 (.region [oa 0 19 (.f5 2 3),xB 1 20 (.d6 2 none 19) (rg 1),oa 3 22 (.f5 2 1),xA 4 23 (.d6 0 none 22) [3],om 5 24 4,xA 6 25 (.m_ 1 23 24) [3,4,5],xA 7 26 (.g9 none 25) [3,4,5,6],⟨2,some 21,.a false (.d4 3 0 [] []) (some AO),none,[]⟩,xA 8 27 (.app 3 21 26) [2,3,4,5,6,7],⟨9,some 28,.a false (.d4 1 1 [.X_] [(0,1,27)]) (some (.one (.sl AO))),none,[2,3,4,5,6,7,8]⟩,xA 10 29 (.app 1 20 28) (rg 10),xA 11 30 (.f5 2 3) (rg 11),xS 12 (.U_ 2 1 30 29) (rg 12)])) (At 17 [C_ 4,M_ 17 AD,G_ 4 (C_ 18)])))))) (A_ [3,2] 31 [Q' AS (.d4 5 0 [] []),J' 4 1,J_ 0 32,B_ (.app 5 31 33),J' 4 3,E_ (.U_ 2 1 35 34)] (A_ [2] 36 [C' (.d6 2 (some 7) 3),E_ (.U_ 1 7 2 36)] .ret)))))))
def G8:Fn:=⟨⟨1,37,3,false,[.cell 2 (some 7)],Zaz⟩,[.agg [Av,(.Z_,.sl (.one (.sl Az))),(.Z_,.sl (.one (.sl AO))),Av,(.Z_,.sl AS),Av,(.Z_,.bool)]],.one (.agg [AF,(.own,.sl (.one (.sl Az))),(.own,.sl (.one (.sl AO))),AF,(.own,.sl AS),AF,(.own,.bool)])⟩
theorem aC:G8.A:=AK ⟨Zbf,trivial⟩
def DQ:Bw->Int×Cz×CJ×Int×Bj×Int×Bool:=G8.V
def Qi:Bw->Prop:=G8.O
theorem aB:G8.B:=AM ⟨Za6,trivial⟩ (by kernel_rfl) (λx=>by kernel_rfl)
def uJ:d5:=(A_ [0] 2 [Q_ (.c .X_)] (A_ [3,0] 3 [Q_ (.c .X_)] (.seq [3] (A_ [8,7,6,3] 6 [D_ 0,L' 6,E' 0] (.block 0 (.loop [3,6,7,8] 1 (A_ [9,8,7,6,3] 9 [M' 8 7] (.seq [8,7,6,3] (.cond 9 .skip (.exit 0)) (.seq [8,7,6,3] (.block 1 (A_ [8,7,6,5,3] 10 [N_ 1 6 8,O_ 10,G_ 5 (D_ 11)] (At 12 [C_ 3,D_ 5,B_ (.app 3 (.c .X_) 13),Q' (.one (.sl AO)) (.d4 1 1 [.X_] [(0,1,14)]),B_ (.app 1 12 15),G_ 3 (C_ 16)]))) (At 17 [M_ 8 AD,G_ 8 (C_ 17)]))))))) (A_ [2] 18 [C_ 3,G_ 2 (C_ 18)] .ret))))
def IK:Fn:=⟨⟨1,19,0,false,[.tmp 2],uJ⟩,[.one .Z_ (.sl (.one (.sl AO)))],.one (.one .own (.sl (.one (.sl AO))))⟩
theorem gW:IK.A:=AK trivial
def Sb:CJ->List Cn:=IK.V
def RY:CJ->Prop:=IK.O
theorem hJ:IK.B:=AM trivial (by kernel_rfl) (λx=>by kernel_rfl)
def jg:ACode:=(.seq (.region [⟨0,some 4,.mv (.c (.int .i64 0)),none,[]⟩]) (.seq (.seq (.region [⟨0,some 5,.mv (.c (.int .i64 0)),none,[]⟩]) (.block 0 (.loop [0,1,5] (.seq (.seq (.region [⟨0,some 6,.mv (.t 5),none,[]⟩,⟨1,some 7,.mv (.t 0),none,[]⟩,⟨2,some 8,.len (.t 7),none,[]⟩,⟨3,some 9,.bin .lss (.t 6) (.t 8),none,[]⟩]) (.cond (.t 9) .skip (.exit 0))) (.seq (.block 1 (.seq (.region [⟨0,some 12,.mv (.t 0),none,[]⟩,⟨1,some 13,.mv (.t 5),none,[]⟩,⟨2,some 14,.mv (.t 1),none,[]⟩,⟨3,some 15,.m_ 3 (.t 12) (.t 13),none,[]⟩,⟨4,some 16,.f5 0 (.t 15),none,[]⟩,⟨5,none,.f6 1 (.t 16) (.t 14),none,[]⟩]) (.seq (.region [⟨0,some 17,.mv (.t 1),none,[]⟩,⟨1,some 18,.bin .add (.t 17) (.c (.int .i64 1)),none,[]⟩,⟨2,some 1,.mv (.t 18),none,[]⟩]) (.seq (.region [⟨0,some 19,.mv (.t 0),none,[]⟩,⟨1,some 20,.mv (.t 5),none,[]⟩,⟨2,some 21,.mv (.t 1),none,[]⟩,⟨3,some 22,.m_ 3 (.t 19) (.t 20),none,[]⟩,⟨4,some 23,.f5 1 (.t 22),none,[]⟩,⟨5,none,.f6 1 (.t 23) (.t 21),none,[]⟩]) (.seq (.region [⟨0,some 24,.mv (.t 1),none,[]⟩,⟨1,some 25,.bin .add (.t 24) (.c (.int .i64 1)),none,[]⟩,⟨2,some 1,.mv (.t 25),none,[]⟩]) (.seq (.region [⟨0,some 26,.mv (.t 0),none,[]⟩,⟨1,some 27,.mv (.t 5),none,[]⟩,⟨2,some 28,.mv (.t 1),none,[]⟩,⟨3,some 29,.m_ 3 (.t 26) (.t 27),none,[]⟩,⟨4,some 30,.f5 2 (.t 29),none,[]⟩,⟨5,none,.f6 1 (.t 30) (.t 28),none,[]⟩]) (.region [⟨0,some 31,.mv (.t 1),none,[]⟩,⟨1,some 32,.bin .add (.t 31) (.c (.int .i64 1)),none,[]⟩,⟨2,some 1,.mv (.t 32),none,[]⟩]))))))) (.region [⟨0,some 10,.mv (.t 5),none,[]⟩,⟨1,some 11,.bin .add (.t 10) (.c (.int .i64 1)),none,[]⟩,⟨2,some 5,.mv (.t 11),none,[]⟩])))))) (.seq (.region [⟨0,some 33,.mv (.t 1),none,[]⟩,⟨1,some 4,.mv (.t 33),none,[]⟩]) .ret)))
def Z9:AFun:=⟨2,34,0,false,[.tmp 4],jg⟩
@[irreducible] def P7:Bg:=ER Z9
@[irreducible] def GY(x:Cn)(m:Int):Cn×Int:=(shut λ(x:Cn) (m:Int)=>AV (RT.mkI AO) x m).1 x m
@[irreducible] def Vz(x:Cn):Prop:=(shut λ(x:Cn)=>CT.wl (.sl AO) x).1 x
theorem ib:GY=λx m=>AV (RT.mkI AO) x m:=by unfold GY;exact(shut _).2
theorem uz:Vz=λx=>CT.wl (.sl AO) x:=by unfold Vz;exact(shut _).2
theorem vV:SlC P7 AO:=by
 rintro h ω hd p l u m Q d9 hinj hM hQ;have G:=hM.len;have hlb:l.length<=9223372036854775807:=d9.1;unfold P7;refine J6 rfl ?_;unfold jg;simp only[go_sem,reduceIte,reduceCtorEq,Nat.reduceAdd,Nat.reduceBEq,Int.reduceLT,Int.reduceLE,Int.reduceGT,Int.reduceGE,Int.reduceBEq,Int.reduceBNe,Nat.reduceEqDiff,Nat.reduceLeDiff,Nat.reduceLT,G];refine M9 l.length (λi st=>∃h',st=⟨[u,.int .i64 (A8 (RT.mkI AO) l m i).2,.undef,.undef,.undef,.int .i64 (i:Int)]++EE 28,[],h'⟩/\x_ (GM ω hd p) h h'/\MS h' ω hd p AO (A8 (RT.mkI AO) l m i).1 u) ?_ ?_
 ·refine⟨h,?_,x_.refl _ _,hM⟩;simp only[MR,keep,Ns];rfl
 rintro i st next hi ⟨h1,rfl,M,t⟩ F
 by_cases x:i<l.length
 ·have J:decide ((i:Int)<(l.length:Int))=true:=FC (by omega);have hw:IntKind.i64.wrap ((i:Int)+1)=((i+1:Nat):Int):=(by rw[Mc (by omega)];omega);obtain⟨b,s⟩:=t.slice (by rw[FA];omega);rw[FA]at s;subst s;cases N:A8 (RT.mkI AO) l m i with
  |mk L g=>
  rw[N]at t;obtain⟨hLl,hs,j⟩:=Ou x N;have n:i<L.length:=(by omega);have q:=O5 d9 x;rw[<- j]at q;have Y:=MS.frame t n;clear j;generalize j:List.getD L i (RT.dflt AO)=x0 at Y hs q;clear j;have hx:=Na (b:=b) (w:=3) x (k:=.i64);simp only;obtain⟨U,C,o0,R1⟩:=MS.st Y n (off:=0) (by decide) (v:=(.int .i64 g)) rfl rfl (y:=((g,x0.2.1,x0.2.2):RT.D AO)) rfl hinj [];replace C:Ew [] h1 1 (.ptr b (i*3)) (.int .i64 g)=some (.undef,[],U):=C;obtain⟨R,A,o1,R2⟩:=MS.st R1 n (off:=1) (by decide) (v:=(.int .i64 (IntKind.i64.wrap (g+1)))) rfl rfl (y:=((g,(IntKind.i64.wrap (g+1)),x0.2.2):RT.D AO)) rfl hinj [];replace A:Ew [] U 1 (.ptr b (i*3+1)) (.int .i64 (IntKind.i64.wrap (g+1)))=some (.undef,[],R):=A;obtain⟨O,z,Z,R3⟩:=MS.st R2 n (off:=2) (by decide) (v:=(.int .i64 (IntKind.i64.wrap (IntKind.i64.wrap (g+1)+1)))) rfl rfl (y:=((g,(IntKind.i64.wrap (g+1)),(IntKind.i64.wrap (IntKind.i64.wrap (g+1)+1))):RT.D AO)) rfl hinj [];replace z:Ew [] R 1 (.ptr b (i*3+2)) (.int .i64 (IntKind.i64.wrap (IntKind.i64.wrap (g+1)+1)))=some (.undef,[],O):=z;simp only[go_sem,reduceIte,reduceCtorEq,Nat.reduceAdd,Nat.reduceBEq,Int.reduceLT,Int.reduceLE,Int.reduceGT,Int.reduceGE,Int.reduceBEq,Int.reduceBNe,Nat.reduceEqDiff,Nat.reduceLeDiff,Nat.reduceLT,G,J,hw,hx,C,A,z];exact F _ x ⟨O,by rw[hs];rfl,(x_.trans (x_.trans (x_.trans M o0) o1) Z),by rw[hs];exact R3⟩
 have J:decide ((i:Int)<(l.length:Int))=false:=C7 (by omega);have I:i=l.length:=by omega
 subst I;simp only[go_sem,reduceIte,reduceCtorEq,Nat.reduceAdd,Nat.reduceBEq,Int.reduceLT,Int.reduceLE,Int.reduceGT,Int.reduceGE,Int.reduceBEq,Int.reduceBNe,Nat.reduceEqDiff,Nat.reduceLeDiff,Nat.reduceLT,G,J];have e:=Hj (RT.mkI AO) l m;rw[e]at t ⊢;exact hQ h1 M t
def iq:ACode:=(.seq (.region [⟨0,some 4,.mv (.c (.int .i64 0)),none,[]⟩]) (.seq (.seq (.region [⟨0,some 5,.mv (.c (.int .i64 0)),none,[]⟩]) (.block 0 (.loop [0,1,5] (.seq (.seq (.region [⟨0,some 6,.mv (.t 5),none,[]⟩,⟨1,some 7,.mv (.t 0),none,[]⟩,⟨2,some 8,.len (.t 7),none,[]⟩,⟨3,some 9,.bin .lss (.t 6) (.t 8),none,[]⟩]) (.cond (.t 9) .skip (.exit 0))) (.seq (.block 1 (.region [⟨0,some 12,.mv (.t 0),none,[]⟩,⟨1,some 13,.mv (.t 5),none,[]⟩,⟨2,some 14,.m_ 1 (.t 12) (.t 13),none,[]⟩,⟨3,some 15,.g9 none (.t 14),none,[]⟩,⟨4,some 16,.mv (.t 1),none,[]⟩,⟨5,some 17,.call P7 [(.t 15),(.t 16)],none,[]⟩,⟨6,some 1,.mv (.t 17),none,[]⟩])) (.region [⟨0,some 10,.mv (.t 5),none,[]⟩,⟨1,some 11,.bin .add (.t 10) (.c (.int .i64 1)),none,[]⟩,⟨2,some 5,.mv (.t 11),none,[]⟩])))))) (.seq (.region [⟨0,some 18,.mv (.t 1),none,[]⟩,⟨1,some 4,.mv (.t 18),none,[]⟩]) .ret)))
def ZY:AFun:=⟨2,19,0,false,[.tmp 4],iq⟩
@[irreducible] def PU:Bg:=ER ZY
@[irreducible] def Gn(x:CJ)(m:Int):CJ×Int:=(shut λ(x:CJ) (m:Int)=>AV (RT.mkI (.one (.sl AO))) x m).1 x m
@[irreducible] def Vh(x:CJ):Prop:=(shut λ(x:CJ)=>CT.wl (.sl (.one (.sl AO))) x).1 x
theorem gK:Gn=λx m=>AV (RT.mkI (.one (.sl AO))) x m:=by unfold Gn;exact(shut _).2
theorem tQ:Vh=λx=>CT.wl (.sl (.one (.sl AO))) x:=by unfold Vh;exact(shut _).2
theorem vA:SlC PU (.one (.sl AO)):=by
 rintro h ω hd p l u m Q d9 hinj hM hQ;have y:=hM.len;have hlb:l.length<=9223372036854775807:=d9.1;unfold PU;refine J6 rfl ?_;unfold iq;simp only[go_sem,reduceIte,reduceCtorEq,Nat.reduceAdd,Nat.reduceBEq,Int.reduceLT,Int.reduceLE,Int.reduceGT,Int.reduceGE,Int.reduceBEq,Int.reduceBNe,Nat.reduceEqDiff,Nat.reduceLeDiff,Nat.reduceLT,y];refine M9 l.length (λi st=>∃h',st=⟨[u,.int .i64 (A8 (RT.mkI (.one (.sl AO))) l m i).2,.undef,.undef,.undef,.int .i64 (i:Int)]++EE 13,[],h'⟩/\x_ (GM ω hd p) h h'/\MS h' ω hd p (.one (.sl AO)) (A8 (RT.mkI (.one (.sl AO))) l m i).1 u) ?_ ?_
 ·refine⟨h,?_,x_.refl _ _,hM⟩;simp only[MR,keep,Ns];rfl
 rintro i st next hi ⟨h1,rfl,N,t⟩ C
 by_cases A:i<l.length
 ·have z:decide ((i:Int)<(l.length:Int))=true:=FC (by omega);have M:IntKind.i64.wrap ((i:Int)+1)=((i+1:Nat):Int):=(by rw[Mc (by omega)];omega);obtain⟨b,q⟩:=t.slice (by rw[FA];omega);rw[FA]at q;subst q;cases O:A8 (RT.mkI (.one (.sl AO))) l m i with
  |mk L I=>
  rw[O]at t;obtain⟨hLl,hs,g⟩:=Ou A O;have s:i<L.length:=(by omega);have j:=O5 d9 A;rw[<- g]at j;have U:=MS.frame t s;clear g;generalize g:List.getD L i (RT.dflt (.one (.sl AO)))=x0 at U hs j;clear g;have J:=Na (b:=b) (w:=1) A (k:=.i64);simp only;obtain⟨G,x,Y,f0⟩:=MS.sb U s (off:=0) (by decide) (r':=AO) (l':=x0) rfl;replace x:LS h1 none (.ptr b (i*1))=some G:=x;have n:=(MS.ok1 Y).1;simp only[go_sem,reduceIte,reduceCtorEq,Nat.reduceAdd,Nat.reduceBEq,Int.reduceLT,Int.reduceLE,Int.reduceGT,Int.reduceGE,Int.reduceBEq,Int.reduceBNe,Nat.reduceEqDiff,Nat.reduceLeDiff,Nat.reduceLT,y,z,M,J,x,n];refine Me (vV h1 ω hd _ x0 G I _ j hinj Y λR O0 N0=>?_);obtain⟨Z,R1⟩:=f0 R _ ((AV (RT.mkI AO) x0 I).1:RT.D (.one (.sl AO))) O0 N0 rfl;simp only[go_sem,reduceIte,reduceCtorEq,Nat.reduceAdd,Nat.reduceBEq,Int.reduceLT,Int.reduceLE,Int.reduceGT,Int.reduceGE,Int.reduceBEq,Int.reduceBNe,Nat.reduceEqDiff,Nat.reduceLeDiff,Nat.reduceLT,y,z,M,J,x,n];exact C _ A ⟨R,by rw[hs];rfl,(x_.trans N Z),by rw[hs];exact R1⟩
 have z:decide ((i:Int)<(l.length:Int))=false:=C7 (by omega);have F:i=l.length:=by omega
 subst F;simp only[go_sem,reduceIte,reduceCtorEq,Nat.reduceAdd,Nat.reduceBEq,Int.reduceLT,Int.reduceLE,Int.reduceGT,Int.reduceGE,Int.reduceBEq,Int.reduceBNe,Nat.reduceEqDiff,Nat.reduceLeDiff,Nat.reduceLT,y,z];have e:=Hj (RT.mkI (.one (.sl AO))) l m;rw[e]at t ⊢;exact hQ h1 N t
def jb:ACode:=(.seq (.region [⟨0,some 4,.mv (.c (.int .i64 0)),none,[]⟩]) (.seq (.seq (.region [⟨0,some 5,.mv (.c (.int .i64 0)),none,[]⟩]) (.block 0 (.loop [0,1,5] (.seq (.seq (.region [⟨0,some 6,.mv (.t 5),none,[]⟩,⟨1,some 7,.mv (.t 0),none,[]⟩,⟨2,some 8,.len (.t 7),none,[]⟩,⟨3,some 9,.bin .lss (.t 6) (.t 8),none,[]⟩]) (.cond (.t 9) .skip (.exit 0))) (.seq (.block 1 (.seq (.region [⟨0,some 12,.mv (.t 0),none,[]⟩,⟨1,some 13,.mv (.t 5),none,[]⟩,⟨2,some 14,.mv (.t 1),none,[]⟩,⟨3,some 15,.m_ 5 (.t 12) (.t 13),none,[]⟩,⟨4,some 16,.f5 0 (.t 15),none,[]⟩,⟨5,none,.f6 1 (.t 16) (.t 14),none,[]⟩]) (.seq (.region [⟨0,some 17,.mv (.t 1),none,[]⟩,⟨1,some 18,.bin .add (.t 17) (.c (.int .i64 1)),none,[]⟩,⟨2,some 1,.mv (.t 18),none,[]⟩]) (.seq (.region [⟨0,some 19,.mv (.t 0),none,[]⟩,⟨1,some 20,.mv (.t 5),none,[]⟩,⟨2,some 21,.mv (.t 1),none,[]⟩,⟨3,some 22,.m_ 5 (.t 19) (.t 20),none,[]⟩,⟨4,some 23,.f5 1 (.t 22),none,[]⟩,⟨5,some 24,.f5 0 (.t 23),none,[]⟩,⟨6,none,.f6 1 (.t 24) (.t 21),none,[]⟩]) (.seq (.region [⟨0,some 25,.mv (.t 1),none,[]⟩,⟨1,some 26,.bin .add (.t 25) (.c (.int .i64 1)),none,[]⟩,⟨2,some 1,.mv (.t 26),none,[]⟩]) (.seq (.region [⟨0,some 27,.mv (.t 0),none,[]⟩,⟨1,some 28,.mv (.t 5),none,[]⟩,⟨2,some 29,.mv (.t 1),none,[]⟩,⟨3,some 30,.m_ 5 (.t 27) (.t 28),none,[]⟩,⟨4,some 31,.f5 1 (.t 30),none,[]⟩,⟨5,some 32,.f5 1 (.t 31),none,[]⟩,⟨6,none,.f6 1 (.t 32) (.t 29),none,[]⟩]) (.seq (.region [⟨0,some 33,.mv (.t 1),none,[]⟩,⟨1,some 34,.bin .add (.t 33) (.c (.int .i64 1)),none,[]⟩,⟨2,some 1,.mv (.t 34),none,[]⟩]) (.seq (.region [⟨0,some 35,.mv (.t 0),none,[]⟩,⟨1,some 36,.mv (.t 5),none,[]⟩,⟨2,some 37,.mv (.t 1),none,[]⟩,⟨3,some 38,.m_ 5 (.t 35) (.t 36),none,[]⟩,⟨4,some 39,.f5 1 (.t 38),none,[]⟩,⟨5,some 40,.f5 2 (.t 39),none,[]⟩,⟨6,none,.f6 1 (.t 40) (.t 37),none,[]⟩]) (.seq (.region [⟨0,some 41,.mv (.t 1),none,[]⟩,⟨1,some 42,.bin .add (.t 41) (.c (.int .i64 1)),none,[]⟩,⟨2,some 1,.mv (.t 42),none,[]⟩]) (.seq (.region [⟨0,some 43,.mv (.t 0),none,[]⟩,⟨1,some 44,.mv (.t 5),none,[]⟩,⟨2,some 45,.mv (.t 1),none,[]⟩,⟨3,some 46,.m_ 5 (.t 43) (.t 44),none,[]⟩,⟨4,some 47,.f5 1 (.t 46),none,[]⟩,⟨5,some 48,.f5 3 (.t 47),none,[]⟩,⟨6,none,.f6 1 (.t 48) (.t 45),none,[]⟩]) (.region [⟨0,some 49,.mv (.t 1),none,[]⟩,⟨1,some 50,.bin .add (.t 49) (.c (.int .i64 1)),none,[]⟩,⟨2,some 1,.mv (.t 50),none,[]⟩]))))))))))) (.region [⟨0,some 10,.mv (.t 5),none,[]⟩,⟨1,some 11,.bin .add (.t 10) (.c (.int .i64 1)),none,[]⟩,⟨2,some 5,.mv (.t 11),none,[]⟩])))))) (.seq (.region [⟨0,some 51,.mv (.t 1),none,[]⟩,⟨1,some 4,.mv (.t 51),none,[]⟩]) .ret)))
def ah:AFun:=⟨2,52,0,false,[.tmp 4],jb⟩
@[irreducible] def P4:Bg:=ER ah
@[irreducible] def II(x:Bj)(m:Int):Bj×Int:=(shut λ(x:Bj) (m:Int)=>AV (RT.mkI AS) x m).1 x m
@[irreducible] def Vl(x:Bj):Prop:=(shut λ(x:Bj)=>CT.wl (.sl AS) x).1 x
theorem ic:II=λx m=>AV (RT.mkI AS) x m:=by unfold II;exact(shut _).2
theorem uY:Vl=λx=>CT.wl (.sl AS) x:=by unfold Vl;exact(shut _).2
theorem wo:SlC P4 AS:=by
 rintro h ω hd p l u m Q d9 hinj hM hQ;have J:=hM.len;have hlb:l.length<=9223372036854775807:=d9.1;unfold P4;refine J6 rfl ?_;unfold jb;simp only[go_sem,reduceIte,reduceCtorEq,Nat.reduceAdd,Nat.reduceBEq,Int.reduceLT,Int.reduceLE,Int.reduceGT,Int.reduceGE,Int.reduceBEq,Int.reduceBNe,Nat.reduceEqDiff,Nat.reduceLeDiff,Nat.reduceLT,J];refine M9 l.length (λi st=>∃h',st=⟨[u,.int .i64 (A8 (RT.mkI AS) l m i).2,.undef,.undef,.undef,.int .i64 (i:Int)]++EE 46,[],h'⟩/\x_ (GM ω hd p) h h'/\MS h' ω hd p AS (A8 (RT.mkI AS) l m i).1 u) ?_ ?_
 ·refine⟨h,?_,x_.refl _ _,hM⟩;simp only[MR,keep,Ns];rfl
 rintro i st next hi ⟨h1,rfl,O,t⟩ I
 by_cases x:i<l.length
 ·have N:decide ((i:Int)<(l.length:Int))=true:=FC (by omega);have hw:IntKind.i64.wrap ((i:Int)+1)=((i+1:Nat):Int):=(by rw[Mc (by omega)];omega);obtain⟨b,s⟩:=t.slice (by rw[FA];omega);rw[FA]at s;subst s;cases R:A8 (RT.mkI AS) l m i with
  |mk L g=>
  rw[R]at t;obtain⟨hLl,hs,n⟩:=Ou x R;have j:i<L.length:=(by omega);have q:=O5 d9 x;rw[<- n]at q;have R0:=MS.frame t j;clear n;generalize n:List.getD L i (RT.dflt AS)=x0 at R0 hs q;clear n;have hx:=Na (b:=b) (w:=5) x (k:=.i64);simp only;obtain⟨h2,G,o0,R1⟩:=MS.st R0 j (off:=0) (by decide) (v:=(.int .i64 g)) rfl rfl (y:=((g,x0.2.1,x0.2.2.1,x0.2.2.2.1,x0.2.2.2.2):RT.D AS)) rfl hinj [];replace G:Ew [] h1 1 (.ptr b (i*5)) (.int .i64 g)=some (.undef,[],h2):=G;obtain⟨h3,F,o1,R2⟩:=MS.st R1 j (off:=1) (by decide) (v:=(.int .i64 (IntKind.i64.wrap (g+1)))) rfl rfl (y:=((g,(IntKind.i64.wrap (g+1)),x0.2.2.1,x0.2.2.2.1,x0.2.2.2.2):RT.D AS)) rfl hinj [];replace F:Ew [] h2 1 (.ptr b (i*5+1)) (.int .i64 (IntKind.i64.wrap (g+1)))=some (.undef,[],h3):=F;obtain⟨Z,C,o2,R3⟩:=MS.st R2 j (off:=2) (by decide) (v:=(.int .i64 (IntKind.i64.wrap (IntKind.i64.wrap (g+1)+1)))) rfl rfl (y:=((g,(IntKind.i64.wrap (g+1)),(IntKind.i64.wrap (IntKind.i64.wrap (g+1)+1)),x0.2.2.2.1,x0.2.2.2.2):RT.D AS)) rfl hinj [];replace C:Ew [] h3 1 (.ptr b (i*5+1+1)) (.int .i64 (IntKind.i64.wrap (IntKind.i64.wrap (g+1)+1)))=some (.undef,[],Z):=C;obtain⟨Y,A,o3,R4⟩:=MS.st R3 j (off:=3) (by decide) (v:=(.int .i64 (IntKind.i64.wrap (IntKind.i64.wrap (IntKind.i64.wrap (g+1)+1)+1)))) rfl rfl (y:=((g,(IntKind.i64.wrap (g+1)),(IntKind.i64.wrap (IntKind.i64.wrap (g+1)+1)),(IntKind.i64.wrap (IntKind.i64.wrap (IntKind.i64.wrap (g+1)+1)+1)),x0.2.2.2.2):RT.D AS)) rfl hinj [];replace A:Ew [] Z 1 (.ptr b (i*5+1+2)) (.int .i64 (IntKind.i64.wrap (IntKind.i64.wrap (IntKind.i64.wrap (g+1)+1)+1)))=some (.undef,[],Y):=A;obtain⟨U,z,o4,R5⟩:=MS.st R4 j (off:=4) (by decide) (v:=(.int .i64 (IntKind.i64.wrap (IntKind.i64.wrap (IntKind.i64.wrap (IntKind.i64.wrap (g+1)+1)+1)+1)))) rfl rfl (y:=((g,(IntKind.i64.wrap (g+1)),(IntKind.i64.wrap (IntKind.i64.wrap (g+1)+1)),(IntKind.i64.wrap (IntKind.i64.wrap (IntKind.i64.wrap (g+1)+1)+1)),(IntKind.i64.wrap (IntKind.i64.wrap (IntKind.i64.wrap (IntKind.i64.wrap (g+1)+1)+1)+1))):RT.D AS)) rfl hinj [];replace z:Ew [] Y 1 (.ptr b (i*5+1+3)) (.int .i64 (IntKind.i64.wrap (IntKind.i64.wrap (IntKind.i64.wrap (IntKind.i64.wrap (g+1)+1)+1)+1)))=some (.undef,[],U):=z;simp only[go_sem,reduceIte,reduceCtorEq,Nat.reduceAdd,Nat.reduceBEq,Int.reduceLT,Int.reduceLE,Int.reduceGT,Int.reduceGE,Int.reduceBEq,Int.reduceBNe,Nat.reduceEqDiff,Nat.reduceLeDiff,Nat.reduceLT,J,N,hw,hx,G,F,C,A,z];exact I _ x ⟨U,by rw[hs];rfl,(x_.trans (x_.trans (x_.trans (x_.trans (x_.trans O o0) o1) o2) o3) o4),by rw[hs];exact R5⟩
 have N:decide ((i:Int)<(l.length:Int))=false:=C7 (by omega);have M:i=l.length:=by omega
 subst M;simp only[go_sem,reduceIte,reduceCtorEq,Nat.reduceAdd,Nat.reduceBEq,Int.reduceLT,Int.reduceLE,Int.reduceGT,Int.reduceGE,Int.reduceBEq,Int.reduceBNe,Nat.reduceEqDiff,Nat.reduceLeDiff,Nat.reduceLT,J,N];have e:=Hj (RT.mkI AS) l m;rw[e]at t ⊢;exact hQ h1 O t
def iD:ACode:=(.seq (.region [⟨0,some 2,.boxB 0 7 (.t 0),none,[]⟩,⟨1,some 4,.mv (.c (.int .i64 0)),none,[]⟩]) (.seq (.region [⟨0,some 5,.f5 0 (.t 2),none,[]⟩,⟨1,some 6,.d6 0 (some 2) (.t 5),none,[]⟩,⟨2,some 7,.mv (.t 1),none,[]⟩,⟨3,some 8,.call N4 [(.t 6),(.t 7)],none,[]⟩,⟨4,some 1,.mv (.t 8),none,[]⟩]) (.seq (.region [⟨0,some 9,.f5 2 (.t 2),none,[]⟩,⟨1,some 10,.d6 0 none (.t 9),none,[]⟩,⟨2,some 11,.mv (.t 1),none,[]⟩,⟨3,some 12,.call PU [(.t 10),(.t 11)],none,[]⟩,⟨4,some 1,.mv (.t 12),none,[]⟩]) (.seq (.region [⟨0,some 13,.f5 4 (.t 2),none,[]⟩,⟨1,some 14,.d6 0 none (.t 13),none,[]⟩,⟨2,some 15,.mv (.t 1),none,[]⟩,⟨3,some 16,.call P4 [(.t 14),(.t 15)],none,[]⟩,⟨4,some 1,.mv (.t 16),none,[]⟩]) (.seq (.region [⟨0,some 17,.mv (.t 1),none,[]⟩,⟨1,some 4,.mv (.t 17),none,[]⟩]) .ret)))))
def ZU:AFun:=⟨2,18,1,false,[.tmp 4],iD⟩
@[irreducible] def JU:Bg:=ER ZU
@[irreducible] def AR(x:Bw)(m:Int):Bw×Int:=(shut λ(x:Bw) (m:Int)=>RT.mkT (.cons (.int .i64) (.cons (.sl (.one (.sl Az))) (.cons (.sl (.one (.sl AO))) (.cons (.int .i64) (.cons (.sl AS) (.cons (.int .i64) (.one (.bool)))))))) x m).1 x m
@[irreducible] def NQ(x:Bw):Prop:=(shut λ(x:Bw)=>RT.wl (.cons (.int .i64) (.cons (.sl (.one (.sl Az))) (.cons (.sl (.one (.sl AO))) (.cons (.int .i64) (.cons (.sl AS) (.cons (.int .i64) (.one (.bool)))))))) x).1 x
theorem gO:AR=λx m=>RT.mkT (.cons (.int .i64) (.cons (.sl (.one (.sl Az))) (.cons (.sl (.one (.sl AO))) (.cons (.int .i64) (.cons (.sl AS) (.cons (.int .i64) (.one (.bool)))))))) x m:=by unfold AR;exact(shut _).2
theorem gN:NQ=λx=>RT.wl (.cons (.int .i64) (.cons (.sl (.one (.sl Az))) (.cons (.sl (.one (.sl AO))) (.cons (.int .i64) (.cons (.sl AS) (.cons (.int .i64) (.one (.bool)))))))) x:=by unfold NQ;exact(shut _).2
theorem ud:JD JU (gq (.cons (.int .i64) (.cons (.sl (.one (.sl Az))) (.cons (.sl (.one (.sl AO))) (.cons (.int .i64) (.cons (.sl AS) (.cons (.int .i64) (.one (.bool))))))))).P:=by
 rintro h ω hd P b AN us u m K Q hinj hu hl hr ⟨x,rfl,d9,hK⟩ hQ;have hu:u= .agg us:=hu;subst hu;show JU [.agg us,.int .i64 m] h Q;obtain⟨u0,u1,u2,u3,u4,u5,u6,rfl⟩:=Zk6 hl;have c0:RM h ω hd (P++[b+0]) (CT.enc (.int .i64) x.1) u0:=hr 0 (Gc (by decide));have c1:RM h ω hd (P++[b+1]) (CT.enc (.sl (.one (.sl Az))) x.2.1) u1:=hr 1 (Gc (by decide));have c2:RM h ω hd (P++[b+2]) (CT.enc (.sl (.one (.sl AO))) x.2.2.1) u2:=hr 2 (Gc (by decide));have c3:RM h ω hd (P++[b+3]) (CT.enc (.int .i64) x.2.2.2.1) u3:=hr 3 (Gc (by decide));have c4:RM h ω hd (P++[b+4]) (CT.enc (.sl AS) x.2.2.2.2.1) u4:=hr 4 (Gc (by decide));have c5:RM h ω hd (P++[b+5]) (CT.enc (.int .i64) x.2.2.2.2.2.1) u5:=hr 5 (Gc (by decide));have c6:RM h ω hd (P++[b+6]) (CT.enc (.bool) x.2.2.2.2.2.2) u6:=hr 6 (Gc (by decide));have e0:=c0.cellV rfl;have s:=c1.cellV rfl;have n:=c2.cellV rfl;have e3:=c3.cellV rfl;have e4:=c4.cellV rfl;have e5:=c5.cellV rfl;have e6:=c6.cellV rfl;have g1:=(RM.own1 c1).1;have z1:=(RM.own1 c1).2.2;have g2:=(RM.own1 c2).1;have z2:=(RM.own1 c2).2.2;have g4:=(RM.own1 c4).1;have z4:=(RM.own1 c4).2.2;unfold JU;refine J6 rfl ?_;unfold iD;simp only[go_sem,reduceIte,reduceCtorEq,Nat.reduceAdd,Nat.reduceBEq,Int.reduceLT,Int.reduceLE,Int.reduceGT,Int.reduceGE,Int.reduceBEq,Int.reduceBNe,Nat.reduceEqDiff,Nat.reduceLeDiff,Nat.reduceLT,e0,s,n,e3,e4,e5,e6,g1,g2,g4];refine Me (uC h ω hd P (b+0) (RT.enc (.cons (.int .i64) (.one (.sl (.one (.sl Az))))) ((x.1,x.2.1):RT.D (.cons (.int .i64) (.one (.sl (.one (.sl Az))))))) [u0,u1] _ m (λnn kk=>nn=RT.enc (.cons (.int .i64) (.one (.sl (.one (.sl Az))))) (RT.mkT (.cons (.int .i64) (.one (.sl (.one (.sl Az))))) ((x.1,x.2.1):RT.D (.cons (.int .i64) (.one (.sl (.one (.sl Az)))))) m).1/\kk=(RT.mkT (.cons (.int .i64) (.one (.sl (.one (.sl Az))))) ((x.1,x.2.1):RT.D (.cons (.int .i64) (.one (.sl (.one (.sl Az)))))) m).2) _ hinj rfl rfl (λc g=>?_) ⟨((x.1,x.2.1):RT.D (.cons (.int .i64) (.one (.sl (.one (.sl Az)))))),rfl,⟨d9.1,d9.2.1⟩,⟨rfl,rfl⟩⟩ λnews m' h1 hK0 hln0 t N0=>?_)
 ·have g:c<2:=g;rcases (show c=0\/c=1 by omega)with rfl|rfl
  ·exact c0
  exact c1
 obtain⟨rfl,rfl⟩:news=RT.enc (.cons (.int .i64) (.one (.sl (.one (.sl Az))))) (RT.mkT (.cons (.int .i64) (.one (.sl (.one (.sl Az))))) ((x.1,x.2.1):RT.D (.cons (.int .i64) (.one (.sl (.one (.sl Az)))))) m).1/\m'=(RT.mkT (.cons (.int .i64) (.one (.sl (.one (.sl Az))))) ((x.1,x.2.1):RT.D (.cons (.int .i64) (.one (.sl (.one (.sl Az)))))) m).2:=hK0;have N0_0:RM h1 ω hd (P++[b+0]) (CT.enc (.int .i64) ((RT.mkT (.cons (.int .i64) (.one (.sl (.one (.sl Az))))) ((x.1,x.2.1):RT.D (.cons (.int .i64) (.one (.sl (.one (.sl Az)))))) m).1.1)) u0:=N0 0 (Gc (by decide));have N0_1:RM h1 ω hd (P++[b+1]) (CT.enc (.sl (.one (.sl Az))) ((RT.mkT (.cons (.int .i64) (.one (.sl (.one (.sl Az))))) ((x.1,x.2.1):RT.D (.cons (.int .i64) (.one (.sl (.one (.sl Az)))))) m).1.2)) u1:=N0 1 (Gc (by decide));have P0:x_ (Zlt ω hd P b (RT.enc (.cons (.int .i64) (.cons (.sl (.one (.sl Az))) (.cons (.sl (.one (.sl AO))) (.cons (.int .i64) (.cons (.sl AS) (.cons (.int .i64) (.one (.bool)))))))) x)) h h1:=t.mono λl hs=>by
  obtain⟨c,es,q,g,s,n⟩:=hs;have g:c<2:=g;rcases (show c=0\/c=1 by omega)with rfl|rfl
  ·cases s
  exact⟨1,_,q,Gc (by decide),rfl,n⟩
 have b0_2:=RM.beside c2 t (λl hs=>by obtain⟨c,es,q,g,_,e⟩:=hs;have g:c<2:=g;exact⟨b+0+c,q,by omega,e⟩);have Z:=RM.beside c3 t (λl hs=>by obtain⟨c,es,q,g,_,e⟩:=hs;have g:c<2:=g;exact⟨b+0+c,q,by omega,e⟩);have Y:=RM.beside c4 t (λl hs=>by obtain⟨c,es,q,g,_,e⟩:=hs;have g:c<2:=g;exact⟨b+0+c,q,by omega,e⟩);have U:=RM.beside c5 t (λl hs=>by obtain⟨c,es,q,g,_,e⟩:=hs;have g:c<2:=g;exact⟨b+0+c,q,by omega,e⟩);have R:=RM.beside c6 t (λl hs=>by obtain⟨c,es,q,g,_,e⟩:=hs;have g:c<2:=g;exact⟨b+0+c,q,by omega,e⟩);simp only[go_sem,reduceIte,reduceCtorEq,Nat.reduceAdd,Nat.reduceBEq,Int.reduceLT,Int.reduceLE,Int.reduceGT,Int.reduceGE,Int.reduceBEq,Int.reduceBNe,Nat.reduceEqDiff,Nat.reduceLeDiff,Nat.reduceLT,e0,s,n,e3,e4,e5,e6,g1,g2,g4];refine Me (vA h1 ω hd (P++[b+2]) x.2.2.1 u2 ((RT.mkT (.cons (.int .i64) (.one (.sl (.one (.sl Az))))) ((x.1,x.2.1):RT.D (.cons (.int .i64) (.one (.sl (.one (.sl Az)))))) m).2) _ d9.2.2.1 hinj b0_2 λh2 j N1=>?_);replace N1:RM h2 ω hd (P++[b+2]) (CT.enc (.sl (.one (.sl AO))) (AV (RT.mkI (.one (.sl AO))) x.2.2.1 ((RT.mkT (.cons (.int .i64) (.one (.sl (.one (.sl Az))))) ((x.1,x.2.1):RT.D (.cons (.int .i64) (.one (.sl (.one (.sl Az)))))) m).2)).1) u2:=N1;have O:=RM.beside N0_0 j (λl hs=>by obtain⟨q,e⟩:=hs;exact⟨b+2,q,by omega,by rw[e];simp⟩);have N:=RM.beside N0_1 j (λl hs=>by obtain⟨q,e⟩:=hs;exact⟨b+2,q,by omega,by rw[e];simp⟩);have M:=RM.beside Z j (λl hs=>by obtain⟨q,e⟩:=hs;exact⟨b+2,q,by omega,by rw[e];simp⟩);have L:=RM.beside Y j (λl hs=>by obtain⟨q,e⟩:=hs;exact⟨b+2,q,by omega,by rw[e];simp⟩);have J:=RM.beside U j (λl hs=>by obtain⟨q,e⟩:=hs;exact⟨b+2,q,by omega,by rw[e];simp⟩);have I:=RM.beside R j (λl hs=>by obtain⟨q,e⟩:=hs;exact⟨b+2,q,by omega,by rw[e];simp⟩);simp only[go_sem,reduceIte,reduceCtorEq,Nat.reduceAdd,Nat.reduceBEq,Int.reduceLT,Int.reduceLE,Int.reduceGT,Int.reduceGE,Int.reduceBEq,Int.reduceBNe,Nat.reduceEqDiff,Nat.reduceLeDiff,Nat.reduceLT,e0,s,n,e3,e4,e5,e6,g1,g2,g4];refine Me (wo h2 ω hd (P++[b+4]) x.2.2.2.2.1 u4 ((AV (RT.mkI (.one (.sl AO))) x.2.2.1 ((RT.mkT (.cons (.int .i64) (.one (.sl (.one (.sl Az))))) ((x.1,x.2.1):RT.D (.cons (.int .i64) (.one (.sl (.one (.sl Az)))))) m).2)).2) _ d9.2.2.2.2.1 hinj L λh3 i N2=>?_);replace N2:RM h3 ω hd (P++[b+4]) (CT.enc (.sl AS) (AV (RT.mkI AS) x.2.2.2.2.1 ((AV (RT.mkI (.one (.sl AO))) x.2.2.1 ((RT.mkT (.cons (.int .i64) (.one (.sl (.one (.sl Az))))) ((x.1,x.2.1):RT.D (.cons (.int .i64) (.one (.sl (.one (.sl Az)))))) m).2)).2)).1) u4:=N2;have G:=RM.beside O i (λl hs=>by obtain⟨q,e⟩:=hs;exact⟨b+4,q,by omega,by rw[e];simp⟩);have F:=RM.beside N i (λl hs=>by obtain⟨q,e⟩:=hs;exact⟨b+4,q,by omega,by rw[e];simp⟩);have C:=RM.beside N1 i (λl hs=>by obtain⟨q,e⟩:=hs;exact⟨b+4,q,by omega,by rw[e];simp⟩);have A:=RM.beside M i (λl hs=>by obtain⟨q,e⟩:=hs;exact⟨b+4,q,by omega,by rw[e];simp⟩);have z:=RM.beside J i (λl hs=>by obtain⟨q,e⟩:=hs;exact⟨b+4,q,by omega,by rw[e];simp⟩);have y:=RM.beside I i (λl hs=>by obtain⟨q,e⟩:=hs;exact⟨b+4,q,by omega,by rw[e];simp⟩);simp only[go_sem,reduceIte,reduceCtorEq,Nat.reduceAdd,Nat.reduceBEq,Int.reduceLT,Int.reduceLE,Int.reduceGT,Int.reduceGE,Int.reduceBEq,Int.reduceBNe,Nat.reduceEqDiff,Nat.reduceLeDiff,Nat.reduceLT,e0,s,n,e3,e4,e5,e6,g1,g2,g4];refine hQ _ _ h3 hK rfl ((x_.trans (x_.trans P0 (x_.mono j λl hs=>by obtain⟨q,e⟩:=hs;exact⟨2,_,q,Gc (by decide),rfl,by rw[e];simp⟩)) (x_.mono i λl hs=>by obtain⟨q,e⟩:=hs;exact⟨4,_,q,Gc (by decide),rfl,by rw[e];simp⟩))) λc g=>?_;have g:c<7:=g;rcases (show c=0\/c=1\/c=2\/c=3\/c=4\/c=5\/c=6 by omega)with rfl|rfl|rfl|rfl|rfl|rfl|rfl
 ·exact G
 ·exact F
 ·exact C
 ·exact A
 ·exact N2
 ·exact z
 exact y
def VD:DMk:=⟨(.cons (.int .i64) (.cons (.sl (.one (.sl Az))) (.cons (.sl (.one (.sl AO))) (.cons (.int .i64) (.cons (.sl AS) (.cons (.int .i64) (.one (.bool)))))))),true,NQ,AR,false⟩
theorem gJ:JD JU (DMk.P VD):=by unfold VD;rw[gN,gO];exact ud
def wB:d5:=(A_ [1,0] 4 [E' 0] (.seq [1] (A_ [5,1,0] 5 [E' 0] (.block 0 (.loop [0,1,5] 1 (.seq [5,1,0] (A_ [9,5,1,0] 6 [C_ 5,D_ 0,L' 7,M' 6 8] (.cond 9 .skip (.exit 0))) (.seq [5,1,0] (.block 1 (.seq [5,1,0] (A_ [18,5,1,0] 12 [D_ 0,C_ 5,N_ 3 12 13,J' 0 14,O_ 15,C_ 1,N' 16 17] (.cond 18 (A_ [4] 4 [E' (-1)] .ret) .skip)) (A_ [5,1,0] 19 [C_ 1,M_ 19 AD,G_ 1 (C_ 20)] (.seq [5,1,0] (A_ [27,5,1,0] 21 [D_ 0,C_ 5,N_ 3 21 22,J' 1 23,O_ 24,C_ 1,N' 25 26] (.cond 27 (A_ [4] 4 [E' (-1)] .ret) .skip)) (A_ [5,1,0] 28 [C_ 1,M_ 28 AD,G_ 1 (C_ 29)] (.seq [5,1,0] (A_ [36,5,1,0] 30 [D_ 0,C_ 5,N_ 3 30 31,J' 2 32,O_ 33,C_ 1,N' 34 35] (.cond 36 (A_ [4] 4 [E' (-1)] .ret) .skip)) (At 37 [C_ 1,M_ 37 AD,G_ 1 (C_ 38)]))))))) (At 10 [C_ 5,M_ 10 AD,G_ 5 (C_ 11)])))))) (A_ [4] 39 [C_ 1,G_ 4 (C_ 39)] .ret)))
def K0:Fn:=⟨⟨2,40,0,true,[.tmp 4],wB⟩,[.one .Z_ (.sl AO),.one .Z_ (.int .i64)],.one (.one .own (.int .i64))⟩
theorem wF:K0.A:=AK trivial
def GZ:Mj->Int:=K0.V
def R9:Mj->Prop:=K0.O
theorem vG:K0.B:=AM trivial (by kernel_rfl) (λx=>by kernel_rfl)
def uo:d5:=(A_ [1,0] 4 [E' 0] (.seq [1] (A_ [5,1,0] 5 [E' 0] (.block 0 (.loop [0,1,5] 1 (.seq [5,1,0] (A_ [9,5,1,0] 6 [C_ 5,D_ 0,L' 7,M' 6 8] (.cond 9 .skip (.exit 0))) (.seq [5,1,0] (.block 1 (A_ [5,1,0] 12 [D_ 0,C_ 5,N_ 1 12 13,O_ 14,C_ 1,I' K0 [15,16],G_ 1 (C_ 17)] (A_ [19,5,1,0] 18 [C_ 1,M' 18 AQ] (.cond 19 (A_ [4] 4 [E' (-1)] .ret) .skip)))) (At 10 [C_ 5,M_ 10 AD,G_ 5 (C_ 11)])))))) (A_ [4] 20 [C_ 1,G_ 4 (C_ 20)] .ret)))
def KM:Fn:=⟨⟨2,21,0,true,[.tmp 4],uo⟩,[.one .Z_ (.sl (.one (.sl AO))),.one .Z_ (.int .i64)],.one (.one .own (.int .i64))⟩
theorem uP:KM.A:=AK ⟨wF,trivial⟩
def KN:HD->Int:=KM.V
def Vu:HD->Prop:=KM.O
theorem vB:KM.B:=AM ⟨vG,trivial⟩ (by kernel_rfl) (λx=>by kernel_rfl)
def vR:d5:=(A_ [1,0] 4 [E' 0] (.seq [1] (A_ [5,1,0] 5 [E' 0] (.block 0 (.loop [0,1,5] 1 (.seq [5,1,0] (A_ [9,5,1,0] 6 [C_ 5,D_ 0,L' 7,M' 6 8] (.cond 9 .skip (.exit 0))) (.seq [5,1,0] (.block 1 (.seq [5,1,0] (A_ [18,5,1,0] 12 [D_ 0,C_ 5,N_ 5 12 13,J' 0 14,O_ 15,C_ 1,N' 16 17] (.cond 18 (A_ [4] 4 [E' (-1)] .ret) .skip)) (A_ [5,1,0] 19 [C_ 1,M_ 19 AD,G_ 1 (C_ 20)] (.seq [5,1,0] (A_ [28,5,1,0] 21 [D_ 0,C_ 5,N_ 5 21 22,J' 1 23,J' 0 24,O_ 25,C_ 1,N' 26 27] (.cond 28 (A_ [4] 4 [E' (-1)] .ret) .skip)) (A_ [5,1,0] 29 [C_ 1,M_ 29 AD,G_ 1 (C_ 30)] (.seq [5,1,0] (A_ [38,5,1,0] 31 [D_ 0,C_ 5,N_ 5 31 32,J' 1 33,J' 1 34,O_ 35,C_ 1,N' 36 37] (.cond 38 (A_ [4] 4 [E' (-1)] .ret) .skip)) (A_ [5,1,0] 39 [C_ 1,M_ 39 AD,G_ 1 (C_ 40)] (.seq [5,1,0] (A_ [48,5,1,0] 41 [D_ 0,C_ 5,N_ 5 41 42,J' 1 43,J' 2 44,O_ 45,C_ 1,N' 46 47] (.cond 48 (A_ [4] 4 [E' (-1)] .ret) .skip)) (A_ [5,1,0] 49 [C_ 1,M_ 49 AD,G_ 1 (C_ 50)] (.seq [5,1,0] (A_ [58,5,1,0] 51 [D_ 0,C_ 5,N_ 5 51 52,J' 1 53,J' 3 54,O_ 55,C_ 1,N' 56 57] (.cond 58 (A_ [4] 4 [E' (-1)] .ret) .skip)) (At 59 [C_ 1,M_ 59 AD,G_ 1 (C_ 60)]))))))))))) (At 10 [C_ 5,M_ 10 AD,G_ 5 (C_ 11)])))))) (A_ [4] 61 [C_ 1,G_ 4 (C_ 61)] .ret)))
def KX:Fn:=⟨⟨2,62,0,true,[.tmp 4],vR⟩,[.one .Z_ (.sl AS),.one .Z_ (.int .i64)],.one (.one .own (.int .i64))⟩
theorem vS:KX.A:=AK trivial
def Sp:D5->Int:=KX.V
def VF:D5->Prop:=KX.O
theorem vU:KX.B:=AM trivial (by kernel_rfl) (λx=>by kernel_rfl)
def uD:d5:=(A_ [2,1] 2 [O' 0 7 0,G_ 4 (E' 0)] (A_ [2,1] 5 [J' 0 2,K_ 0 2 5,C_ 1,I' KQ [6,7],G_ 1 (C_ 8)] (.seq [2,1] (A_ [10,2,1] 9 [C_ 1,M' 9 AQ] (.cond 10 (A_ [4] 4 [E' (-1)] .ret) .skip)) (A_ [2,1] 11 [J' 2 2,J_ 0 11,C_ 1,I' KM [12,13],G_ 1 (C_ 14)] (.seq [2,1] (A_ [16,2,1] 15 [C_ 1,M' 15 AQ] (.cond 16 (A_ [4] 4 [E' (-1)] .ret) .skip)) (A_ [1] 17 [J' 4 2,J_ 0 17,C_ 1,I' KX [18,19],G_ 1 (C_ 20)] (.seq [1] (A_ [22,1] 21 [C_ 1,M' 21 AQ] (.cond 22 (A_ [4] 4 [E' (-1)] .ret) .skip)) (A_ [4] 23 [C_ 1,G_ 4 (C_ 23)] .ret))))))))
def IL:Fn:=⟨⟨2,24,1,true,[.tmp 4],uD⟩,[.agg [Av,(.Z_,.sl (.one (.sl Az))),(.Z_,.sl (.one (.sl AO))),Av,(.Z_,.sl AS),Av,(.Z_,.bool)],.one .Z_ (.int .i64)],.one (.one .own (.int .i64))⟩
theorem ia:IL.A:=AK ⟨vf,uP,vS,trivial⟩
def Eo:Gg->Int:=IL.V
def RR:Gg->Prop:=IL.O
theorem gY:IL.B:=AM ⟨uI,vB,vU,trivial⟩ (by kernel_rfl) (λx=>by kernel_rfl)
end
section
set_option maxRecDepth 100000
def NV(x:Bw)(x0:Int):Bool:=(W_ (b_ x0 (V' x.2.2.1)) (U' (U' (G5 (So x.2.2.1 (R_ x0) [])))))
def IG(x0:Int):Int:=(V_ .i64 x0 1)
def PJ(x:Bw)(x0:Int):Bool:=(W_ (b_ x0 (V' x.2.2.2.2.1)) (U' (t8 (iGe (So x.2.2.2.2.1 (R_ x0) (0,0,0,0,0)).1 x.1) (W_ (j_ (So x.2.2.2.2.1 (R_ x0) (0,0,0,0,0)).2.1 9) (iGe (So x.2.2.2.2.1 (R_ x0) (0,0,0,0,0)).2.2.2.2 (V' x.2.1))))))
def ZC(x:Bw)(x0:Int):Prop:=(((b_ x0 (V' x.2.2.1))=true->((((0:Int)<=x0)/\(x0<(((List.length x.2.2.1):Int))))/\(((R_ x0)<(List.length x.2.2.1))/\(Qa (So x.2.2.1 (R_ x0) [])))))/\((b_ x0 (V' x.2.2.1))=false->True))
def ZI(x:Bw)(x0:Int):Prop:=(((b_ x0 (V' x.2.2.2.2.1))=true->((((0:Int)<=x0)/\(x0<(((List.length x.2.2.2.2.1):Int))))/\(((R_ x0)<(List.length x.2.2.2.2.1))/\(((iGe (So x.2.2.2.2.1 (R_ x0) (0,0,0,0,0)).1 x.1)=true->True)/\((iGe (So x.2.2.2.2.1 (R_ x0) (0,0,0,0,0)).1 x.1)=false->((((0:Int)<=x0)/\(x0<(((List.length x.2.2.2.2.1):Int))))/\(((R_ x0)<(List.length x.2.2.2.2.1))/\(((j_ (So x.2.2.2.2.1 (R_ x0) (0,0,0,0,0)).2.1 9)=true->((((0:Int)<=x0)/\(x0<(((List.length x.2.2.2.2.1):Int))))/\((R_ x0)<(List.length x.2.2.2.2.1))))/\((j_ (So x.2.2.2.2.1 (R_ x0) (0,0,0,0,0)).2.1 9)=false->True)))))))))/\((b_ x0 (V' x.2.2.2.2.1))=false->True))
theorem ZnW(x:Bw)(f)(_:f=U' (G1 (x.1,x.2.1)))(g)(_:g=iGt (V' x.2.2.1) 4)(i)(_:i=x.2.2.2.2.1)(a)(_:a=t8 f (t8 g (U' (EM i))))(b)(_:b=iSub .i64 (iShl .i64 1 (V' x.2.1)) 1)(c)(_:c=b_ (Am (PJ x) IG 0) (V' i))(d)(_:d=b_ (Am (NV x) IG 0) (V' x.2.2.1))(e)(_:e=g_ (iRem x.2.2.2.1 2) 0)(h)(_:h=BU (x.2.2.2.1,0,b)):Gr x=W_ (U' a) (W_ (U' d) (W_ (U' c) (W_ h (W_ e (BU (x.2.2.2.2.2.1,0,15))))))/\PZ x=((Sl (x.1,x.2.1)/\(f=true->True)/\(f=false->(g=true->True)/\(g=false->Oe i)))/\(a=true->True)/\(a=false->a_ (NV x) IG (ZC x) 0/\(d=true->True)/\(d=false->a_ (PJ x) IG (ZI x) 0/\(c=true->True)/\(c=false->(0:Int)<=V' x.2.1/\Ek (x.2.2.2.1,0,b)/\(h=true->(2:Int)≠0/\(e=true->Ek (x.2.2.2.2.2.1,0,15))/\(e=false->True))/\(h=false->True))))):=by subst_vars;exact⟨(G2.v x).trans (by kernel_rfl),(G2.o x).trans (by kernel_rfl)⟩
abbrev yp:=λx=>(ZnW x _ rfl _ rfl _ rfl _ rfl _ rfl _ rfl _ rfl _ rfl _ rfl).1
abbrev xI:=λx=>(ZnW x _ rfl _ rfl _ rfl _ rfl _ rfl _ rfl _ rfl _ rfl _ rfl).2
def KJ(x:Bw)(x0:Int):Bool:=(W_ (b_ x0 (V' x.2.2.1)) (U' (U' (I8 (So x.2.2.1 (R_ x0) [])))))
def ID(x0:Int):Int:=(V_ .i64 x0 1)
def Mv(x:Bw)(x0:Int):Bool:=(W_ (b_ x0 (V' x.2.2.2.2.1)) (U' (t8 (iGe (So x.2.2.2.2.1 (R_ x0) (0,0,0,0,0)).1 x.1) (W_ (j_ (So x.2.2.2.2.1 (R_ x0) (0,0,0,0,0)).2.1 9) (iGe (So x.2.2.2.2.1 (R_ x0) (0,0,0,0,0)).2.2.2.2 (V' x.2.1))))))
def ZB(x:Bw)(x0:Int):Prop:=(((b_ x0 (V' x.2.2.1))=true->((((0:Int)<=x0)/\(x0<(((List.length x.2.2.1):Int))))/\(((R_ x0)<(List.length x.2.2.1))/\(Qc (So x.2.2.1 (R_ x0) [])))))/\((b_ x0 (V' x.2.2.1))=false->True))
def ZK(x:Bw)(x0:Int):Prop:=(((b_ x0 (V' x.2.2.2.2.1))=true->((((0:Int)<=x0)/\(x0<(((List.length x.2.2.2.2.1):Int))))/\((R_ x0)<(List.length x.2.2.2.2.1))))/\((b_ x0 (V' x.2.2.2.2.1))=false->True))
theorem ZnY(x:Bw)(e)(_:e=U' (Ei (x.1,x.2.1)))(f)(_:f=iGt (V' x.2.2.1) 4)(h)(_:h=x.2.2.2.2.1)(a)(_:a=t8 e (t8 f (t8 (U' (CC h)) (t8 (b_ x.2.2.2.2.2.1 0) (iGt x.2.2.2.2.2.1 15)))))(b)(_:b=b_ (Am (Mv x) ID 0) (V' h))(c)(_:c=b_ (Am (KJ x) ID 0) (V' x.2.2.1))(d)(_:d=g_ (iRem x.2.2.2.1 2) 0)(g)(_:g=iGe x.2.2.2.1 0):CG x=W_ (U' a) (W_ (U' c) (W_ (U' b) (W_ g (W_ d (b_ x.2.2.2.1 (iShl .i64 1 (V' x.2.1)))))))/\P8 x=((Ss (x.1,x.2.1)/\(e=true->True)/\(e=false->(f=true->True)/\(f=false->Oc h)))/\(a=true->True)/\(a=false->a_ (KJ x) ID (ZB x) 0/\(c=true->True)/\(c=false->a_ (Mv x) ID (ZK x) 0/\(b=true->True)/\(b=false->(g=true->(2:Int)≠0/\(d=true->(0:Int)<=V' x.2.1)/\(d=false->True))/\(g=false->True))))):=by subst_vars;exact⟨(IZ.v x).trans (by kernel_rfl),(IZ.o x).trans (by kernel_rfl)⟩
abbrev iX:=λx=>(ZnY x _ rfl _ rfl _ rfl _ rfl _ rfl _ rfl _ rfl _ rfl).1
abbrev xU:=λx=>(ZnY x _ rfl _ rfl _ rfl _ rfl _ rfl _ rfl _ rfl _ rfl).2
def VV(x:Bw)(x0:Int×CJ):Bool:=(b_ x0.1 (V' x.2.2.1))
def VK(x:Bw)(x0:Int×CJ):(Int×CJ):=((V_ .i64 x0.1 1),(i9 x0.2 [(i9 [] (So x.2.2.1 (R_ x0.1) []))]))
def Z1(x:Bw)(x0:Int×CJ):Prop:=(((b_ x0.1 (V' x.2.2.1))=true->((((0:Int)<=x0.1)/\(x0.1<(((List.length x.2.2.1):Int))))/\(((R_ x0.1)<(List.length x.2.2.1))/\((AE (((List.length ([]:List DD))+(List.length (So x.2.2.1 (R_ x0.1) [])))*3))/\(AE (((List.length x0.2)+(List.length [(i9 [] (So x.2.2.1 (R_ x0.1) []))]))*1))))))/\((b_ x0.1 (V' x.2.2.1))=false->True))
theorem ZaP(x):DQ x=((SX (x.1,x.2.1)).1,(SX (x.1,x.2.1)).2,(Am (VV x) (VK x) (0,[])).2,x.2.2.2.1,i9 [] x.2.2.2.2.1,x.2.2.2.2.2):=(G8.v x).trans (by kernel_rfl)
theorem Zby(x):Qi x=(WD (x.1,x.2.1)/\a_ (VV x) (VK x) (Z1 x) (0,[])/\AE ((List.length ([]:List Dk)+List.length x.2.2.2.2.1)*5)):=(G8.o x).trans (by kernel_rfl)
def Vd(x:CJ)(x0:HD):Bool:=(b_ x0.2 (V' x))
def Vb(x:CJ)(x0:HD):HD:=((i9 x0.1 [(So x (R_ x0.2) [])]),(V_ .i64 x0.2 1))
def Zy(x:CJ)(x0:HD):Prop:=(((b_ x0.2 (V' x))=true->((((0:Int)<=x0.2)/\(x0.2<(((List.length x):Int))))/\(((R_ x0.2)<(List.length x))/\((AE ((List.length (So x (R_ x0.2) []))*3))/\(AE (((List.length x0.1)+(List.length [(So x (R_ x0.2) [])]))*1))))))/\((b_ x0.2 (V' x))=false->True))
theorem uN(x):Sb x=(Am (Vd x) (Vb x) ([],0)).1:=(IK.v x).trans (by kernel_rfl)
theorem ug(x):RY x=a_ (Vd x) (Vb x) (Zy x) ([],0):=(IK.o x).trans (by kernel_rfl)
theorem Zn3(x:Mj)(c)(_:c=λ(x0:Au)=>So x.1 (R_ x0.2) (0,0,0))(f)(_:f=λ(x0:Au)=>j_ (c x0).2.1 (V_ .i64 x0.1 1))(i)(_:i=V' x.1)(b)(_:b=(λ(x0:Au)=>W_ (b_ x0.2 i) (W_ (U' (j_ (c x0).1 x0.1)) (W_ (U' (f x0)) (U' (j_ (c x0).2.2 (V_ .i64 (V_ .i64 x0.1 1) 1)))))))(e)(_:e=(λ(x0:Au)=>(V_ .i64 (V_ .i64 (V_ .i64 x0.1 1) 1) 1,V_ .i64 x0.2 1)))(a)(_:a=Am b e (x.2,0))(d)(_:d=List.length x.1)(g)(_:g=λ(x0:Au)=>(0:Int)<=x0.2/\x0.2<(d:Int))(h)(_:h=So x.1 (R_ a.2) (0,0,0)):GZ x=Z' (b_ a.2 i) (Z' (j_ h.1 a.1) (-1) (Z' (j_ h.2.1 (V_ .i64 a.1 1)) (-1) (-1))) a.1/\R9 x=a_ b e (λ(x0:Au)=>(b_ x0.2 i=true->g x0/\R_ x0.2<d/\(j_ (c x0).1 x0.1=true->True)/\(j_ (c x0).1 x0.1=false->g x0/\R_ x0.2<d/\(f x0=true->True)/\(f x0=false->g x0/\R_ x0.2<d)))/\(b_ x0.2 i=false->True)) (x.2,0):=by subst_vars;exact⟨(K0.v x).trans (by kernel_rfl),(K0.o x).trans (by kernel_rfl)⟩
abbrev vH:=λx=>(Zn3 x _ rfl _ rfl _ rfl _ rfl _ rfl _ rfl _ rfl _ rfl _ rfl).1
abbrev vJ:=λx=>(Zn3 x _ rfl _ rfl _ rfl _ rfl _ rfl _ rfl _ rfl _ rfl _ rfl).2
theorem Zn6(x:HD)(c)(_:c=V' x.1)(d)(_:d=λ(x0:Au)=>So x.1 (R_ x0.2) [])(a)(_:a=(λ(x0:Au)=>W_ (b_ x0.2 c) (U' (b_ (GZ (d x0,x0.1)) 0))))(b)(_:b=(λ(x0:Au)=>(GZ (d x0,x0.1),V_ .i64 x0.2 1)))(e)(_:e=List.length x.1)(f)(_:f=Am a b (x.2,0)):KN x=Z' (b_ f.2 c) (-1) f.1/\Vu x=a_ a b (λ(x0:Au)=>(b_ x0.2 c=true->((0:Int)<=x0.2/\x0.2<(e:Int))/\R_ x0.2<e/\R9 (d x0,x0.1))/\(b_ x0.2 c=false->True)) (x.2,0):=by subst_vars;exact⟨(KM.v x).trans (by kernel_rfl),(KM.o x).trans (by kernel_rfl)⟩
abbrev vg:=λx=>(Zn6 x _ rfl _ rfl _ rfl _ rfl _ rfl _ rfl).1
abbrev uX:=λx=>(Zn6 x _ rfl _ rfl _ rfl _ rfl _ rfl _ rfl).2
theorem Zn9(x:D5)(c)(_:c=λ(x0:Au)=>So x.1 (R_ x0.2) (0,0,0,0,0))(d)(_:d=λ(x0:Au)=>V_ .i64 (V_ .i64 x0.1 1) 1)(i)(_:i=λ(x0:Au)=>j_ (c x0).2.2.2.1 (V_ .i64 (d x0) 1))(j)(_:j=λ(x0:Au)=>j_ (c x0).2.1 (V_ .i64 x0.1 1))(l)(_:l=V' x.1)(m)(_:m=λ(x0:Au)=>j_ (c x0).2.2.1 (d x0))(b)(_:b=(λ(x0:Au)=>W_ (b_ x0.2 l) (W_ (U' (j_ (c x0).1 x0.1)) (W_ (U' (j x0)) (W_ (U' (m x0)) (W_ (U' (i x0)) (U' (j_ (c x0).2.2.2.2 (V_ .i64 (V_ .i64 (d x0) 1) 1)))))))))(g)(_:g=(λ(x0:Au)=>(V_ .i64 (V_ .i64 (V_ .i64 (d x0) 1) 1) 1,V_ .i64 x0.2 1)))(a)(_:a=Am b g (x.2,0))(e)(_:e=List.length x.1)(f)(_:f=So x.1 (R_ a.2) (0,0,0,0,0))(h)(_:h=λ(x0:Au)=>(0:Int)<=x0.2/\x0.2<(e:Int))(k)(_:k=V_ .i64 a.1 1):Sp x=Z' (b_ a.2 l) (Z' (j_ f.1 a.1) (-1) (Z' (j_ f.2.1 k) (-1) (Z' (j_ f.2.2.1 (V_ .i64 k 1)) (-1) (Z' (j_ f.2.2.2.1 (V_ .i64 (V_ .i64 k 1) 1)) (-1) (-1))))) a.1/\VF x=a_ b g (λ(x0:Au)=>(b_ x0.2 l=true->h x0/\R_ x0.2<e/\(j_ (c x0).1 x0.1=true->True)/\(j_ (c x0).1 x0.1=false->h x0/\R_ x0.2<e/\(j x0=true->True)/\(j x0=false->h x0/\R_ x0.2<e/\(m x0=true->True)/\(m x0=false->h x0/\R_ x0.2<e/\(i x0=true->True)/\(i x0=false->h x0/\R_ x0.2<e)))))/\(b_ x0.2 l=false->True)) (x.2,0):=by subst_vars;exact⟨(KX.v x).trans (by kernel_rfl),(KX.o x).trans (by kernel_rfl)⟩
abbrev wK:=λx=>(Zn9 x _ rfl _ rfl _ rfl _ rfl _ rfl _ rfl _ rfl _ rfl _ rfl _ rfl _ rfl _ rfl _ rfl).1
abbrev vN:=λx=>(Zn9 x _ rfl _ rfl _ rfl _ rfl _ rfl _ rfl _ rfl _ rfl _ rfl _ rfl _ rfl _ rfl _ rfl).2
theorem Zoc(x:Gg)(a)(_:a=GX ((x.1.1,x.1.2.1),x.2))(b)(_:b=KN (x.1.2.2.1,a))(c)(_:c=x.1.2.2.2.2.1)(d)(_:d=b_ a 0)(e)(_:e=b_ b 0):Eo x=Z' d (-1) (Z' e (-1) (Z' (b_ (Sp (c,b)) 0) (-1) (Sp (c,b))))/\RR x=(Vn ((x.1.1,x.1.2.1),x.2)/\(d=true->True)/\(d=false->Vu (x.1.2.2.1,a)/\(e=true->True)/\(e=false->VF (c,b)))):=by subst_vars;exact⟨(IL.v x).trans (by kernel_rfl),(IL.o x).trans (by kernel_rfl)⟩
abbrev uK:=λx=>(Zoc x _ rfl _ rfl _ rfl _ rfl _ rfl).1
abbrev vl:=λx=>(Zoc x _ rfl _ rfl _ rfl _ rfl _ rfl).2
attribute [irreducible] Gr PZ CG P8 DQ Qi Sb RY GZ R9 KN Vu Sp VF Eo RR
end
section
set_option maxRecDepth 8000
def xK:d5:=(A_ [4,1,0] 4 [B_ (.d7 0 [Ab,.X_])] (A_ [5,4,1] 12 [D_ 0,I' E3 [12],G_ 5 (B_ (.d7 1 [Ab,.X_])),E_ (.U_ 1 2 5 13)] (.seq [5,4,1] (A_ [6,5,4,1] 6 [E' 0] (.block 0 (.loop [1,4,5,6] 1 (.seq [6,5,4,1] (A_ [17,6,5,4,1] 14 [C_ 6,D_ 1,L' 15,M' 14 16] (.cond 17 .skip (.exit 0))) (.seq [6,5,4,1] (.block 1 (At 20 [J' 0 5,G' (rg 1) (J_ 1 20),D_ 1,C_ 6,G' [2,3] (N_ 5 22 23),G' [2,3,4] (J' 1 24),G' [2,3,4,5] (J' 2 25),G' [2,3,4,5,6] (O_ 26),G' (rg 8) (B_ (.bin .or 21 27)),G' (rg 9) (J' 0 5),G' (rg 10) (E_ (.U_ 1 1 29 28))])) (At 18 [C_ 6,M_ 18 AD,G_ 6 (C_ 19)])))))) (A_ [7,5,4,1] 30 [Q' (.one (.int .i64)) (.d4 1 0 [] []),G_ 7 (C_ 30)] (.seq [7,5,4] (A_ [8,7,5,4,1] 8 [E' 1] (.block 2 (.loop [1,4,5,7,8] 1 (.seq [8,7,5,4,1] (A_ [32,8,7,5,4,1] 31 [C_ 8,B_ (.bin .leq 31 (.c (.int .i64 56)))] (.cond 32 .skip (.exit 2))) (.seq [8,7,5,4,1] (.block 3 (A_ [9,8,7,5,4,1] 9 [Q_ Ar] (.seq [9,8,7,5,4,1] (A_ [10,9,8,7,5,4,1] 10 [E' 0] (.block 4 (.loop [1,4,5,7,8,9,10] 1 (.seq [10,9,8,7,5,4,1] (A_ [39,10,9,8,7,5,4,1] 35 [C_ 10,J' 1 5,J_ 1 36,L' 37,M' 35 38] (.cond 39 .skip (.exit 4))) (.seq [10,9,8,7,5,4,1] (.block 5 (At 42 [C_ 9,C_ 42,F' 43 (J' 1 5),F' 43 (J_ 1 44),F' 43 (Q_ 10),F' 43 (N_ 1 45 46),F' 43 (O_ 47),F' 43 (Q_ 8),F' 43 (Nm 48 49),L_ 43 AU 50,G_ 9 (C_ 51)])) (At 40 [C_ 10,M_ 40 AD,G_ 10 (C_ 41)])))))) (.seq [9,8,7,5,4,1] (A_ [11,9,8,7,5,4,1] 11 [E' 0] (.block 6 (.loop [1,4,5,7,8,9,11] 1 (.seq [11,9,8,7,5,4,1] (A_ [55,11,9,8,7,5,4,1] 52 [C_ 11,D_ 1,L' 53,M' 52 54] (.cond 55 .skip (.exit 6))) (.seq [11,9,8,7,5,4,1] (.block 7 (At 58 [C_ 9,C_ 58,F' 59 (I_ (.a true (.mv 1) none)),F' 59 (Q_ 11),F' 59 (N_ 5 60 61),F' 59 (J' 1 62),F' 59 (J' 1 63),F' 59 (O_ 64),F' 59 (Q_ 8),F' 59 (Nm 65 66),L_ 59 AU 67,G_ 9 (C_ 68)])) (At 56 [C_ 11,M_ 56 AD,G_ 11 (C_ 57)])))))) (A_ [69,8,7,5,4,1] 69 [C_ 9] (.cond 69 (At 70 [C_ 7,C_ 8,Q' (.one (.int .i64)) (.d4 1 1 [Ab] [(0,1,71)]),B_ (.app 1 70 72),G_ 7 (C_ 73)]) .skip)))))) (At 33 [C_ 8,M_ 33 AD,G_ 8 (C_ 34)])))))) (A_ [5,4] 74 [C_ 7,J' 1 5,E_ (.U_ 1 1 75 74)] (A_ [4] 76 [C' (.d6 1 (some 2) 5),E_ (.U_ 0 2 4 76)] .ret)))))))
def I0:Fn:=⟨⟨2,77,2,false,[.cell 4 (some 2)],xK⟩,[.one .Z_ (.sl AS),.one .Z_ (.sl AS)],.one (.agg [AF,(.own,.sl (.one (.int .i64)))])⟩
theorem iY:I0.A:=AK ⟨Sq,trivial⟩
def Fu:Ge->Int×List (Int):=I0.V
def P9:Ge->Prop:=I0.O
theorem iN:I0.B:=AM ⟨Sj,trivial⟩ (by kernel_rfl) (λx=>by kernel_rfl)
def tu:d5:=(A_ [1,0] 4 [Q_ (.c .X_)] (A_ [5,1,0] 9 [Q' (.cons (.int .i64) (.one (.sl (.one (.int .i64))))) (.d4 2 0 [] []),G_ 5 (C_ 9)] (A_ [6,5,1,0] 10 [Q' AS (.d4 5 0 [] []),G_ 6 (C_ 10)] (.seq [6,5,1,0] (A_ [18,6,5,1,0] 11 [D_ 0,I' Et [11],P' 12,C_ 13,F' 14 (I_ (.a true (.mv 1) none)),F' 14 (I' G3 [15]),F' 14 (P' 16),L_ 14 AU 17] (.cond 18 (A_ [4] 19 [C_ 5,G_ 4 (C_ 19)] .ret) .skip)) (.seq [5] (A_ [7,6,5,1,0] 7 [E' 0] (.block 0 (.loop [0,1,5,6,7] 1 (.seq [7,6,5,1,0] (A_ [23,7,6,5,1,0] 20 [C_ 7,D_ 1,L' 21,M' 20 22] (.cond 23 .skip (.exit 0))) (.seq [7,6,5,1,0] (.block 1 (A_ [8,7,6,5,1,0] 26 [D_ 1,C_ 7,N_ 3 26 27,C' (.g9 (some 3) 28),G_ 8 (B_ (.d7 0 [Ab,Ab,Ab])),E_ (.U_ 0 3 8 29)] (.seq [8,7,6,5,1,0] (A_ [32,8,7,6,5,1,0] 30 [J' 0 8,J_ 0 30,N' 31 (.c (.int .i64 2))] (.cond 32 (A_ [8,7,6,5,1,0] 33 [C_ 6,K_ 0 3 8,I' FT [34],B_ (.build [Ab,Ab,Ab,Ab,Ab] [(1,4,35)]),Q' AS (.d4 5 1 [Ab,Ab,Ab,Ab,Ab] [(0,5,36)]),B_ (.app 5 33 37),G_ 6 (C_ 38)] (At 39 [C_ 5,D_ 0,D_ 6,I' I0 [40,41],Q' (.cons (.int .i64) (.one (.sl (.one (.int .i64))))) (.d4 2 1 [Ab,.X_] [(0,2,42)]),B_ (.app 2 39 43),G_ 5 (C_ 44)])) .skip)) (A_ [47,8,7,6,5,1,0] 45 [J' 0 8,J_ 0 45,N' 46 AD] (.cond 47 (A_ [7,6,5,1,0] 48 [D_ 6,D_ 6,K_ 0 3 8,I' Je [49,50],I' G0 [48,51],G_ 6 (C_ 52)] (At 53 [C_ 5,D_ 0,D_ 6,I' I0 [54,55],Q' (.cons (.int .i64) (.one (.sl (.one (.int .i64))))) (.d4 2 1 [Ab,.X_] [(0,2,56)]),B_ (.app 2 53 57),G_ 5 (C_ 58)])) .skip))))) (At 24 [C_ 7,M_ 24 AD,G_ 7 (C_ 25)])))))) (A_ [4] 59 [C_ 5,G_ 4 (C_ 59)] .ret))))))
def KD:Fn:=⟨⟨2,60,1,false,[.tmp 4],tu⟩,[.one .Z_ (.sl AS),.one .Z_ (.sl AO)],.one (.one .own (.sl (.cons (.int .i64) (.one (.sl (.one (.int .i64)))))))⟩
theorem tz:KD.A:=AK ⟨Wx,jl,Z4,iY,j4,ZN,iY,trivial⟩
def GU:Ki->List BH:=KD.V
def RI:Ki->Prop:=KD.O
theorem ta:KD.B:=AM ⟨Wr,jt,aa,iN,j9,ZO,iN,trivial⟩ (by kernel_rfl) (λx=>by kernel_rfl)
def vY:d5:=(A_ [4,2,1] 2 [O' 0 2 0,G_ 4 (B_ (.d7 1 [Ab,.X_]))] (A_ [5,4,2,1] 9 [J' 0 2,C' (.d6 0 none 9),B_ (.build [Ab,.X_] [(0,1,10)]),G_ 5 (B_ (.d7 2 [Ab,.X_])),E_ (.U_ 2 2 5 11)] (A_ [6,5,4,1] 12 [J' 1 2,J_ 0 12,I' IX [13],G_ 6 (C_ 14)] (.seq [6,5,4] (A_ [17,16,15,6,5,4] 15 [D_ 1,L' 15,E' 0] (.block 0 (.loop [4,5,6,15,16,17] 1 (A_ [18,17,16,15,6,5,4] 18 [M' 17 16] (.seq [17,16,15,6,5,4] (.cond 18 .skip (.exit 0)) (.seq [17,16,15,6,5,4] (.block 1 (A_ [17,16,15,8,6,5,4] 19 [N_ 2 15 17,C' (.g9 (some 2) 19),G_ 8 (B_ (.d7 3 [Ab,Ab])),E_ (.U_ 3 2 8 20)] (A_ [17,16,15,8,6,5,4] 21 [J' 0 5,J_ 2 21,J' 1 8,J_ 3 23,B_ (.bin .or 22 24),J' 0 5,E_ (.U_ 2 1 26 25)] (At 27 [C_ 6,J' 0 8,C' (.d6 3 none 28),Q' (.one (.int .i64)) (.d4 1 1 [Ab] [(0,1,29)]),B_ (.app 1 27 30),G_ 6 (C_ 31)])))) (At 32 [M_ 17 AD,G_ 17 (C_ 32)]))))))) (A_ [5,4] 33 [D_ 6,I' Ja [33],J' 1 5,E_ (.U_ 2 1 35 34)] (A_ [4] 36 [C' (.d6 2 (some 2) 5),E_ (.U_ 1 2 4 36)] .ret))))))
def IU:Fn:=⟨⟨2,37,4,false,[.cell 4 (some 2)],vY⟩,[.agg [Av,(.Z_,.sl (.one (.int .i64)))],.one .Z_ (.sl (.cons (.int .i64) (.one (.int .i64))))],.one (.agg [AF,(.own,.sl (.one (.int .i64)))])⟩
theorem iG:IU.A:=AK ⟨jd,jJ,trivial⟩
def KY:Uv->Int×List (Int):=IU.V
def PQ:Uv->Prop:=IU.O
theorem iB:IU.B:=AM ⟨iS,jE,trivial⟩ (by kernel_rfl) (λx=>by kernel_rfl)
def tv:d5:=(A_ [1,0] 4 [Q_ (.c .X_)] (.seq [1,0] (A_ [19,1,0] 12 [D_ 0,I' E7 [12],P' 13,C_ 14,F' 15 (I_ (.a true (.mv 1) none)),F' 15 (I' G4 [16]),F' 15 (P' 17),L_ 15 AU 18] (.cond 19 (A_ [4] 4 [Q_ (.c .X_)] .ret) .skip)) (A_ [5,1] 20 [D_ 0,I' E1 [20],G_ 5 (B_ (.d7 0 [Ab,.X_])),E_ (.U_ 0 2 5 21)] (A_ [6,5,1] 6 [Q_ (.c .X_)] (A_ [7,6,5,1] 7 [I_ (.aw [(0,2)] false (.mv (.c .X_)) none)] (.seq [6] (A_ [24,23,22,7,6,5] 22 [D_ 1,L' 22,E' 0] (.block 0 (.loop [5,6,7,22,23,24] 1 (A_ [25,24,23,22,7,6,5] 25 [M' 24 23] (.seq [24,23,22,7,6,5] (.cond 25 .skip (.exit 0)) (.seq [24,23,22,7,6,5] (.block 1 (A_ [24,23,22,9,7,6,5] 26 [N_ 3 22 24,C' (.g9 (some 3) 26),G_ 9 (B_ (.d7 1 [Ab,Ab,Ab])),E_ (.U_ 1 3 9 27)] (A_ [24,23,22,10,9,7,6,5] 28 [J' 1 9,C' (.d6 1 none 28),J' 2 9,C' (.d6 1 none 30),B_ (.build [Ab,Ab] [(0,1,29),(1,1,31)]),G_ 10 (B_ (.d7 2 [Ab,Ab])),E_ (.U_ 2 2 10 32)] (.seq [24,23,22,7,6,5] (A_ [34,24,23,22,10,7,6,5] 33 [J' 0 9,J_ 1 33] (.block 2 (A_ [35,34,24,23,22,10,7,6,5] 36 [Nm 34 AQ,G_ 35 (C_ 36)] (.cond 35 (.regionU [om 0 37 6,oa 1 38 (.d6 0 (some 2) 5),on 2 39 7,ob 4 41 (.d6 2 (some 2) 10),⟨5,some 42,.a false (.d4 2 1 [Ab,Ab] [(0,2,41)]) (some (.cons (.int .i64) (.one (.int .i64)))),none,[4]⟩,xA 3 40 (.appN 2 (.c .X_) 39) [2],xA 6 43 (.app 2 40 42) [2,3,4,5],xF 7 44 IU [38,43] [1,2,3,4,5,6],⟨8,some 45,.a false (.d4 2 1 [Ab,.X_] [(0,2,44)]) (some (.cons (.int .i64) (.one (.sl (.one (.int .i64)))))),none,[1,2,3,4,5,6,7]⟩,xA 9 46 (.app 2 37 45) (rg 9),xA 10 6 (.mv 46) (rg 10)]) (A_ [47,34,24,23,22,10,7,6,5] 48 [Nm 34 AD,G_ 47 (C_ 48)] (.cond 47 (At 49 [C_ 7,C' (.d6 2 (some 2) 10),Q' (.cons (.int .i64) (.one (.int .i64))) (.d4 2 1 [Ab,Ab] [(0,2,50)]),I_ (.aw [(0,2)] false (.app 2 49 51) none),G_ 7 (I_ (.aw [(0,2)] false (.mv 52) none))]) (A_ [53,24,23,22,10,7,6,5] 54 [Nm 34 (.c (.int .i64 2)),G_ 53 (C_ 54)] (.cond 53 (A_ [24,23,22,11,7,6,5] 55 [D_ 7,K_ 2 2 10,I' Jf [55,56],G_ 11 (C_ 57)] (At 58 [D_ 7,C_ 11,G' (rg 2) (B_ (.slice 2 58 none (some 59))),D_ 7,C_ 11,G' [4] (M_ 62 AD),G' [3,4,5] (B_ (.slice 2 61 (some 63) none)),G' [0,1,2,3,4,5,6] (I_ (.aw [(0,2)] false (.app 2 60 64) none)),G_ 7 (G' [0,1,2,3,4,5,6,7] (I_ (.aw [(0,2)] false (.mv 65) none)))])) .skip)))))))) (At 66 [C_ 6,K_ 0 2 5,D_ 7,I' IU [67,68],Q' (.cons (.int .i64) (.one (.sl (.one (.int .i64))))) (.d4 2 1 [Ab,.X_] [(0,2,69)]),B_ (.app 2 66 70),G_ 6 (C_ 71)]))))) (At 72 [M_ 24 AD,G_ 24 (C_ 72)]))))))) (A_ [4] 73 [C_ 6,G_ 4 (C_ 73)] .ret)))))))
def KF:Fn:=⟨⟨2,74,3,false,[.tmp 4],tv⟩,[.one .Z_ (.sl AS),.one .Z_ (.sl AO)],.one (.one .own (.sl (.cons (.int .i64) (.one (.sl (.one (.int .i64)))))))⟩
theorem tn:KF.A:=AK ⟨WE,jA,Su,iG,j6,iG,trivial⟩
def RO:Ki->List BH:=KF.V
def RJ:Ki->Prop:=KF.O
theorem tC:KF.B:=AM ⟨Ws,jy,Sg,iB,j7,iB,trivial⟩ (by kernel_rfl) (λx=>by kernel_rfl)
end
section
set_option maxRecDepth 100000
def Vr(x:Ge)(x0:Au):Bool:=(b_ x0.1 (V' x.2))
def VA(x:Ge)(x0:Au):Au:=((V_ .i64 x0.1 1),(iOr .i64 x0.2 (So x.2 (R_ x0.1) (0,0,0,0,0)).2.2.2.1))
def PI(x0:DN):Bool:=(iLe x0.2 56)
def Mx(x:Ge)(b:NF):Bool:=(b_ b.2 (V' x.2))
def Mz(x:Ge)(x0:DN)(b:NF):NF:=((t8 b.1 (g_ (So x.2 (R_ b.2) (0,0,0,0,0)).2.2.1 x0.2)),(V_ .i64 b.2 1))
def JS(x:Ge)(b:NF):Bool:=(b_ b.2 (V' (Cb x.1).2))
def JT(x:Ge)(x0:DN)(b:NF):NF:=((t8 b.1 (g_ (So (Cb x.1).2 (R_ b.2) 0) x0.2)),(V_ .i64 b.2 1))
def RV(x:Ge)(x0:DN):DN:=((Z' (Am (Mx x) (Mz x x0) ((Am (JS x) (JT x x0) (false,0)).1,0)).1 (i9 x0.1 [x0.2]) x0.1),(V_ .i64 x0.2 1))
def ZH(x:Ge)(x0:Au):Prop:=(((b_ x0.1 (V' x.2))=true->((((0:Int)<=x0.1)/\(x0.1<(((List.length x.2):Int))))/\((R_ x0.1)<(List.length x.2))))/\((b_ x0.1 (V' x.2))=false->True))
def Vm(x:Ge)(b:NF):Prop:=(((b_ b.2 (V' (Cb x.1).2))=true->((b.1=true->True)/\(b.1=false->((((0:Int)<=b.2)/\(b.2<(((List.length (Cb x.1).2):Int))))/\((R_ b.2)<(List.length (Cb x.1).2))))))/\((b_ b.2 (V' (Cb x.1).2))=false->True))
def Vt(x:Ge)(b:NF):Prop:=(((b_ b.2 (V' x.2))=true->((b.1=true->True)/\(b.1=false->((((0:Int)<=b.2)/\(b.2<(((List.length x.2):Int))))/\((R_ b.2)<(List.length x.2))))))/\((b_ b.2 (V' x.2))=false->True))
def gX(x:Ge)(x0:DN):Prop:=(((iLe x0.2 56)=true->((a_ (JS x) (JT x x0) (Vm x) (false,0))/\((a_ (Mx x) (Mz x x0) (Vt x) ((Am (JS x) (JT x x0) (false,0)).1,0))/\(((Am (Mx x) (Mz x x0) ((Am (JS x) (JT x x0) (false,0)).1,0)).1=true->(AE (((List.length x0.1)+(List.length [x0.2]))*1)))/\((Am (Mx x) (Mz x x0) ((Am (JS x) (JT x x0) (false,0)).1,0)).1=false->True)))))/\((iLe x0.2 56)=false->True))
theorem yg(x):Fu x=((Am (Vr x) (VA x) (0,(Cb x.1).1)).2,(Am PI (RV x) ([],1)).1):=(I0.v x).trans (by kernel_rfl)
theorem y6(x):P9 x=(MD x.1/\a_ (Vr x) (VA x) (ZH x) (0,(Cb x.1).1)/\a_ PI (RV x) (gX x) ([],1)):=(I0.o x).trans (by kernel_rfl)
def PD(x:Ki)(x0:BQ×D5):Bool:=(b_ x0.2.2 (V' x.2))
def U3(x:Ki)(x0:BQ×D5):(BQ×D5):=((Z' (j_ (So x.2 (R_ x0.2.2) (0,0,0)).1 1) (i9 (Z' (j_ (So x.2 (R_ x0.2.2) (0,0,0)).1 2) (i9 x0.1 [(Fu (x.1,(i9 x0.2.1 [(0,(Bi (So x.2 (R_ x0.2.2) (0,0,0))))])))]) x0.1) [(Fu (x.1,(Dw ((Z' (j_ (So x.2 (R_ x0.2.2) (0,0,0)).1 2) (i9 x0.2.1 [(0,(Bi (So x.2 (R_ x0.2.2) (0,0,0))))]) x0.2.1),(CV ((Z' (j_ (So x.2 (R_ x0.2.2) (0,0,0)).1 2) (i9 x0.2.1 [(0,(Bi (So x.2 (R_ x0.2.2) (0,0,0))))]) x0.2.1),(So x.2 (R_ x0.2.2) (0,0,0))))))))]) (Z' (j_ (So x.2 (R_ x0.2.2) (0,0,0)).1 2) (i9 x0.1 [(Fu (x.1,(i9 x0.2.1 [(0,(Bi (So x.2 (R_ x0.2.2) (0,0,0))))])))]) x0.1)),(Z' (j_ (So x.2 (R_ x0.2.2) (0,0,0)).1 1) (Dw ((Z' (j_ (So x.2 (R_ x0.2.2) (0,0,0)).1 2) (i9 x0.2.1 [(0,(Bi (So x.2 (R_ x0.2.2) (0,0,0))))]) x0.2.1),(CV ((Z' (j_ (So x.2 (R_ x0.2.2) (0,0,0)).1 2) (i9 x0.2.1 [(0,(Bi (So x.2 (R_ x0.2.2) (0,0,0))))]) x0.2.1),(So x.2 (R_ x0.2.2) (0,0,0)))))) (Z' (j_ (So x.2 (R_ x0.2.2) (0,0,0)).1 2) (i9 x0.2.1 [(0,(Bi (So x.2 (R_ x0.2.2) (0,0,0))))]) x0.2.1)),(V_ .i64 x0.2.2 1))
def U7(x:Ki)(x0:BQ×D5):Prop:=(((b_ x0.2.2 (V' x.2))=true->((((0:Int)<=x0.2.2)/\(x0.2.2<(((List.length x.2):Int))))/\(((R_ x0.2.2)<(List.length x.2))/\((((j_ (So x.2 (R_ x0.2.2) (0,0,0)).1 2)=true->((Sr (So x.2 (R_ x0.2.2) (0,0,0)))/\((AE (((List.length x0.2.1)+(List.length [(0,(Bi (So x.2 (R_ x0.2.2) (0,0,0))))]))*5))/\((P9 (x.1,(i9 x0.2.1 [(0,(Bi (So x.2 (R_ x0.2.2) (0,0,0))))])))/\(AE (((List.length x0.1)+(List.length [(Fu (x.1,(i9 x0.2.1 [(0,(Bi (So x.2 (R_ x0.2.2) (0,0,0))))])))]))*2))))))/\((j_ (So x.2 (R_ x0.2.2) (0,0,0)).1 2)=false->True))/\(((j_ (So x.2 (R_ x0.2.2) (0,0,0)).1 1)=true->((Of ((Z' (j_ (So x.2 (R_ x0.2.2) (0,0,0)).1 2) (i9 x0.2.1 [(0,(Bi (So x.2 (R_ x0.2.2) (0,0,0))))]) x0.2.1),(So x.2 (R_ x0.2.2) (0,0,0))))/\((N3 ((Z' (j_ (So x.2 (R_ x0.2.2) (0,0,0)).1 2) (i9 x0.2.1 [(0,(Bi (So x.2 (R_ x0.2.2) (0,0,0))))]) x0.2.1),(CV ((Z' (j_ (So x.2 (R_ x0.2.2) (0,0,0)).1 2) (i9 x0.2.1 [(0,(Bi (So x.2 (R_ x0.2.2) (0,0,0))))]) x0.2.1),(So x.2 (R_ x0.2.2) (0,0,0))))))/\((P9 (x.1,(Dw ((Z' (j_ (So x.2 (R_ x0.2.2) (0,0,0)).1 2) (i9 x0.2.1 [(0,(Bi (So x.2 (R_ x0.2.2) (0,0,0))))]) x0.2.1),(CV ((Z' (j_ (So x.2 (R_ x0.2.2) (0,0,0)).1 2) (i9 x0.2.1 [(0,(Bi (So x.2 (R_ x0.2.2) (0,0,0))))]) x0.2.1),(So x.2 (R_ x0.2.2) (0,0,0))))))))/\(AE (((List.length (Z' (j_ (So x.2 (R_ x0.2.2) (0,0,0)).1 2) (i9 x0.1 [(Fu (x.1,(i9 x0.2.1 [(0,(Bi (So x.2 (R_ x0.2.2) (0,0,0))))])))]) x0.1))+(List.length [(Fu (x.1,(Dw ((Z' (j_ (So x.2 (R_ x0.2.2) (0,0,0)).1 2) (i9 x0.2.1 [(0,(Bi (So x.2 (R_ x0.2.2) (0,0,0))))]) x0.2.1),(CV ((Z' (j_ (So x.2 (R_ x0.2.2) (0,0,0)).1 2) (i9 x0.2.1 [(0,(Bi (So x.2 (R_ x0.2.2) (0,0,0))))]) x0.2.1),(So x.2 (R_ x0.2.2) (0,0,0))))))))]))*2))))))/\((j_ (So x.2 (R_ x0.2.2) (0,0,0)).1 1)=false->True))))))/\((b_ x0.2.2 (V' x.2))=false->True))
theorem tl(x):GU x=Z' (t8 (U' (EM x.1)) (U' (G5 x.2))) [] (Am (PD x) (U3 x) ([],[],0)).1:=(KD.v x).trans (by kernel_rfl)
theorem tx(x):RI x=((Oe x.1/\(U' (EM x.1)=true->True)/\(U' (EM x.1)=false->Qa x.2))/\(t8 (U' (EM x.1)) (U' (G5 x.2))=true->True)/\(t8 (U' (EM x.1)) (U' (G5 x.2))=false->a_ (PD x) (U3 x) (U7 x) ([],[],0))):=(KD.o x).trans (by kernel_rfl)
def NP(x:Uv)(x0:Nz):Bool:=(b_ x0.2.1 (V' x.2))
def PH(x:Uv)(x0:Nz):Nz:=((i9 x0.1 [(So x.2 (R_ x0.2.1) (0,0)).1]),(V_ .i64 x0.2.1 1),(iOr .i64 x0.2.2 (So x.2 (R_ x0.2.1) (0,0)).2))
def Vj(x:Uv)(x0:Nz):Prop:=(((b_ x0.2.1 (V' x.2))=true->((((0:Int)<=x0.2.1)/\(x0.2.1<(((List.length x.2):Int))))/\(((R_ x0.2.1)<(List.length x.2))/\(AE (((List.length x0.1)+(List.length [(So x.2 (R_ x0.2.1) (0,0)).1]))*1)))))/\((b_ x0.2.1 (V' x.2))=false->True))
theorem vX(x):KY x=((Am (NP x) (PH x) (Dg x.1.2,0,x.1.1)).2.2,MI (Am (NP x) (PH x) (Dg x.1.2,0,x.1.1)).1):=(IU.v x).trans (by kernel_rfl)
theorem wc(x):PQ x=(Sm x.1.2/\a_ (NP x) (PH x) (Vj x) (Dg x.1.2,0,x.1.1)/\SJ (Am (NP x) (PH x) (Dg x.1.2,0,x.1.1)).1):=(IU.o x).trans (by kernel_rfl)
def U6(x:Ki)(x0:BQ×JF):Bool:=(b_ x0.2.2 (V' x.2))
def U2(x:Ki)(x0:BQ×JF):(BQ×JF):=((i9 (Z' (g_ (So x.2 (R_ x0.2.2) (0,0,0)).1 0) (i9 x0.1 [(KY ((B8 x.1),(i9 x0.2.1 [(So x.2 (R_ x0.2.2) (0,0,0)).2])))]) x0.1) [(KY ((B8 x.1),(Z' (g_ (So x.2 (R_ x0.2.2) (0,0,0)).1 0) x0.2.1 (Z' (g_ (So x.2 (R_ x0.2.2) (0,0,0)).1 1) (i9 x0.2.1 [(So x.2 (R_ x0.2.2) (0,0,0)).2]) (Z' (g_ (So x.2 (R_ x0.2.2) (0,0,0)).1 2) (i9 (lTake x0.2.1 (lN (lSub x0.2.1 0 (R_ (Bt (x0.2.1,(So x.2 (R_ x0.2.2) (0,0,0)).2)))))) (lSub x0.2.1 (R_ (V_ .i64 (Bt (x0.2.1,(So x.2 (R_ x0.2.2) (0,0,0)).2)) 1)) (lN x0.2.1))) x0.2.1)))))]),(Z' (g_ (So x.2 (R_ x0.2.2) (0,0,0)).1 0) x0.2.1 (Z' (g_ (So x.2 (R_ x0.2.2) (0,0,0)).1 1) (i9 x0.2.1 [(So x.2 (R_ x0.2.2) (0,0,0)).2]) (Z' (g_ (So x.2 (R_ x0.2.2) (0,0,0)).1 2) (i9 (lTake x0.2.1 (lN (lSub x0.2.1 0 (R_ (Bt (x0.2.1,(So x.2 (R_ x0.2.2) (0,0,0)).2)))))) (lSub x0.2.1 (R_ (V_ .i64 (Bt (x0.2.1,(So x.2 (R_ x0.2.2) (0,0,0)).2)) 1)) (lN x0.2.1))) x0.2.1))),(V_ .i64 x0.2.2 1))
def U4(x:Ki)(x0:BQ×JF):Prop:=(((b_ x0.2.2 (V' x.2))=true->((((0:Int)<=x0.2.2)/\(x0.2.2<(((List.length x.2):Int))))/\(((R_ x0.2.2)<(List.length x.2))/\((((g_ (So x.2 (R_ x0.2.2) (0,0,0)).1 0)=true->((AE ((List.length x0.2.1)*2))/\((AE (((List.length x0.2.1)+(List.length [(So x.2 (R_ x0.2.2) (0,0,0)).2]))*2))/\((PQ ((B8 x.1),(i9 x0.2.1 [(So x.2 (R_ x0.2.2) (0,0,0)).2])))/\(AE (((List.length x0.1)+(List.length [(KY ((B8 x.1),(i9 x0.2.1 [(So x.2 (R_ x0.2.2) (0,0,0)).2])))]))*2))))))/\((g_ (So x.2 (R_ x0.2.2) (0,0,0)).1 0)=false->(((g_ (So x.2 (R_ x0.2.2) (0,0,0)).1 1)=true->(AE (((List.length x0.2.1)+(List.length [(So x.2 (R_ x0.2.2) (0,0,0)).2]))*2)))/\((g_ (So x.2 (R_ x0.2.2) (0,0,0)).1 1)=false->(((g_ (So x.2 (R_ x0.2.2) (0,0,0)).1 2)=true->((Qn (x0.2.1,(So x.2 (R_ x0.2.2) (0,0,0)).2))/\((((0:Int)<=(Bt (x0.2.1,(So x.2 (R_ x0.2.2) (0,0,0)).2)))/\((0<=(R_ (Bt (x0.2.1,(So x.2 (R_ x0.2.2) (0,0,0)).2))))/\(((R_ (Bt (x0.2.1,(So x.2 (R_ x0.2.2) (0,0,0)).2)))<=(List.length x0.2.1))/\(0<(List.length x0.2.1)))))/\((((0:Int)<=(V_ .i64 (Bt (x0.2.1,(So x.2 (R_ x0.2.2) (0,0,0)).2)) 1))/\(((R_ (V_ .i64 (Bt (x0.2.1,(So x.2 (R_ x0.2.2) (0,0,0)).2)) 1))<=(lN x0.2.1))/\(((lN x0.2.1)<=(List.length x0.2.1))/\(0<(List.length x0.2.1)))))/\((0<(List.length x0.2.1))/\(((List.length (lSub x0.2.1 0 (R_ (Bt (x0.2.1,(So x.2 (R_ x0.2.2) (0,0,0)).2)))))<=(List.length x0.2.1))/\(AE (((List.length (lSub x0.2.1 0 (R_ (Bt (x0.2.1,(So x.2 (R_ x0.2.2) (0,0,0)).2)))))+(List.length (lSub x0.2.1 (R_ (V_ .i64 (Bt (x0.2.1,(So x.2 (R_ x0.2.2) (0,0,0)).2)) 1)) (lN x0.2.1))))*2))))))))/\((g_ (So x.2 (R_ x0.2.2) (0,0,0)).1 2)=false->True))))))/\((PQ ((B8 x.1),(Z' (g_ (So x.2 (R_ x0.2.2) (0,0,0)).1 0) x0.2.1 (Z' (g_ (So x.2 (R_ x0.2.2) (0,0,0)).1 1) (i9 x0.2.1 [(So x.2 (R_ x0.2.2) (0,0,0)).2]) (Z' (g_ (So x.2 (R_ x0.2.2) (0,0,0)).1 2) (i9 (lTake x0.2.1 (lN (lSub x0.2.1 0 (R_ (Bt (x0.2.1,(So x.2 (R_ x0.2.2) (0,0,0)).2)))))) (lSub x0.2.1 (R_ (V_ .i64 (Bt (x0.2.1,(So x.2 (R_ x0.2.2) (0,0,0)).2)) 1)) (lN x0.2.1))) x0.2.1)))))/\(AE (((List.length (Z' (g_ (So x.2 (R_ x0.2.2) (0,0,0)).1 0) (i9 x0.1 [(KY ((B8 x.1),(i9 x0.2.1 [(So x.2 (R_ x0.2.2) (0,0,0)).2])))]) x0.1))+(List.length [(KY ((B8 x.1),(Z' (g_ (So x.2 (R_ x0.2.2) (0,0,0)).1 0) x0.2.1 (Z' (g_ (So x.2 (R_ x0.2.2) (0,0,0)).1 1) (i9 x0.2.1 [(So x.2 (R_ x0.2.2) (0,0,0)).2]) (Z' (g_ (So x.2 (R_ x0.2.2) (0,0,0)).1 2) (i9 (lTake x0.2.1 (lN (lSub x0.2.1 0 (R_ (Bt (x0.2.1,(So x.2 (R_ x0.2.2) (0,0,0)).2)))))) (lSub x0.2.1 (R_ (V_ .i64 (Bt (x0.2.1,(So x.2 (R_ x0.2.2) (0,0,0)).2)) 1)) (lN x0.2.1))) x0.2.1)))))]))*2)))))))/\((b_ x0.2.2 (V' x.2))=false->True))
theorem tg(x):RO x=Z' (t8 (U' (CC x.1)) (U' (I8 x.2))) [] (Am (U6 x) (U2 x) ([],[],0)).1:=(KF.v x).trans (by kernel_rfl)
theorem th(x):RJ x=((Oc x.1/\(U' (CC x.1)=true->True)/\(U' (CC x.1)=false->Qc x.2))/\(t8 (U' (CC x.1)) (U' (I8 x.2))=true->True)/\(t8 (U' (CC x.1)) (U' (I8 x.2))=false->MF x.1/\a_ (U6 x) (U2 x) (U4 x) ([],[],0))):=(KF.o x).trans (by kernel_rfl)
attribute [irreducible] Fu P9 GU RI KY PQ RO RJ
end
section
set_option maxRecDepth 8000
def vQ:d5:=(A_ [1] 1 [O' 0 4 0,Q_ Ar] (A_ [2] 3 [K_ 0 4 1,I' E2 [3],C_ 4,F_ 5 (J' 0 1),F_ 5 (J_ 0 6),F_ 5 (Nm 7 (.c (.int .i64 6))),F_ 5 (Q_ 8),F' 9 (J' 0 1),F' 9 (J_ 0 10),F' 9 (Nm 11 (.c (.int .i64 7))),F_ 5 (L_ 9 AU 12),L_ 5 13 Ar,G_ 2 (C_ 14)] .ret))
def IP:Fn:=⟨⟨1,15,1,true,[.tmp 2],vQ⟩,[.agg [Av,Av,Av,Av]],.one (.one .own (.bool))⟩
theorem iu:IP.A:=AK ⟨V0,trivial⟩
def Sd:CF->Bool:=IP.V
def VC:CF->Prop:=IP.O
theorem iC:IP.B:=AM ⟨VR,trivial⟩ (by kernel_rfl) (λx=>by kernel_rfl)
def ZcR:d5:=(A_ [2,1] 1 [O' 0 4 0,B_ (.d7 1 [Ab,Ab,Ab,Ab])] (.seq [2,1] (A_ [5,2,1] 3 [K_ 0 4 1,I' IP [3],P' 4] (.cond 5 (A_ [2] 6 [C' (.d6 0 (some 4) 1),E_ (.U_ 1 4 2 6)] .ret) .skip)) (A_ [2] 7 [J' 1 1,C' (.d6 0 none 7),B_ (.build [Ab,Ab,Ab,Ab] [(0,1,(.c (.int .i64 2))),(1,1,8)]),E_ (.U_ 1 4 2 9)] .ret)))
def LH:Fn:=⟨⟨1,10,2,true,[.cell 2 (some 4)],ZcR⟩,[.agg [Av,Av,Av,Av]],.one (.agg [AF,AF,AF,AF])⟩
theorem Zcw:LH.A:=AK ⟨iu,trivial⟩
def WZ:CF->Int×Int×Int×Int:=LH.V
def WS:CF->Prop:=LH.O
theorem Zcc:LH.B:=AM ⟨iC,trivial⟩ (by kernel_rfl) (λx=>by kernel_rfl)
def Zbb:d5:=(A_ [2,1] 1 [O' 0 4 0,B_ (.d7 1 [Ab,Ab,Ab,Ab])] (.seq [2,1] (.block 0 (A_ [3,2,1] 4 [K_ 0 4 1,I' IP [4],P' 5,G_ 3 (C_ 6)] (.cond 3 (A_ [2] 7 [C' (.d6 0 (some 4) 1),E_ (.U_ 1 4 2 7)] .ret) (A_ [8,2,1] 9 [J' 0 1,J_ 0 9,Nm 10 (.c (.int .i64 6)),G_ 8 (C_ 11)] (.cond 8 (A_ [2] 12 [J' 2 1,C' (.d6 0 none 12),B_ (.build [Ab,Ab,Ab,Ab] [(0,1,(.c (.int .i64 2))),(2,1,13)]),E_ (.U_ 1 4 2 14)] .ret) .skip))))) (A_ [2] 15 [J' 3 1,C' (.d6 0 none 15),B_ (.build [Ab,Ab,Ab,Ab] [(0,1,(.c (.int .i64 3))),(3,1,16)]),E_ (.U_ 1 4 2 17)] .ret)))
def LC:Fn:=⟨⟨1,18,2,true,[.cell 2 (some 4)],Zbb⟩,[.agg [Av,Av,Av,Av]],.one (.agg [AF,AF,AF,AF])⟩
theorem ZaN:LC.A:=AK ⟨iu,trivial⟩
def WQ:CF->Int×Int×Int×Int:=LC.V
def Wz:CF->Prop:=LC.O
theorem ZbK:LC.B:=AM ⟨iC,trivial⟩ (by kernel_rfl) (λx=>by kernel_rfl)
def ZbG:d5:=(A_ [2,1] 1 [O' 0 4 0,B_ (.d7 1 [Ab,Ab,Ab,Ab])] (.seq [2,1] (A_ [5,2,1] 3 [K_ 0 4 1,I' FR [3],P' 4] (.cond 5 (A_ [2] 6 [C' (.d6 0 (some 4) 1),E_ (.U_ 1 4 2 6)] .ret) .skip)) (.seq [2,1] (A_ [9,2,1] 7 [J' 0 1,J_ 0 7,Nm 8 (.c (.int .i64 6))] (.cond 9 (A_ [2] 10 [J' 2 1,C' (.d6 0 none 10),B_ (.build [Ab,Ab,Ab,Ab] [(0,1,(.c (.int .i64 2))),(2,1,11)]),E_ (.U_ 1 4 2 12)] .ret) .skip)) (A_ [2] 13 [J' 3 1,C' (.d6 0 none 13),B_ (.build [Ab,Ab,Ab,Ab] [(0,1,(.c (.int .i64 3))),(3,1,14)]),E_ (.U_ 1 4 2 15)] .ret))))
def Lw:Fn:=⟨⟨1,16,2,true,[.cell 2 (some 4)],ZbG⟩,[.agg [Av,Av,Av,Av]],.one (.agg [AF,AF,AF,AF])⟩
theorem ZaX:Lw.A:=AK ⟨ZW,trivial⟩
def DR:CF->Int×Int×Int×Int:=Lw.V
def Wt:CF->Prop:=Lw.O
theorem ZbA:Lw.B:=AM ⟨ZV,trivial⟩ (by kernel_rfl) (λx=>by kernel_rfl)
def Zcu:d5:=(A_ [2,1] 1 [O' 0 4 0,B_ (.d7 1 [Ab,Ab,Ab,Ab])] (.seq [2,1] (A_ [5,2,1] 3 [K_ 0 4 1,I' FR [3],P' 4] (.cond 5 (A_ [2] 6 [C' (.d6 0 (some 4) 1),E_ (.U_ 1 4 2 6)] .ret) .skip)) (A_ [2] 7 [J' 1 1,C' (.d6 0 none 7),B_ (.build [Ab,Ab,Ab,Ab] [(0,1,(.c (.int .i64 2))),(1,1,8)]),E_ (.U_ 1 4 2 9)] .ret)))
def LL:Fn:=⟨⟨1,10,2,true,[.cell 2 (some 4)],Zcu⟩,[.agg [Av,Av,Av,Av]],.one (.agg [AF,AF,AF,AF])⟩
theorem Zcz:LL.A:=AK ⟨ZW,trivial⟩
def DU:CF->Int×Int×Int×Int:=LL.V
def WI:CF->Prop:=LL.O
theorem ZcH:LL.B:=AM ⟨ZV,trivial⟩ (by kernel_rfl) (λx=>by kernel_rfl)
end
section
set_option maxRecDepth 100000
theorem vD(x):Sd x=W_ (Cc x) (t8 (g_ x.1 6) (g_ x.1 7)):=(IP.v x).trans (by kernel_rfl)
theorem vO(x):VC x=N8 x:=(IP.o x).trans (by kernel_rfl)
theorem Zcr(x):WZ x=Z' (U' (Sd x)) x (2,x.2.1,0,0):=(LH.v x).trans (by kernel_rfl)
theorem ZcE(x):WS x=VC x:=(LH.o x).trans (by kernel_rfl)
theorem Zbq(x):WQ x=Z' (U' (Sd x)) x (Z' (g_ x.1 6) (2,0,x.2.2.1,0) (3,0,0,x.2.2.2)):=(LC.v x).trans (by kernel_rfl)
theorem ZaU(x):Wz x=VC x:=(LC.o x).trans (by kernel_rfl)
theorem jS(x):DR x=Z' (U' (KV x)) x (Z' (g_ x.1 6) (2,0,x.2.2.1,0) (3,0,0,x.2.2.2)):=(Lw.v x).trans (by kernel_rfl)
theorem ZbM(x):Wt x=PW x:=(Lw.o x).trans (by kernel_rfl)
theorem kE(x):DU x=Z' (U' (KV x)) x (2,x.2.1,0,0):=(LL.v x).trans (by kernel_rfl)
theorem Zcm(x):WI x=PW x:=(LL.o x).trans (by kernel_rfl)
attribute [irreducible] Sd VC WZ WS WQ Wz DR Wt DU WI
end
section
set_option maxRecDepth 8000
def gD:ACode:=(.seq (.region [⟨0,some 2,.boxB 0 2 (.t 0),none,[]⟩,⟨1,some 4,.mv (.c .X_),none,[]⟩]) (.seq (.region [⟨0,some 5,.mv (.c .X_),none,[]⟩]) (.seq (.seq (.region [⟨0,some 8,.mv (.t 1),none,[]⟩,⟨1,some 9,.len (.t 8),none,[]⟩,⟨2,some 10,.mv (.c (.int .i64 0)),none,[]⟩]) (.block 0 (.loop [2,5,8,9,10] (.seq (.region [⟨0,some 11,.bin .lss (.t 10) (.t 9),none,[]⟩]) (.seq (.cond (.t 11) .skip (.exit 0)) (.seq (.block 1 (.seq (.region [⟨0,some 12,.m_ 2 (.t 8) (.t 10),none,[]⟩,⟨1,some 13,.g9 (some 2) (.t 12),none,[]⟩,⟨2,some 7,.d7 1 [(.int .i64 0),.X_],none,[]⟩,⟨3,none,.U_ 1 2 (.t 7) (.t 13),none,[]⟩]) (.seq (.seq (.region [⟨0,some 14,.d6 0 (some 2) (.t 2),none,[]⟩,⟨1,some 15,.d6 1 (some 2) (.t 7),none,[]⟩,⟨2,some 16,.call HR.S [(.t 14),(.t 15)],none,[]⟩,⟨3,some 17,.un .not (.t 16),none,[]⟩]) (.cond (.t 17) (.region [⟨0,some 18,.mv (.t 5),none,[]⟩,⟨1,some 19,.d6 1 (some 2) (.t 7),none,[]⟩,⟨2,some 20,.d4 2 1 [(.int .i64 0),.X_] [(0,2,(.t 19))],none,[]⟩,⟨3,some 21,.app 2 (.t 18) (.t 20),none,[]⟩,⟨4,some 5,.mv (.t 21),none,[]⟩]) .skip)) (.region [⟨0,some 22,.d6 1 (some 2) (.t 7),none,[]⟩,⟨1,none,.U_ 0 2 (.t 2) (.t 22),none,[]⟩])))) (.region [⟨0,some 23,.bin .add (.t 10) (.c (.int .i64 1)),none,[]⟩,⟨1,some 10,.mv (.t 23),none,[]⟩]))))))) (.seq (.region [⟨0,some 24,.mv (.t 5),none,[]⟩,⟨1,some 4,.mv (.t 24),none,[]⟩]) .ret))))
def Zx:AFun:=⟨2,25,2,false,[.tmp 4],gD⟩
@[irreducible] def KC:Bg:=ER Zx
def Du:List BH->Int×List Int->Nat->List Nat
 |[],_,_=>[]|r::t,p,k=>if p=r then Du t r (k+1)else k::Du t r (k+1)
def Dr:List BH->Int×List Int->Int×List Int
 |[],p=>p|r::t,_=>Dr t r
theorem b7:∀(l:BQ) (r p:BH) (k:Nat),Du (l++[r]) p k=Du l p k++(if Dr l p=r then []else [k+l.length])
 |[],r,p,k=>by by_cases h:p=r<;>simp[Du,Dr,h]
 | a::t,r,p,k=>by
   simp only[Dz,Du,Dr,b7 t r a (k+1),A0];rw[show k+1+t.length=k+(t.length+1) by omega];split<;>rfl
theorem mh:∀(l:BQ) (r p:BH),Dr (l++[r]) p=r
 |[],_,_=>rfl
 |a::t,r,p=>mh t r a
theorem XZ:∀(l:BQ) (p:BH) (k:Nat),(Du l p k).Pairwise (· < ·)/\∀i∈Du l p k,k<=i/\i<k+l.length
 |[],_,_=>⟨.nil,λ_ h=>by cases h⟩
 | r :: t,p,k=>by
   obtain⟨h1,b⟩:=XZ t r (k+1);simp only[Du,A0];split
   ·exact⟨h1,λi hi=>by have:=b i hi;omega⟩
   refine⟨List.pairwise_cons.2 ⟨λi hi=>by have:=b i hi;omega,h1⟩,λi hi=>?_⟩;rcases CE.1 hi with rfl|hi
   ·omega
   have:=b i hi;omega
def C5(h:Ac):Nat->W:=λl=>if l<h.length then .Z_ else .none
def HO(l:BO):List (List PV):=l.map λz=>[.fl (.int .i64 z)]
def Fs(r:BH):PV:=.agg [.fl (.int .i64 r.1),.sl .Z_ (HO r.2)]
structure RdR (h:Ac) (r:BH) (u:V):Prop where
 rc:∀p,RC h (C5 h) (.at (.s 0) p) ((Fs r).S_ p) (u.S_ p)
 sh:A9 (Fs r) u
def Ext(h h':Ac):Prop:=h.length<=h'.length/\∀l,l<h.length->h'[l]?=h[l]?
theorem Ext.refl(h:Ac):Ext h h:=⟨BN _,λ_ _=>rfl⟩
theorem Ext.trans{a b c:Ac}(x:Ext a b)(y:Ext b c):Ext a c:=⟨CW x.1 y.1,λl g=>(y.2 l (Ih g x.1)).trans (x.2 l g)⟩
theorem Ext.push(h:Ac)(b:Blk):Ext h (h++[b]):=⟨by simp,λl g=>Bp g⟩
theorem nG{h:Ac}{l:Nat}(e:C5 h l= .Z_):l<h.length:=by
 unfold C5 at e;split at e
 ·assumption
 cases e
theorem TH{h:Ac}{l:Nat}{hd:Hd}{p:List Nat}(e:C5 h l= .own hd p):False:=by unfold C5 at e;split at e<;>cases e
theorem XG{h:Ac}{l i:Nat}(e:C5 h l= .ptr i):False:=by unfold C5 at e;split at e<;>cases e
theorem rG(r:BH)(p:List Nat):((Fs r).S_ p).q=none\/((Fs r).S_ p).q=some .Z_:=by
 unfold Fs
 match p with
 |[0]=>exact .inl rfl
 |[1]=>exact .inr rfl
 |[]=>exact .inl rfl
 |[_+2]=>exact .inl rfl
 |_::_::_=>exact .inl rfl
theorem pq(r:BH)(p:List Nat):((Fs r).S_ p).qo=false:=by
 unfold Fs
 match p with
 |[0]=>rfl
 |[1]=>rfl
 |[]=>rfl
 |[_+2]=>rfl
 |_::_::_=>rfl
theorem RdR.ext{h h':Ac}{r:Int×List Int}{u:V}(x:RdR h r u)(e:Ext h h'):RdR h' r u:=by
 refine⟨λp=>(x.rc p).tr0 (f:=Ren.id) (T:=λ_=>False) ⟨λl g=>?_,λl hd p g _=>(TH g).elim⟩ (λb=>by rw[pq]at b;cases b) (λs q n b=>?_) (λl i o _ g=>(XG g).elim),x.sh⟩
 ·have j:=nG g;exact⟨by unfold C5;rw[Ad (Ih j e.1)],e.2 l j⟩
 rcases rG r p with h|h<;>rw[h]at b<;>cases b
theorem fM{h:Ac}{ω:Nat->W}{m:Md}{v:PV}{u:V}(r:RC h ω m v u)(hm:∀hd p,m≠.at hd p):RC h (C5 h) .fz v u:=by
 refine r.map (S:=λm g=>(∀hd p,m≠.at hd p)/\g= .fz) ?_ ?_ ?_ (by rintro m g ⟨_,rfl⟩ e;cases e) ⟨hm,rfl⟩
 ·rintro m g q k ⟨h1,rfl⟩;refine⟨?_,by cases q<;>rfl⟩;cases m with
  |_=>first|exact absurd rfl (h1 _ _)|(cases q<;>simp[Md.sub])
 ·rintro m g q l o b ⟨_,rfl⟩ i _;refine⟨i,?_⟩;show C5 h l= .Z_;unfold C5;rw[Ad (BB i)]
 rintro hd p g ⟨h1,_⟩;exact h1 hd p rfl
theorem Zj2{h:Ac}{ω:Nat->W}{hd f_:Hd}{p p':List Nat}{es:List (List PV)}{u:V}(r:RC h ω (.at hd p) (.sl .Z_ es) u):RC h (C5 h) (.at f_ p') (.sl .Z_ es) u:=by
 cases r with
 |nil=>exact .nil _ _
 | sl _ _ _ l o n b hb hk hc f9 hn hw hle hr=>
   refine .sl _ _ _ l o n b hb hk ?_ (λ_ e=>by simp at e) hn hw hle λk g=>fM (hr k g) (by intro _ _ e;cases e);show C5 h l= .Z_;unfold C5;rw[Ad (BB hb)]
theorem Zk1{h:Ac}{f_:Hd}{p':List Nat}{q:Ql}{es:List (List PV)}{u:V}(r:RC h (C5 h) .fz (.sl q es) u):RC h (C5 h) (.at f_ p') (.sl .Z_ es) u:=by
 cases r with
 |nil=>exact .nil _ _
 |sl _ _ _ l o n b y t x z s i g j=>exact .sl _ _ _ l o n b y t x (λ_ e=>by simp at e) s i g j
theorem rp{h:Ac}{m:Int}{g:List Int}{b:V}(h1:RC h (C5 h) (.at (.s 0) [1]) (.sl .Z_ (HO g)) b):RdR h (m,g) (.agg [.int .i64 m,b]):=by
 refine⟨λp=>?_,⟨_,rfl,rfl⟩⟩
 match p with
 |[0]=>exact .v _ _ rfl
 |[1]=>exact h1
 |[]=>exact .undef _ _
 |[_+2]=>exact .undef _ _
 |_::_::_=>exact .undef _ _
theorem RdR.form{h:Ac}{r:Int×List Int}{u:V}(x:RdR h r u):∃g,u= .agg [.int .i64 r.1,g]/\RC h (C5 h) (.at (.s 0) [1]) (.sl .Z_ (HO r.2)) g/\g.cell=true/\g.cells=[g]/\g.ok1=true/\∀i,g.isBox i=false:=by
 obtain⟨us,rfl,j⟩:=x.sh
 match us,j with
 | [a,b],_=>
   have h0:RC h (C5 h) (.at (.s 0) [0]) (.fl (.int .i64 r.1)) a:=x.rc [0];have h1:RC h (C5 h) (.at (.s 0) [1]) (.sl .Z_ (HO r.2)) b:=x.rc [1];have n:a= .int .i64 r.1:=(by cases h0;rfl);subst n;refine⟨b,rfl,h1,?_⟩;generalize HO r.2=es at h1;cases h1<;>exact⟨rfl,rfl,rfl,λ_=>rfl⟩
theorem nr{h:Ac}{j g:V}{a b:Int×List Int}(J:RdR h a j)(I:RdR h b g)(O:NW (a,b)){K:V->Ac->Prop}(N:∀h',Ext h h'->K (.bool (Gp (a,b))) h'):HR.S [j,g] h K:=by
 have D:∀l,C5 h l= .Z_\/C5 h l= .none:=λl=>by unfold C5;split<;>simp
 have n:∀hd p,(∃z u,Ak (λi=>i) ⟨[Fs a,Fs b],[],[]⟩ ⟨[j,g],[],h⟩ X0 hd p=((Fs z).S_ p,u)/\RC h (C5 h) (.at (.s 0) p) ((Fs z).S_ p) u)\/(Ak (λi=>i) ⟨[Fs a,Fs b],[],[]⟩ ⟨[j,g],[],h⟩ X0 hd p).1= .fl .undef:=by
  intro hd p;cases hd with
  | s t=>
    match t with
    |0=>exact .inl ⟨a,_,rfl,J.rc p⟩
    |1=>exact .inl ⟨b,_,rfl,I.rc p⟩
    |t+2=>exact .inr (Ba p)
  |b i=>right;simp only[Ak];unfold Be;split<;>rfl
  |h i=>right;simp only[Ak];unfold Be;split<;>rfl
  |x i=>exact .inr (Ba p)
 have R:RS h (C5 h) (C5 h) (λi=>i) ⟨[Fs a,Fs b],[],[]⟩ ⟨[j,g],[],h⟩ X0:=by
  refine⟨⟨λhd p=>?_,λl l' hd p e=>(TH e).elim,λl l' i e=>(XG e).elim,λl e=>?_,λl e=>nG e⟩,λt=>?_,λi=>Bf _,rfl,rfl,λi=>rfl,λi c=>rfl,λi c=>rfl,λi hi=>by simp at hi,λl i e=>(XG e).elim,λl i p e=>(TH e).elim,⟨BN _,λl F _=>⟨rfl,rfl⟩,(λl F e y=>by rw[e]at y;cases y),λl i e=>e⟩,λhd p i Y U=>?_⟩
  ·rcases n hd p with⟨z,u,G,y⟩|e
   ·rw[G];exact y.any (pq z p)
   rw[e];exact .undef _ _
  ·rcases e with⟨_,_,e⟩|⟨_,e⟩
   ·exact(TH e).elim
   exact(XG e).elim
  ·match t with
   |0=>exact J.sh
   |1=>exact I.sh
   |t+2=>exact Bf _
  rcases n hd p with⟨z,u,G,y⟩|e
  ·rw[G];rcases rG z p with h|h<;>rw[h]<;>simp
  rw[e];simp[PV.q]
 refine u7 h (C5 h) _ _ _ [] (λr _=>r= .fl (.bool (Gp (a,b)))) K R (λl hd p e=>(TH e).elim) ?_ λu h' r Z ω' ρ' M C _=>?_
 ·exact u9 (ED HR.h (a,b)) (.p (NW (a,b))) (HR.q.dv (Gp (a,b))) _ (by kernel_rfl) O (λ_=>rfl)
 subst M;have A:=C.core.rc (.x 0) [0];have hs:(∀us,u≠.agg us)/\∀us,u≠.f8 us:=C.shx 0;have A:RC h' ω' (.at (.x 0) [0]) (.fl (.bool (Gp (a,b)))) (u.S_ [0]):=A;rw[FX hs.1 hs.2]at A;have L:u= .bool (Gp (a,b)):=by cases A;rfl
 subst L;exact N h' ⟨C.fr.len,λl F=>(C.fr.old l F (D l)).1⟩
theorem Zh6{cs:List V}{k:Nat}(h:k+2<=cs.length):(cs.drop k).take 2=[get cs k,get cs (k+1)]:=by
 have g:∀j (b:j<cs.length),get cs j=cs[j]:=λj b=>by rw[CZ,Bc b];rfl
 rw[Rh (show k<cs.length by omega),Rh (show k+1<cs.length by omega),g k (by omega),g (k+1) (by omega)];rfl
def Gvn(h:Ac)(cs0:List V)(h1:Ac)(g:V)(idx:List Nat):Prop:=
 idx=[]/\g= .X_\/idx≠[]/\∃l' b,h.length<=l'/\h1[l']?=some b/\b.k= .own/\b.w=2/\g= .slice l' 0 idx.length/\b.cs.length=idx.length*2 /\
  ∀k c,k<idx.length->c<2->get b.cs (k*2+c)=get cs0 (idx.getD k 0*2+c)
theorem nF:∀(l:BQ) (p:BH) (k:Nat),(Du l p k).length<=l.length
 |[],_,_=>BN _
 | r::t,p,k=>by
   have:=nF t r (k+1);simp only[Du];split<;>simp only[A0]<;>omega
theorem Gvn.ext{h h1 j:Ac}{cs0:List V}{i:V}{idx:List Nat}(g:Gvn h cs0 h1 i idx)(e:Ext h1 j):Gvn h cs0 j i idx:=by
 rcases g with g|⟨t,l',b,s,n,q⟩
 ·exact .inl g
 exact .inr ⟨t,l',b,s,by rw[e.2 l' (BB n)];exact n,q⟩
theorem Zi1{h j:Ac}{cs0:List V}{u:V}{idx:List Nat}{i:Nat}{bx:List (List V)}(g:Gvn h cs0 j u idx)(N:h.length<=j.length)(M:idx.length<=2097152):∃n y,UD bx (j++[⟨.own,2,[get cs0 (i*2),get cs0 (i*2+1)]⟩]) 2 u (.slice j.length 0 1)=some (n,bx,y)/\(∀l,l<h.length->y[l]?=j[l]?)/\h.length<=y.length/\Gvn h cs0 y n (idx++[i]):=by
 have q:DZ (j++[(⟨.own,2,[get cs0 (i*2),get cs0 (i*2+1)]⟩:Blk)]) 2 (.slice j.length 0 1)=some ([get cs0 (i*2),get cs0 (i*2+1)],1):=by
  simp[DZ,rd]
 have t:∀c,c<2->get [get cs0 (i*2),get cs0 (i*2+1)] c=get cs0 (i*2+c):=λc s=>by
  match c,s with
  |0,_=>rfl
  |1,_=>rfl
 rcases g with⟨rfl,rfl⟩|⟨Y,l',b,U,F,L,J,rfl,R,I⟩
 ·refine⟨_,_,by simp only[UD,app,q];rw[Ad (by omega),Ae (by omega),Ad (by unfold AE;omega)];rfl,λl z=>?_,?_,.inr ⟨by simp,j.length+1,_,by omega,by simp;rfl,rfl,rfl,by simp,rfl,λk c D s=>?_⟩⟩
  ·rw[Bp (by simp;omega),Bp (by omega)]
  ·simp;omega
  have C:k=0:=(by simpa using D);subst C;rw[LW,BJ];exact t c s
 have G:(j++[(⟨.own,2,[get cs0 (i*2),get cs0 (i*2+1)]⟩:Blk)])[l']?=some b:=by rw[Bp (BB F)];exact F
 have O:=BB F;refine⟨_,_,by simp only[UD,app,q,G];rw[Ad (by omega),Ae (by omega),Ad ⟨L,J,trivial,by omega,by unfold AE;omega⟩];rfl,λl z=>?_,?_,.inr ⟨by simp,j.length+1,_,by omega,by simp;rfl,rfl,rfl,by simp,?_,λk c D s=>?_⟩⟩
 ·rw[Bp (by simp;omega),List.getElem?_set_ne (by omega),Bp (by omega)]
 ·simp;omega
 ·simp only[CM,C9,A0,A7];omega
 simp only[CM,A0,A7]at D;have ht:(b.cs.take (idx.length*2)).length=idx.length*2:=by rw[C9];omega
 by_cases x:k<idx.length
 ·rw[CZ,Bp (by rw[ht];omega),OV (by omega),<- CZ,I k c x s];simp only[C0,Bp x]
 have A:k=idx.length:=by omega
 subst A;rw[CZ,Dj (by rw[ht];omega),ht,show idx.length*2+c-idx.length*2=c by omega,<- CZ,t c s];simp[C0]
theorem sC {h:Ac} {p:Int×List Int} {l:List BH} {ua A:V} {cs0:List V} (ha:RdR h p ua) (g:Pb A=some (.int .i64 l.length)) (hl:l.length<=2097152)
 (he:∀i (hi:i<l.length),RdR h l[i] (.agg [get cs0 (i*2),get cs0 (i*2+1)])/\∃l0 b,A= .slice l0 0 l.length/\h[l0]?=some b/\b.k≠.dead/\b.w=2/\b.cs=cs0/\l.length*2<=cs0.length)
 (d9:∀i,i<l.length->NW (Dr (l.take i) p,l.getD i (0,[]))/\Gp (Dr (l.take i) p,l.getD i (0,[]))=decide (Dr (l.take i) p=l.getD i (0,[])))
 {Q:V->Ac->Prop} (hQ:∀r H,Ext h H->Gvn h cs0 H r (Du l p 0)->Q r H):KC [ua,A] h Q:=by
 unfold KC;refine J6 rfl ?_;unfold gD;obtain⟨ka,rfl,ra,a1,a2,a3,a4⟩:=ha.form;have F:∀i,A.isBox i=false:=by
  intro i;cases A<;>first|rfl|(simp[Pb]at g)
 have e1:A.cell=true:=by
  cases A<;>first|rfl|(simp[Pb]at g)
 simp only[go_sem,reduceIte,reduceCtorEq,Nat.reduceAdd,Nat.reduceBEq,Int.reduceLT,Int.reduceLE,Int.reduceGT,Int.reduceGE,Int.reduceBEq,Int.reduceBNe,Nat.reduceEqDiff,Nat.reduceLeDiff,Nat.reduceLT,g,a1,a2,a3,a4,F];refine M9 l.length (λi st=>∃h1 s kv bx1,st=⟨[.undef,.undef,.box 0 0,.undef,.undef,s,.undef,.undef,A,.int .i64 (l.length:Int),.int .i64 (i:Int)]++EE 14,[[.int .i64 (Dr (l.take i) p).1,kv],bx1],h1⟩/\Ext h h1/\Gvn h cs0 h1 s (Du (l.take i) p 0)/\RdR h1 (Dr (l.take i) p) (.agg [.int .i64 (Dr (l.take i) p).1,kv])) ?_ ?_
 ·exact⟨h,.X_,ka,[],rfl,Ext.refl h,.inl ⟨rfl,rfl⟩,ha⟩
 rintro i st next hi ⟨h1,s,kv,bx1,rfl,hE,t,hR⟩ hnx
 have G:∀i,s.isBox i=false:=by
  intro i;rcases t with⟨_,rfl⟩|⟨_,l',b,_,_,_,_,rfl,_⟩<;>rfl
 have o1:s.ok1=true:=by
  rcases t with⟨_,rfl⟩|⟨_,l',b,_,_,_,_,rfl,_⟩<;>rfl
 by_cases D:i<l.length
 ·have hc:decide ((i:Int)<(l.length:Int))=true:=FC (by omega);have hw:IntKind.i64.wrap ((i:Int)+1)=((i+1:Nat):Int):=(by rw[Mc (by omega)];omega);obtain⟨L,l0,b0,rfl,hb0,hk0,hw0,hcs,hcl⟩:=he i D;obtain⟨r,hr⟩:∃r,l[i]=r:=⟨_,rfl⟩;have hgd:l.getD i (0,[])=r:=(by rw[C0,Bc D,<- hr];rfl);rw[hr]at L;have n:=L.ext hE;obtain⟨x,q,rr,r1,r2,Z,Y⟩:=n.form;rw[q]at n;obtain⟨kv',ekv,rv,U,R,O,N⟩:=hR.form;cases ekv;obtain⟨q1,q2⟩:=d9 i D;rw[hgd]at q1 q2;have hb1:h1[l0]?=some b0:=(by rw[hE.2 l0 (BB hb0)];exact hb0);have hx:=Na (b:=l0) (w:=2) D (k:=.i64);have j:LS h1 (some 2) (.ptr l0 (i*2))=some (.agg [.int .i64 r.1,x]):=by
   have e2:rd h1 l0 (i*2) 2=some [get cs0 (i*2),get cs0 (i*2+1)]:=by
    unfold rd;rw[hb1];simp only;rw[Ad ⟨hk0,by rw[hcs];omega⟩,hcs,Zh6 (by omega)]
   simp only[V.agg.injEq]at q;simp only[LS,Jr,e2,q,Jn,CS]
  repeat' (first|(simp only[go_sem,reduceIte,reduceCtorEq,Nat.reduceAdd,Nat.reduceBEq,Int.reduceLT,Int.reduceLE,Int.reduceGT,Int.reduceGE,Int.reduceBEq,Int.reduceBNe,Nat.reduceEqDiff,Nat.reduceLeDiff,Nat.reduceLT,g,hc,hw,hx,j,F,G,r1,r2,Z,Y,U,R,O,N])|(refine Me (nr hR n q1 λh2 u=>?_) ?_)|(refine Zfx rfl (λC=>?_) (λC=>?_)<;>simp only[C,go_sem,reduceIte,reduceCtorEq,Nat.reduceAdd,Nat.reduceBEq,Int.reduceLT,Int.reduceLE,Int.reduceGT,Int.reduceGE,Int.reduceBEq,Int.reduceBNe,Nat.reduceEqDiff,Nat.reduceLeDiff,Nat.reduceLT,g,hc,hw,hx,j,F,G,r1,r2,Z,Y,U,R,O,N])|(refine Zii rfl (λC=>?_) (λC=>?_)<;>simp only[C,go_sem,reduceIte,reduceCtorEq,Nat.reduceAdd,Nat.reduceBEq,Int.reduceLT,Int.reduceLE,Int.reduceGT,Int.reduceGE,Int.reduceBEq,Int.reduceBNe,Nat.reduceEqDiff,Nat.reduceLeDiff,Nat.reduceLT,g,hc,hw,hx,j,F,G,r1,r2,Z,Y,U,R,O,N])|(refine ZcN rfl (λC=>?_) (λC=>?_)<;>simp only[C,go_sem,reduceIte,reduceCtorEq,Nat.reduceAdd,Nat.reduceBEq,Int.reduceLT,Int.reduceLE,Int.reduceGT,Int.reduceGE,Int.reduceBEq,Int.reduceBNe,Nat.reduceEqDiff,Nat.reduceLeDiff,Nat.reduceLT,g,hc,hw,hx,j,F,G,r1,r2,Z,Y,U,R,O,N]))
  refine Me (nr hR n q1 λh2 u=>?_);have y:Dr (l.take (i+1)) p=r:=(by rw[List.take_succ_eq_append_getElem D,mh,hr]);have z:Du (l.take (i+1)) p 0=Du (l.take i) p 0++(if Dr (l.take i) p=r then []else [i]):=by
   rw[List.take_succ_eq_append_getElem D,b7,hr,C9,BJ,Nat.min_eq_left (by omega)]
  have M:=hE.trans u;by_cases hd:Dr (l.take i) p=r
  ·have I:Gp (Dr (l.take i) p,r)=true:=(by rw[q2,FC hd]);rw[Ad hd,Rm]at z;simp only[go_sem,reduceIte,reduceCtorEq,Nat.reduceAdd,Nat.reduceBEq,Int.reduceLT,Int.reduceLE,Int.reduceGT,Int.reduceGE,Int.reduceBEq,Int.reduceBNe,Nat.reduceEqDiff,Nat.reduceLeDiff,Nat.reduceLT,I,hw,F,G,r1,r2,Z,Y,U,R,O,N];refine hnx _ D ⟨h2,s,x,[.int .i64 r.1,x],?_,M,?_,?_⟩
   ·rw[y];rfl
   ·rw[z];exact t.ext u
   rw[y];exact n.ext u
  have I:Gp (Dr (l.take i) p,r)=false:=(by rw[q2,C7 hd]);rw[Ae hd]at z;have J:=nF (l.take i) p 0;rw[C9]at J;simp only[V.agg.injEq,GJ,Ib]at q;obtain⟨out',h3,x1,x2,x3,x4⟩:=Zi1 (i:=i) (bx:=[[.int .i64 (Dr (l.take i) p).1,kv],[.int .i64 r.1,x]]) (t.ext u) M.1 (by omega);rw[q.1,q.2]at x1;have x5:Xh [[.int .i64 (Dr (l.take i) p).1,kv],[.int .i64 r.1,x]] h2 2 1 [.int .i64 0,.X_] (some [.int .i64 r.1,x])=some (.slice h2.length 0 1,[[.int .i64 (Dr (l.take i) p).1,kv],[.int .i64 r.1,x]],h2++[⟨.own,2,[.int .i64 r.1,x]⟩]):=by
   simp[Xh,V.cell]
  simp only[go_sem,reduceIte,reduceCtorEq,Nat.reduceAdd,Nat.reduceBEq,Int.reduceLT,Int.reduceLE,Int.reduceGT,Int.reduceGE,Int.reduceBEq,Int.reduceBNe,Nat.reduceEqDiff,Nat.reduceLeDiff,Nat.reduceLT,I,hw,F,G,r1,r2,Z,Y,U,R,O,N,x5,x1];have hE3:Ext h h3:=⟨x3,λl hl=>(x2 l hl).trans (M.2 l hl)⟩;refine hnx _ D ⟨h3,out',x,[.int .i64 r.1,x],?_,hE3,?_,?_⟩
  ·rw[y];rfl
  ·rw[z];exact x4
  rw[y];have:=L.ext hE3;rw[q.1,q.2]at this;exact this
 have hc:decide ((i:Int)<(l.length:Int))=false:=C7 (by omega);have J:i=l.length:=by omega
 subst J;simp only[go_sem,reduceIte,reduceCtorEq,Nat.reduceAdd,Nat.reduceBEq,Int.reduceLT,Int.reduceLE,Int.reduceGT,Int.reduceGE,Int.reduceBEq,Int.reduceBNe,Nat.reduceEqDiff,Nat.reduceLeDiff,Nat.reduceLT,g,hc,F,G,o1];rw[F6]at t;exact hQ s h1 hE t
def Iz:RT:=.cons (.int .i64) (.one (.sl (.one (.int .i64))))
def UT(p:BH)(l:BQ):List BH:=(Du l p 0).map λi=>l.getD i (0,[])
@[irreducible] def Mu(p:BH)(l:BQ):List BH:=(shut λ(q:Pc)=>UT q.1 q.2).1 (p,l)
def gn(p:BH)(l:BQ):Prop:=l.length<=2097152/\∀i,i<l.length->NW (Dr (l.take i) p,l.getD i (0,[]))/\Gp (Dr (l.take i) p,l.getD i (0,[]))=decide (Dr (l.take i) p=l.getD i (0,[]))
@[irreducible] def Mt(p:BH)(l:BQ):Prop:=(shut λ(q:Pc)=>gn q.1 q.2).1 (p,l)
theorem Zv(p:BH)(l:BQ):Mu p l=UT p l:=by unfold Mu;exact congrFun (shut _).2 (p,l)
theorem Zw(p:BH)(l:BQ):Mt p l=gn p l:=by unfold Mt;exact congrFun (shut _).2 (p,l)
theorem ZiR(p:BH)(l:BQ):(Du l p 0).Pairwise (· < ·)/\(∀i∈Du l p 0,i<l.length)/\Mu p l=(Du l p 0).map λi=>l.getD i (0,[]):=⟨(XZ l p 0).1,λi hi=>by have:=((XZ l p 0).2 i hi).2;omega,by rw[Zv];rfl⟩
def Va:DTk:=⟨Iz,Iz,Mt,λp l=>Du l p 0,Mu,λp l _=>ZiR p l⟩
theorem nk:∀l:List Int,PV.ownrE (HO l)=HO l
 |[]=>rfl
 | z::l=>by
   have:=nk l;show PV.ownrE ([.fl (.int .i64 z)]::HO l)=_;simp only[PV.ownrE,PV.ownrL,PV.ownr,this];rfl
theorem Zhf(p:BH):((PV.agg (RT.enc Iz p)).fz).nrm=Fs p:=by
 show PV.agg [.fl (.int .i64 p.1),.sl .Z_ (PV.ownrE (HO p.2))]=_;rw[nk];rfl
theorem gC:e8 KC (DTk.P Va):=by
 rintro h ω ω' hd a es ua ue K Q ha hsa q ⟨p,l,rfl,rfl,I,M⟩ hQ;obtain⟨p,rfl⟩:∃p':Int×List Int,p'=p:=⟨p,rfl⟩;obtain⟨l,rfl⟩:∃l':List BH,l'=l:=⟨l,rfl⟩;have I:gn p l:=by
  have:Mt p l:=I;rwa [Zw]at this
 have M:K (Du l p 0):=M;have hrow:∀r:Int×List Int,RT.enc Iz r=[.fl (.int .i64 r.1),.sl .own (HO r.2)]:=λr=>rfl;rw[show ((PV.agg ((DTk.ra Va).enc p)).fz).nrm=Fs p from Zhf p]at ha hsa;have C:RdR h p ua:=by
  obtain⟨us,rfl,O⟩:=hsa
  match us,O with
  | [c,d],_=>
    have h0:RC h ω (.at (.s 0) [0]) (.fl (.int .i64 p.1)) c:=ha [0];have h1:RC h ω (.at (.s 0) [1]) (.sl .Z_ (HO p.2)) d:=ha [1];have ec:c= .int .i64 p.1:=(by cases h0;rfl);subst ec;exact rp (Zj2 h1)
 have q:RC h ω' (.at hd [0]) (.sl .own (l.map (RT.enc Iz))) ue:=q;have j:(l.map (RT.enc Iz)).length=l.length:=Bh ..;obtain⟨O,I⟩:=I;by_cases G:l=[]
 ·subst G;have N:ue= .X_:=by
   cases q with
   |nil=>rfl
   |sl _ _ _ l0 o n b R J L G=>exact absurd rfl (G rfl (.inl rfl))
  subst N;refine sC (l:=([]:List BH)) (cs0:=[]) C rfl (Ec _) (λi hi=>absurd hi (Pa i)) (λi hi=>absurd hi (Pa i)) λr H F y=>?_;rcases y with⟨_,rfl⟩|⟨h1,_⟩
  ·exact hQ [] .X_ H M F.1 F.2 (.inl ⟨rfl,rfl⟩)
  exact absurd rfl h1
 generalize z:l.map (RT.enc Iz)=es at q j;cases q with
 |nil=>exact absurd (Dq j.symm) G
 | sl _ _ _ l0 o n b R J L hne2 hn hw hle hr=>
   obtain⟨c1,rfl,c3⟩:=L;subst hn;have g:b.w=2:=by
    cases l with
    |nil=>exact absurd rfl G
    |cons r t=>rw[<- hw (RT.enc Iz r) (by rw[<- z];exact List.mem_map.2 ⟨r,Hx ..,rfl⟩)];rfl
   rw[j];rw[g,j]at hle;refine sC (cs0:=b.cs) C rfl O (λi hi=>⟨?_,l0,b,rfl,R,J,g,rfl,by omega⟩) I λr H F y=>?_
   ·have x:i<es.length:=(by rw[j];exact hi);have hW:∀e∈es,e.length=2:=λe q=>(by rw[<- g];exact hw e q);have A:Bs es i=[.fl (.int .i64 l[i].1),.sl .own (HO l[i].2)]:=by
     have y:(List.getD (α:=Iz.D) l i Iz.dflt)=l[i]:=by
      show l.getD i ((0:Int),([]:List Int))=l[i];rw[C0,Bc hi];rfl
     rw[<- z,LU Iz l i hi];exact congrArg (RT.enc Iz) y
    have Z:=hr (i*2) (by rw[g];omega);have Y:=hr (i*2+1) (by rw[g];omega);have f0:=TK hW (k:=i) (c:=0) x (by omega);have f1:=TK hW (k:=i) (c:=1) x (by omega);rw[Fg,A]at f0;rw[A]at f1;rw[f0,BJ]at Z;rw[f1,BJ]at Y;have y0:RC h (C5 h) .fz (.fl (.int .i64 l[i].1)) (get b.cs (i*2)):=fM Z (by intro _ _ e;cases e);have y1:RC h (C5 h) .fz (.sl .own (HO l[i].2)) (get b.cs (i*2+1)):=fM Y (by intro _ _ e;cases e);have e0:get b.cs (i*2)= .int .i64 l[i].1:=by
     generalize get b.cs (i*2)=u at y0;cases y0;rfl
    rw[e0];exact rp (Zk1 y1)
   refine hQ (Du l p 0) r H M F.1 F.2 ?_;rcases y with⟨U,rfl⟩|⟨U,l',b',g2,g3,g4,g5,rfl,g7,g8⟩
   ·exact .inl ⟨U,rfl⟩
   refine .inr ⟨U,l',b',l0,_,rfl,g2,g3,g4,g5,rfl,?_,λk c J L=>?_⟩
   ·show _*2<=_;omega
   have:A6 h l0=b.cs:=(by simp only[A6,R]);rw[this];exact g8 k c J L
end
section
set_option maxRecDepth 8000
def Zbh:d5:=(A_ [2,1] 1 [O' 0 2 0,B_ (.d7 1 [Ab,.X_])] (.seq [2] (.region [oa 0 3 (.f5 0 1),xB 1 4 (.d6 0 none 3) (rg 1),oa 3 6 (.f5 1 1),xA 4 7 (.d6 0 none 6) [3],⟨2,some 5,.a false (.d4 1 0 [] []) (some (.one (.int .i64))),none,[]⟩,xA 5 8 (.app 1 5 7) [2,3,4],xA 6 9 (.build [Ab,.X_] [(0,1,4),(1,1,8)]) (rg 6),xS 7 (.U_ 1 2 2 9) (rg 7)]) .ret))
def LB:Fn:=⟨⟨1,10,2,false,[.cell 2 (some 2)],Zbh⟩,[.agg [Av,(.Z_,.sl (.one (.int .i64)))]],.one (.agg [AF,(.own,.sl (.one (.int .i64)))])⟩
theorem ZaM:LB.A:=AK trivial
def Qu:BH->Int×List (Int):=LB.V
def aI:BH->Prop:=LB.O
theorem ZaW:LB.B:=AM trivial (by kernel_rfl) (λx=>by kernel_rfl)
def wu:d5:=(A_ [2,1] 2 [O' 0 2 0,G_ 4 (Q_ (.c .X_))] (A_ [5,2,1] 7 [Q' (.cons (.int .i64) (.one (.sl (.one (.int .i64))))) (.d4 2 0 [] []),G_ 5 (C_ 7)] (.seq [5] (A_ [6,5,2,1] 6 [E' 0] (.block 0 (.loop [1,2,5,6] 1 (.seq [6,5,2,1] (A_ [11,6,5,2,1] 8 [C_ 6,D_ 1,L' 9,M' 8 10] (.cond 11 .skip (.exit 0))) (.seq [6,5,2,1] (.block 1 (.seq [6,5,2,1] (A_ [20,6,5,2,1] 14 [K_ 0 2 2,D_ 1,C_ 6,G' [1,2] (N_ 2 15 16),G' [1,2,3] (B_ (.g9 (some 2) 17)),G' (rg 5) (I' KT [14,18]),G' (rg 6) (P' 19)] (.cond 20 (At 21 [C_ 5,D_ 1,C_ 6,N_ 2 22 23,B_ (.g9 (some 2) 24),I' LB [25],Q' (.cons (.int .i64) (.one (.sl (.one (.int .i64))))) (.d4 2 1 [Ab,.X_] [(0,2,26)]),B_ (.app 2 21 27),G_ 5 (C_ 28)]) .skip)) (At 29 [D_ 1,C_ 6,N_ 2 29 30,C' (.g9 (some 2) 31),E_ (.U_ 0 2 2 32)]))) (At 12 [C_ 6,M_ 12 AD,G_ 6 (C_ 13)])))))) (A_ [4] 33 [C_ 5,G_ 4 (C_ 33)] .ret))))
def IQ:Fn:=⟨⟨2,34,1,false,[.tmp 4],wu⟩,[.agg [Av,(.Z_,.sl (.one (.int .i64)))],.one .Z_ (.sl (.cons (.int .i64) (.one (.sl (.one (.int .i64))))))],.one (.one .own (.sl (.cons (.int .i64) (.one (.sl (.one (.int .i64)))))))⟩
theorem iJ:IQ.A:=AK ⟨uA,ZaM,trivial⟩
def P3:Pc->List BH:=IQ.V
def PT:Pc->Prop:=IQ.O
theorem iv:IQ.B:=AM ⟨vx,ZaW,trivial⟩ (by kernel_rfl) (λx=>by kernel_rfl)
def zA:d5:=(A_ [4,2,1] 2 [O' 0 7 0,H_ 4 (B_ (.d7 1 [Ab,.X_,.X_,Ab,.X_,Ab,CB])),Q_ (.c .X_),Q_ Ar] (A_ [7,4,2] 9 [K_ 0 7 2,C_ 1,I' G6 [9,10],G_ 7 (C_ 11)] (.seq [7,4,2] (A_ [18,7,4,2] 12 [K_ 0 7 2,I' G2 [12],P' 13,C_ 14,F' 15 (Q_ 7),F' 15 (M' 16 AQ),L_ 15 AU 17] (.cond 18 (A_ [6,5,4] 19 [B_ (.build [Ab,.X_,.X_,Ab,.X_,Ab,CB] []),Q' (.cons (.int .i64) (.one (.sl (.one (.int .i64))))) (.d4 2 0 [] []),E_ (.U_ 1 7 4 19),H_ 5 (C_ 20),Q_ Ar] .ret) .skip)) (A_ [8,7,4,2] 21 [K_ 0 7 2,I' G8 [21],G_ 8 (B_ (.d7 2 [Ab,.X_,.X_,Ab,.X_,Ab,CB])),E_ (.U_ 2 7 8 22)] (A_ [8,4,2] 23 [J' 4 8,J_ 2 23,C_ 7,I' G0 [24,25],J' 4 8,E_ (.U_ 2 1 27 26)] (.seq [6,5,4] (.region [oa 0 28 (.d6 2 (some 7) 8),oa 1 29 (.f5 4 2),xA 2 30 (.d6 0 none 29) [1],oa 4 32 (.f5 4 8),xA 5 33 (.d6 2 none 32) [4],xF 3 31 E3 [30] [1,2],xF 6 34 E3 [33] [1,2,3,4,5],⟨7,some 35,.a false (.d4 2 1 [Ab,.X_] [(0,2,34)]) (some (.cons (.int .i64) (.one (.sl (.one (.int .i64)))))),none,[1,2,3,4,5,6]⟩,xF 8 36 IQ [31,35] [1,2,3,4,5,6,7],⟨9,none,.clm 8 28 (.U_ 1 7 4 28),none,[0,1,2,3,4,5,6,7,8]⟩,xA 10 5 (.mv 36) (rg 10),xA 11 6 (.mv AU) (rg 11)]) .ret))))))
def Lu:Fn:=⟨⟨2,37,3,false,[.cell 4 (some 7),.tmp 5,.tmp 6],zA⟩,[.agg [Av,(.Z_,.sl (.one (.sl Az))),(.Z_,.sl (.one (.sl AO))),Av,(.Z_,.sl AS),Av,(.Z_,.bool)],.one .Z_ (.int .i64)],.f8 [.agg [AF,(.own,.sl (.one (.sl Az))),(.own,.sl (.one (.sl AO))),AF,(.own,.sl AS),AF,(.own,.bool)],.one .own (.sl (.cons (.int .i64) (.one (.sl (.one (.int .i64)))))),.one .own (.bool)]⟩
theorem zv:Lu.A:=AK ⟨kc,Z3,aC,ZN,Sq,Sq,iJ,trivial⟩
def HV:Gg->Bw×BQ×Bool:=Lu.V
def N9:Gg->Prop:=Lu.O
theorem Zaw:Lu.B:=AM ⟨jU,Z0,aB,ZO,Sj,Sj,iv,trivial⟩ (by kernel_rfl) (λx=>by kernel_rfl)
def vC:d5:=(A_ [2,1] 1 [O' 0 7 0,B_ (.d7 1 [Ab,.X_,.X_,Ab,.X_,Ab,CB])] (A_ [2,1] 3 [J' 0 1,K_ 0 2 3,I' IH [4],J' 0 1,E_ (.U_ 0 2 6 5)] (A_ [2,1] 7 [J' 2 1,J_ 0 7,I' IK [8],J' 2 1,E_ (.U_ 0 1 10 9)] (A_ [2,1] 11 [J' 4 1,J_ 0 11,B_ (.app 5 (.c .X_) 12),J' 4 1,E_ (.U_ 0 1 14 13)] (A_ [2] 15 [C' (.d6 0 (some 7) 1),E_ (.U_ 1 7 2 15)] .ret)))))
def IJ:Fn:=⟨⟨1,16,2,false,[.cell 2 (some 7)],vC⟩,[.agg [Av,(.Z_,.sl (.one (.sl Az))),(.Z_,.sl (.one (.sl AO))),Av,(.Z_,.sl AS),Av,(.Z_,.bool)]],.one (.agg [AF,(.own,.sl (.one (.sl Az))),(.own,.sl (.one (.sl AO))),AF,(.own,.sl AS),AF,(.own,.bool)])⟩
theorem hZ:IJ.A:=AK ⟨gZ,gW,trivial⟩
def BA:Bw->Int×Cz×CJ×Int×Bj×Int×Bool:=IJ.V
def RQ:Bw->Prop:=IJ.O
theorem im:IJ.B:=AM ⟨gV,hJ,trivial⟩ (by kernel_rfl) (λx=>by kernel_rfl)
def zZ:d5:=(A_ [4,2,1] 2 [O' 0 7 0,H_ 4 (B_ (.d7 1 [Ab,.X_,.X_,Ab,.X_,Ab,CB])),Q_ (.c .X_)] (A_ [6,4,2,1] 8 [K_ 0 7 2,I' IJ [8],G_ 6 (B_ (.d7 2 [Ab,.X_,.X_,Ab,.X_,Ab,CB])),E_ (.U_ 2 7 6 9)] (A_ [7,6,4,2] 10 [K_ 0 7 2,C_ 1,I' G7 [10,11],G_ 7 (C_ 12)] (A_ [6,4,2] 13 [J' 4 6,G' (rg 1) (J_ 2 13),C_ 7,G' (rg 3) (B_ (.slice 5 14 none (some 15))),J' 4 6,G' [4] (J_ 2 17),C_ 7,G' [6] (M_ 19 AD),G' [4,5,6,7] (B_ (.slice 5 18 (some 20) none)),G' [0,1,2,3,4,5,6,7,8] (I_ (.aw [(0,5)] false (.app 5 16 21) none)),G' (rg 10) (J' 4 6),G' (rg 11) (E_ (.U_ 2 1 23 22))] (.seq [5,4] (.region [oa 0 24 (.d6 2 (some 7) 6),oa 1 25 (.f5 4 2),xA 2 26 (.d6 0 none 25) [1],oa 4 28 (.f5 4 6),xA 5 29 (.d6 2 none 28) [4],xF 3 27 E1 [26] [1,2],xF 6 30 E1 [29] [1,2,3,4,5],⟨7,some 31,.a false (.d4 2 1 [Ab,.X_] [(0,2,30)]) (some (.cons (.int .i64) (.one (.sl (.one (.int .i64)))))),none,[1,2,3,4,5,6]⟩,⟨8,some 32,.tk KC Va 27 31,none,[1,2,3,4,5,6,7]⟩,⟨9,none,.clm 6 24 (.U_ 1 7 4 24),none,[0,1,2,3,4,5,6,7,8]⟩,xA 10 5 (.mv 32) (rg 10)]) .ret)))))
def Ls:Fn:=⟨⟨2,33,3,false,[.cell 4 (some 7),.tmp 5],zZ⟩,[.agg [Av,(.Z_,.sl (.one (.sl Az))),(.Z_,.sl (.one (.sl AO))),Av,(.Z_,.sl AS),Av,(.Z_,.bool)],.one .Z_ (.int .i64)],.f8 [.agg [AF,(.own,.sl (.one (.sl Az))),(.own,.sl (.one (.sl AO))),AF,(.i5 0,.sl AS),AF,(.own,.bool)],.one .own (.sl (.cons (.int .i64) (.one (.sl (.one (.int .i64))))))]⟩
theorem zR:Ls.A:=AK ⟨hZ,j3,Su,Su,gC,trivial⟩
def MJ:Gg->Bw×BQ:=Ls.V
def SG:Gg->Prop:=Ls.O
theorem zy:Ls.B:=AM ⟨im,jT,Sg,Sg,trivial⟩ (by kernel_rfl) (λx=>by kernel_rfl)
end
section
set_option maxRecDepth 100000
theorem jV(x):Qu x=(x.1,i9 [] x.2):=(LB.v x).trans (by kernel_rfl)
theorem jQ(x):aI x=AE ((List.length ([]:List Int)+List.length x.2)*1):=(LB.o x).trans (by kernel_rfl)
def NR(x:Pc)(x0:BQ×Y6):Bool:=(b_ x0.2.1 (V' x.2))
def NT(x:Pc)(x0:BQ×Y6):(BQ×Y6):=((Z' (U' (PY (x0.2.2,(So x.2 (R_ x0.2.1) (0,[]))))) (i9 x0.1 [(Qu (So x.2 (R_ x0.2.1) (0,[])))]) x0.1),(V_ .i64 x0.2.1 1),(So x.2 (R_ x0.2.1) (0,[])))
def PF(x:Pc)(x0:BQ×Y6):Prop:=(((b_ x0.2.1 (V' x.2))=true->(((((0:Int)<=x0.2.1)/\(x0.2.1<(((List.length x.2):Int))))/\(((R_ x0.2.1)<(List.length x.2))/\((Vo (x0.2.2,(So x.2 (R_ x0.2.1) (0,[]))))/\(((U' (PY (x0.2.2,(So x.2 (R_ x0.2.1) (0,[])))))=true->((((0:Int)<=x0.2.1)/\(x0.2.1<(((List.length x.2):Int))))/\(((R_ x0.2.1)<(List.length x.2))/\((aI (So x.2 (R_ x0.2.1) (0,[])))/\(AE (((List.length x0.1)+(List.length [(Qu (So x.2 (R_ x0.2.1) (0,[])))]))*2))))))/\((U' (PY (x0.2.2,(So x.2 (R_ x0.2.1) (0,[])))))=false->True)))))/\((((0:Int)<=x0.2.1)/\(x0.2.1<(((List.length x.2):Int))))/\((R_ x0.2.1)<(List.length x.2)))))/\((b_ x0.2.1 (V' x.2))=false->True))
theorem iw(x):P3 x=(Am (NR x) (NT x) ([],0,x.1)).1:=(IQ.v x).trans (by kernel_rfl)
theorem iz(x):PT x=a_ (NR x) (NT x) (PF x) ([],0,x.1):=(IQ.o x).trans (by kernel_rfl)
theorem Zol(x:Gg)(c)(_:c=DQ x.1)(a)(_:a=Dw (c.2.2.2.2.1,Fx x))(b)(_:b=t8 (U' (Gr x.1)) (b_ (Fx x) 0))(d)(_:d=x.1.2.2.2.2.1)(e)(_:e=List.length c.2.2.1)(f)(_:f=List.length c.2.1):HV x=Z' b ((0,[],[],0,[],0,false),[],false) ((c.1,c.2.1,c.2.2.1,c.2.2.2.1,a,c.2.2.2.2.2),P3 (Cb d,[Cb a]),true)/\N9 x=(SS x/\PZ x.1/\(b=true->True)/\(b=false->Qi x.1/\N3 (c.2.2.2.2.1,Fx x)/\MD d/\MD a/\PT (Cb d,[Cb a])/\f=f/\e=e/\List.length a=List.length a)):=by subst_vars;exact⟨(Lu.v x).trans (by kernel_rfl),(Lu.o x).trans (by kernel_rfl)⟩
abbrev jF:=λx=>(Zol x _ rfl _ rfl _ rfl _ rfl _ rfl _ rfl).1
abbrev jK:=λx=>(Zol x _ rfl _ rfl _ rfl _ rfl _ rfl _ rfl).2
theorem gU(x):BA x=((NY (x.1,x.2.1)).1,(NY (x.1,x.2.1)).2,Sb x.2.2.1,x.2.2.2):=(IJ.v x).trans (by kernel_rfl)
theorem il(x):RQ x=(RX (x.1,x.2.1)/\RY x.2.2.1/\AE (List.length x.2.2.2.2.1*5)):=(IJ.o x).trans (by kernel_rfl)
theorem Zoq(x:Gg)(d)(_:d=BA x.1)(b)(_:b=d.2.2.2.2.1)(f)(_:f=R_ (BP x))(e)(_:e=V_ .i64 (BP x) 1)(h)(_:h=lSub b (R_ e) (lN b))(a)(_:a=i9 (lTake b (lN (lSub b 0 f))) h)(c)(_:c=List.length b)(g)(_:g=List.length (lSub b 0 f))(i)(_:i=x.1.2.2.2.2.1)(j)(_:j=List.length d.2.2.1)(k)(_:k=List.length d.2.1):MJ x=((d.1,d.2.1,d.2.2.1,d.2.2.2.1,a,d.2.2.2.2.2),Mu (B8 i) [B8 a])/\SG x=(RQ x.1/\Qm x/\((0:Int)<=BP x/\0<=f/\f<=c/\0<c)/\((0:Int)<=e/\R_ e<=lN b/\lN b<=c/\0<c)/\(0<c/\g<=c/\AE ((g+List.length h)*5))/\MF i/\MF a/\Mt (B8 i) [B8 a]/\k=k/\j=j/\List.length a=List.length a):=by subst_vars;exact⟨(Ls.v x).trans (by kernel_rfl),(Ls.o x).trans (by kernel_rfl)⟩
abbrev Zaa:=λx=>(Zoq x _ rfl _ rfl _ rfl _ rfl _ rfl _ rfl _ rfl _ rfl _ rfl _ rfl _ rfl).1
abbrev zD:=λx=>(Zoq x _ rfl _ rfl _ rfl _ rfl _ rfl _ rfl _ rfl _ rfl _ rfl _ rfl _ rfl).2
@[irreducible] def Qj(x:Gg):Bw×BQ×Bool:=(Z' (t8 (U' (CG x.1)) (b_ (BP x) 0)) ((0,[],[],0,[],0,false),[],false) ((MJ x).1,(MJ x).2,true))
@[irreducible] def Qg(x:Gg):Prop:=(((P8 x.1)/\(((U' (CG x.1))=true->True)/\((U' (CG x.1))=false->(Qm x))))/\(((t8 (U' (CG x.1)) (b_ (BP x) 0))=true->True)/\((t8 (U' (CG x.1)) (b_ (BP x) 0))=false->(SG x))))
attribute [irreducible] Qu aI P3 PT HV N9 BA RQ MJ SG
end
section
set_option maxRecDepth 8000
def wi:d5:=(A_ [1,0] 4 [Q_ Ar] (.seq [1,0] (A_ [10,1,0] 6 [D_ 0,L' 6,D_ 1,L' 8,N' 7 9] (.cond 10 (A_ [4] 4 [Q_ Ar] .ret) .skip)) (.seq [] (A_ [5,1,0] 5 [E' 0] (.block 0 (.loop [0,1,5] 1 (.seq [5,1,0] (A_ [14,5,1,0] 11 [C_ 5,D_ 0,L' 12,M' 11 13] (.cond 14 .skip (.exit 0))) (.seq [5,1,0] (.block 1 (A_ [26,5,1,0] 17 [D_ 0,C_ 5,G' (rg 2) (N_ 2 17 18),G' (rg 3) (B_ (.g9 (some 2) 19)),D_ 1,C_ 5,G' [4,5] (N_ 2 21 22),G' [4,5,6] (B_ (.g9 (some 2) 23)),G' (rg 8) (I' K6 [20,24]),G' (rg 9) (P' 25)] (.cond 26 (A_ [4] 4 [Q_ Ar] .ret) .skip))) (At 15 [C_ 5,M_ 15 AD,G_ 5 (C_ 16)])))))) (A_ [4] 4 [Q_ AU] .ret))))
def Ep:Fn:=⟨⟨2,27,0,true,[.tmp 4],wi⟩,[.one .Z_ (.sl (.cons (.int .i64) (.one (.sl (.one (.int .i64)))))),.one .Z_ (.sl (.cons (.int .i64) (.one (.sl (.one (.int .i64))))))],.one (.one .own (.bool))⟩
theorem ZX:Ep.A:=AK ⟨xg,trivial⟩
def HS:rJ->Bool:=Ep.V
def PO:rJ->Prop:=Ep.O
theorem ZT:Ep.B:=AM ⟨xl,trivial⟩ (by kernel_rfl) (λx=>by kernel_rfl)
def ik:ACode:=(.seq (.region [⟨0,some 4,.mv (.c (.int .i64 0)),none,[]⟩]) (.seq (.seq (.region [⟨0,some 5,.mv (.c (.int .i64 0)),none,[]⟩]) (.block 0 (.loop [0,1,5] (.seq (.seq (.region [⟨0,some 6,.mv (.t 5),none,[]⟩,⟨1,some 7,.mv (.t 0),none,[]⟩,⟨2,some 8,.len (.t 7),none,[]⟩,⟨3,some 9,.bin .lss (.t 6) (.t 8),none,[]⟩]) (.cond (.t 9) .skip (.exit 0))) (.seq (.block 1 (.seq (.region [⟨0,some 12,.mv (.t 0),none,[]⟩,⟨1,some 13,.mv (.t 5),none,[]⟩,⟨2,some 14,.mv (.t 1),none,[]⟩,⟨3,some 15,.m_ 2 (.t 12) (.t 13),none,[]⟩,⟨4,some 16,.f5 0 (.t 15),none,[]⟩,⟨5,none,.f6 1 (.t 16) (.t 14),none,[]⟩]) (.seq (.region [⟨0,some 17,.mv (.t 1),none,[]⟩,⟨1,some 18,.bin .add (.t 17) (.c (.int .i64 1)),none,[]⟩,⟨2,some 1,.mv (.t 18),none,[]⟩]) (.region [⟨0,some 19,.mv (.t 0),none,[]⟩,⟨1,some 20,.mv (.t 5),none,[]⟩,⟨2,some 21,.m_ 2 (.t 19) (.t 20),none,[]⟩,⟨3,some 22,.f5 1 (.t 21),none,[]⟩,⟨4,some 23,.g9 none (.t 22),none,[]⟩,⟨5,some 24,.mv (.t 1),none,[]⟩,⟨6,some 25,.call JX [(.t 23),(.t 24)],none,[]⟩,⟨7,some 1,.mv (.t 25),none,[]⟩])))) (.region [⟨0,some 10,.mv (.t 5),none,[]⟩,⟨1,some 11,.bin .add (.t 10) (.c (.int .i64 1)),none,[]⟩,⟨2,some 5,.mv (.t 11),none,[]⟩])))))) (.seq (.region [⟨0,some 26,.mv (.t 1),none,[]⟩,⟨1,some 4,.mv (.t 26),none,[]⟩]) .ret)))
def ZD:AFun:=⟨2,27,0,false,[.tmp 4],ik⟩
@[irreducible] def Mw:Bg:=ER ZD
@[irreducible] def Dm(x:BQ)(m:Int):BQ×Int:=(shut λ(x:BQ) (m:Int)=>AV (RT.mkI (.cons (.int .i64) (.one (.sl (.one (.int .i64)))))) x m).1 x m
@[irreducible] def PE(x:BQ):Prop:=(shut λ(x:BQ)=>CT.wl (.sl (.cons (.int .i64) (.one (.sl (.one (.int .i64)))))) x).1 x
theorem gG:Dm=λx m=>AV (RT.mkI (.cons (.int .i64) (.one (.sl (.one (.int .i64)))))) x m:=by unfold Dm;exact(shut _).2
theorem gH:PE=λx=>CT.wl (.sl (.cons (.int .i64) (.one (.sl (.one (.int .i64)))))) x:=by unfold PE;exact(shut _).2
theorem tL:SlC Mw (.cons (.int .i64) (.one (.sl (.one (.int .i64))))):=by
 rintro h ω hd p l u m Q d9 hinj hM hQ;have C:=hM.len;have hlb:l.length<=9223372036854775807:=d9.1;unfold Mw;refine J6 rfl ?_;unfold ik;simp only[go_sem,reduceIte,reduceCtorEq,Nat.reduceAdd,Nat.reduceBEq,Int.reduceLT,Int.reduceLE,Int.reduceGT,Int.reduceGE,Int.reduceBEq,Int.reduceBNe,Nat.reduceEqDiff,Nat.reduceLeDiff,Nat.reduceLT,C];refine M9 l.length (λi st=>∃h',st=⟨[u,.int .i64 (A8 (RT.mkI (.cons (.int .i64) (.one (.sl (.one (.int .i64)))))) l m i).2,.undef,.undef,.undef,.int .i64 (i:Int)]++EE 21,[],h'⟩/\x_ (GM ω hd p) h h'/\MS h' ω hd p (.cons (.int .i64) (.one (.sl (.one (.int .i64))))) (A8 (RT.mkI (.cons (.int .i64) (.one (.sl (.one (.int .i64)))))) l m i).1 u) ?_ ?_
 ·refine⟨h,?_,x_.refl _ _,hM⟩;simp only[MR,keep,Ns];rfl
 rintro i st next hi ⟨h1,rfl,U,x⟩ I
 by_cases G:i<l.length
 ·have F:decide ((i:Int)<(l.length:Int))=true:=FC (by omega);have R:IntKind.i64.wrap ((i:Int)+1)=((i+1:Nat):Int):=(by rw[Mc (by omega)];omega);obtain⟨b,t⟩:=x.slice (by rw[FA];omega);rw[FA]at t;subst t;cases Y:A8 (RT.mkI (.cons (.int .i64) (.one (.sl (.one (.int .i64)))))) l m i with
  |mk L q=>
  rw[Y]at x;obtain⟨hLl,hs,g⟩:=Ou G Y;have n:i<L.length:=(by omega);have j:=O5 d9 G;rw[<- g]at j;have R0:=MS.frame x n;clear g;generalize g:List.getD L i (RT.dflt (.cons (.int .i64) (.one (.sl (.one (.int .i64))))))=x0 at R0 hs j;clear g;have O:=Na (b:=b) (w:=2) G (k:=.i64);simp only;obtain⟨M,A,o0,R1⟩:=MS.st R0 n (off:=0) (by decide) (v:=(.int .i64 q)) rfl rfl (y:=((q,x0.2):RT.D (.cons (.int .i64) (.one (.sl (.one (.int .i64))))))) rfl hinj [];replace A:Ew [] h1 1 (.ptr b (i*2)) (.int .i64 q)=some (.undef,[],M):=A;obtain⟨N,z,M1,f1⟩:=MS.sb R1 n (off:=1) (by decide) (r':=(.one (.int .i64))) (l':=x0.2) rfl;replace z:LS M none (.ptr b (i*2+1))=some N:=z;have s:=(MS.ok1 M1).1;simp only[go_sem,reduceIte,reduceCtorEq,Nat.reduceAdd,Nat.reduceBEq,Int.reduceLT,Int.reduceLE,Int.reduceGT,Int.reduceGE,Int.reduceBEq,Int.reduceBNe,Nat.reduceEqDiff,Nat.reduceLeDiff,Nat.reduceLT,C,F,R,O,A,z,s];refine Me (jf M ω hd _ x0.2 N (IntKind.i64.wrap (q+1)) _ j.2 hinj M1 λZ O1 N1=>?_);obtain⟨o1,R2⟩:=f1 Z _ ((q,(AV (RT.mkI (.one (.int .i64))) x0.2 (IntKind.i64.wrap (q+1))).1):RT.D (.cons (.int .i64) (.one (.sl (.one (.int .i64)))))) O1 N1 rfl;simp only[go_sem,reduceIte,reduceCtorEq,Nat.reduceAdd,Nat.reduceBEq,Int.reduceLT,Int.reduceLE,Int.reduceGT,Int.reduceGE,Int.reduceBEq,Int.reduceBNe,Nat.reduceEqDiff,Nat.reduceLeDiff,Nat.reduceLT,C,F,R,O,A,z,s];exact I _ G ⟨Z,by rw[hs];rfl,(x_.trans (x_.trans U o0) o1),by rw[hs];exact R2⟩
 have F:decide ((i:Int)<(l.length:Int))=false:=C7 (by omega);have J:i=l.length:=by omega
 subst J;simp only[go_sem,reduceIte,reduceCtorEq,Nat.reduceAdd,Nat.reduceBEq,Int.reduceLT,Int.reduceLE,Int.reduceGT,Int.reduceGE,Int.reduceBEq,Int.reduceBNe,Nat.reduceEqDiff,Nat.reduceLeDiff,Nat.reduceLT,C,F];have e:=Hj (RT.mkI (.cons (.int .i64) (.one (.sl (.one (.int .i64)))))) l m;rw[e]at x ⊢;exact hQ h1 U x
theorem tV:JD Mw (gv (.cons (.int .i64) (.one (.sl (.one (.int .i64)))))).P:=SlC.sound tL
def ZG:DMk:=⟨.one (.sl (.cons (.int .i64) (.one (.sl (.one (.int .i64)))))),false,PE,Dm,false⟩
theorem ti:JD Mw (DMk.P ZG):=by unfold ZG;rw[gH,gG];exact tV
def tG:d5:=(A_ [1,0] 4 [E' 0] (.seq [1] (A_ [5,1,0] 5 [E' 0] (.block 0 (.loop [0,1,5] 1 (.seq [5,1,0] (A_ [9,5,1,0] 6 [C_ 5,D_ 0,L' 7,M' 6 8] (.cond 9 .skip (.exit 0))) (.seq [5,1,0] (.block 1 (.seq [5,1,0] (A_ [18,5,1,0] 12 [D_ 0,C_ 5,N_ 2 12 13,J' 0 14,O_ 15,C_ 1,N' 16 17] (.cond 18 (A_ [4] 4 [E' (-1)] .ret) .skip)) (A_ [5,1,0] 19 [C_ 1,M_ 19 AD,G_ 1 (C_ 20)] (A_ [5,1,0] 21 [D_ 0,C_ 5,N_ 2 21 22,J' 1 23,O_ 24,C_ 1,I' Lc [25,26],G_ 1 (C_ 27)] (A_ [29,5,1,0] 28 [C_ 1,M' 28 AQ] (.cond 29 (A_ [4] 4 [E' (-1)] .ret) .skip)))))) (At 10 [C_ 5,M_ 10 AD,G_ 5 (C_ 11)])))))) (A_ [4] 30 [C_ 1,G_ 4 (C_ 30)] .ret)))
def IE:Fn:=⟨⟨2,31,0,true,[.tmp 4],tG⟩,[.one .Z_ (.sl (.cons (.int .i64) (.one (.sl (.one (.int .i64)))))),.one .Z_ (.int .i64)],.one (.one .own (.int .i64))⟩
theorem gS:IE.A:=AK ⟨wT,trivial⟩
def IF:sk->Int:=IE.V
def RL:sk->Prop:=IE.O
theorem gM:IE.B:=AM ⟨w8,trivial⟩ (by kernel_rfl) (λx=>by kernel_rfl)
end
section
set_option maxRecDepth 100000
theorem Zot(x:rJ)(b)(_:b=V' x.1)(c)(_:c=λ(x0:Int)=>So x.1 (R_ x0) (0,[]))(d)(_:d=λ(x0:Int)=>So x.2 (R_ x0) (0,[]))(a)(_:a=(λ(x0:Int)=>W_ (b_ x0 b) (U' (U' (Li (((c x0).1,(c x0).2),(d x0).1,(d x0).2))))))(e)(_:e=j_ b (V' x.2))(f)(_:f=(λ(x0:Int)=>V_ .i64 x0 1))(g)(_:g=List.length x.1)(h)(_:h=List.length x.2):HS x=W_ (U' e) (U' (b_ (Am a f 0) b))/\PO x=((e=true->True)/\(e=false->a_ a f (λ(x0:Int)=>(b_ x0 b=true->((0:Int)<=x0/\x0<(g:Int))/\R_ x0<g/\((0:Int)<=x0/\x0<(h:Int))/\R_ x0<h/\Sn (((c x0).1,(c x0).2),(d x0).1,(d x0).2))/\(b_ x0 b=false->True)) 0)):=by subst_vars;exact⟨(Ep.v x).trans (by kernel_rfl),(Ep.o x).trans (by kernel_rfl)⟩
abbrev vZ:=λx=>(Zot x _ rfl _ rfl _ rfl _ rfl _ rfl _ rfl _ rfl _ rfl).1
abbrev wq:=λx=>(Zot x _ rfl _ rfl _ rfl _ rfl _ rfl _ rfl _ rfl _ rfl).2
theorem Zow(x:sk)(b)(_:b=λ(x0:Au)=>So x.1 (R_ x0.2) (0,[]))(f)(_:f=V' x.1)(c)(_:c=(λ(x0:Au)=>W_ (b_ x0.2 f) (W_ (U' (j_ (b x0).1 x0.1)) (U' (b_ (E6 ((b x0).2,V_ .i64 x0.1 1)) 0)))))(d)(_:d=(λ(x0:Au)=>(E6 ((b x0).2,V_ .i64 x0.1 1),V_ .i64 x0.2 1)))(a)(_:a=Am c d (x.2,0))(e)(_:e=List.length x.1):IF x=Z' (b_ a.2 f) (Z' (j_ (So x.1 (R_ a.2) (0,[])).1 a.1) (-1) (-1)) a.1/\RL x=a_ c d (λ(x0:Au)=>(b_ x0.2 f=true->((0:Int)<=x0.2/\x0.2<(e:Int))/\R_ x0.2<e/\(j_ (b x0).1 x0.1=true->True)/\(j_ (b x0).1 x0.1=false->((0:Int)<=x0.2/\x0.2<(e:Int))/\R_ x0.2<e/\Si ((b x0).2,V_ .i64 x0.1 1)))/\(b_ x0.2 f=false->True)) (x.2,0):=by subst_vars;exact⟨(IE.v x).trans (by kernel_rfl),(IE.o x).trans (by kernel_rfl)⟩
abbrev tU:=λx=>(Zow x _ rfl _ rfl _ rfl _ rfl _ rfl _ rfl).1
abbrev tS:=λx=>(Zow x _ rfl _ rfl _ rfl _ rfl _ rfl _ rfl).2
attribute [irreducible] HS PO IF RL
end
theorem Ax(a:Bool):U' a=!a:=by simp only[Ri]
theorem AB(a b:Bool):W_ a b=(a&&b):=by simp only[fg]
theorem Bd(a b:Bool):t8 a b=(a||b):=by simp only[rM]
theorem EP(a b:Bool):bIff a b=(a == b):=by simp only[qS]
theorem BM{α:Type}(c:Bool)(x y:α):Z' c x y=if c=true then x else y:=by cases c<;>simp[CK,CD]
theorem BF(a b:Int):g_ a b=decide (a=b):=by
 rw[Y8];by_cases h:a=b<;>simp[h]
theorem Bo(a b:Int):j_ a b=!decide (a=b):=by
 rw[rI];by_cases h:a=b<;>simp[h]
theorem An(a b:Int):b_ a b=decide (a<b):=by simp only[rU]
theorem Ff(a b:Int):iLe a b=decide (a<=b):=by simp only[rV]
theorem DH(a b:Int):iGt a b=decide (b<a):=by simp only[rO]
theorem CY(a b:Int):iGe a b=decide (b<=a):=by simp only[so]
theorem qv(a b:Kx):sEq a b=(a == b):=by simp only[r7]
theorem qD(a b:Kx):sNe a b=!(a == b):=by simp only[rK]
section
variable {α:Type}
theorem Al(l:List α):V' l=(l.length:Int):=by simp only[qG]
theorem Iw(l:List α):lN l=l.length:=by simp only[Zj]
theorem AJ(l:List α)(j:Nat)(d:α):So l j d=l.getD j d:=by simp only[fH]
theorem GF(l:List α)(j:Nat)(x:α):lSet l j x=l.set j x:=by simp only[fu]
theorem Jm(l:List α)(a b:Nat):lSub l a b=(l.drop a).take (b-a):=by simp only[qA]
theorem XP(l:List α)(n:Nat):lTake l n=l.take n:=by simp only[dL]
theorem BL(l m:List α):i9 l m=l++m:=by simp only[O7]
theorem dW(n:Int)(x:α):lRep n x=List.replicate n.toNat x:=by simp only[rF]
theorem Aw(a:Int):R_ a=a.toNat:=by simp only[fJ]
theorem qb(a b:Kx):sAdd a b=a++b:=by simp only[qT]
end
def Bl(n:Int):Prop:=-9223372036854775808<=n/\n<=9223372036854775807
theorem wrap_i64{n:Int}(h:Bl n):IntKind.i64.wrap n=n:=by
 obtain⟨h1,b⟩:=h;show (if decide (n % 18446744073709551616>=9223372036854775808)=true then n % 18446744073709551616-18446744073709551616 else n % 18446744073709551616)=n;simp only[Ay];split<;>omega
theorem B9{a b:Int}(h:Bl (a+b)):V_ .i64 a b=a+b:=by rw[eK];exact wrap_i64 h
theorem FB{a b:Int}(h:Bl (a-b)):iSub .i64 a b=a-b:=by rw[qJ];exact wrap_i64 h
theorem pj{a b:Int}(g:0<=a):iRem a b=a % b:=by rw[eX];exact Int.tmod_eq_emod_of_nonneg g
section
variable {X:Type} {c:X->Bool} {f:X->X} {p:X->Prop}
theorem MX(I:X->Prop)(m:X->Nat)(h:∀x,I x->p x/\(c x=true->I (f x)/\m (f x)<m x)){x0:X}(h0:I x0):a_ c f p x0/\I (Am c f x0)/\c (Am c f x0)=false:=by
 have go:∀(n:Nat) (x:X),m x<n->I x->∃y,LoopTo c f p x y/\I y/\c y=false:=by
  intro n;induction n with
  |zero=>intro x hm;exact absurd hm (Pa _)
  | succ n ih=>
    intro x hm j;obtain⟨h1,i⟩:=h x j;cases b:c x with
    |false=>exact⟨x,.stop h1 b,j,b⟩
    | true=>
      obtain⟨g,u⟩:=i b;obtain⟨y,t,s,q⟩:=ih (f x) (by omega) g;exact⟨y,.go h1 b t,s,q⟩
 obtain⟨y,h1,i,g⟩:=go _ x0 (Ua _) h0;rw[h1.val];exact⟨⟨y,h1⟩,i,g⟩
theorem Ot(I:X->Prop)(m:X->Nat)(h:∀x,I x->c x=true->I (f x)/\m (f x)<m x){x0:X}(h0:I x0):I (Am c f x0)/\c (Am c f x0)=false:=(MX (p:=λ_=>True) I m (λx b=>⟨trivial,h x b⟩) h0).2
theorem H4(n:Nat)(st:Nat->X){x0:X}(h0:st 0=x0)(hs:∀k,k<n->p (st k)/\c (st k)=true/\f (st k)=st (k+1))(b:p (st n)/\c (st n)=false):a_ c f p x0/\Am c f x0=st n:=by
 have go:∀k,k<=n->LoopTo c f p (st (n-k)) (st n):=by
  intro k;induction k with
  |zero=>intro _;exact .stop b.1 b.2
  | succ k ih=>
    intro j;obtain⟨h1,i,g⟩:=hs (n-(k+1)) (by omega);refine .go h1 i ?_;rw[g,show n-(k+1)+1=n-k by omega];exact ih (by omega)
 have:=go n (BN _);rw[Yw,h0]at this;exact⟨⟨_,this⟩,this.val⟩
end
def C8(t:Nat->Bool):Nat->Nat->Nat
 |0,i=>i|k+1,i=>if t i then i else C8 t k (i+1)
theorem Jj(t:Nat->Bool):∀k i,i<=C8 t k i/\C8 t k i<=i+k
 |0,i=>⟨BN _,BN _⟩
 | k+1,i=>by
   unfold C8;split
   ·omega
   have:=Jj t k (i+1);omega
theorem Oq(t:Nat->Bool):∀k i,C8 t k i<i+k->t (C8 t k i)=true
 |0,i,h=>by unfold C8 at h;omega
 | k + 1,i,h=>by
   unfold C8 at h ⊢;split
   ·rename_i ht;exact ht
   rename_i ht;rw[Ae ht]at h;exact Oq t k (i+1) (by omega)
theorem Th(t:Nat->Bool):∀k i j,i<=j->j<C8 t k i->t j=false
 |0,i,j,h,h'=>by unfold C8 at h';omega
 | k + 1,i,j,h,h'=>by
   unfold C8 at h';split at h'
   ·omega
   rename_i ht;by_cases b:j=i
   ·subst b;simpa using ht
   exact Th t k (i+1) j (by omega) h'
theorem mZ{c:Int->Bool}{f:Int->Int}{p:Int->Prop}(n:Nat)(t:Nat->Bool)(u:(n:Int)<=9223372036854775806)(g:∀i:Nat,i<=n->c i=(decide (i<n)&&!t i))(s:∀i:Nat,i<n->f i=V_ .i64 i 1)(hp:∀i:Nat,i<=n->p i):a_ c f p 0/\Am c f 0=(C8 t n 0:Nat):=by
 have j:=Jj t n 0;refine H4 (C8 t n 0) (λk=>(k:Int)) rfl (λk q=>?_) ⟨hp _ (by omega),?_⟩
 ·have b:k<n:=(by omega);refine⟨hp k (by omega),?_,?_⟩
  ·rw[g k (by omega),Th t n 0 k (by omega) q];simp[b]
  rw[s k b,B9 (by unfold Bl;omega)];omega
 rw[g _ (by omega)];by_cases h:C8 t n 0<n
 ·rw[Oq t n 0 (by omega)];simp
 simp[h]
theorem Oj{t:Nat->Bool}{n:Nat}:C8 t n 0=n↔∀i,i<n->t i=false:=by
 constructor
 ·intro h i hi;exact Th t n 0 i (by omega) (by omega)
 intro h;have b:=Jj t n 0;rcases Bz (C8 t n 0) n with h1|h1
 ·have:=Oq t n 0 (by omega);rw[h _ h1]at this;cases this
 omega
section
variable {α:Type}
theorem Zh4(x:List α)(k:Nat)(b:k<x.length)(d:α)(l:List α)(g:l.length=x.length)(h:l.take k=x.take k):(l.set k (x.getD k d)).take (k+1)=x.take (k+1):=by
 rw[Yr,Yr,List.take_set];have:(l.take k).set k (x.getD k d)=l.take k:=by
  apply List.set_eq_of_length_le;rw[C9];exact Nat.min_le_left _ _
 rw[this,h];congr 1;rw[ft (by omega),C0,Bc b];simp
end
theorem qd{α:Type}{c:Int->Bool}{f:Int->Int}{p:Int->Prop}(a b:List α)(d:α)(g:Nat->Bool)(x:a.length=b.length)(s:∀i,i<a.length->(g i=false↔a.getD i d=b.getD i d))(t:(a.length:Int)<=9223372036854775806)(z:∀i:Nat,i<=a.length->c i=(decide (i<a.length)&&!g i))(y:∀i:Nat,i<a.length->f i=V_ .i64 i 1)(hp:∀i:Nat,i<=a.length->p i):a_ c f p 0/\(Am c f 0<(a.length:Int)↔a≠b):=by
 obtain⟨h1,C⟩:=mZ a.length g t z y hp;refine⟨h1,?_⟩;rw[C];have u:=Jj g a.length 0;constructor
 ·intro h n;subst n;have:=Oq g a.length 0 (by omega);rw[(s _ (by omega)).2 rfl]at this;cases this
 intro h;rcases Bz (C8 g a.length 0) a.length with A|A
 ·omega
 exfalso;apply h;have q:C8 g a.length 0=a.length:=by omega
 rw[Oj]at q;refine YB x λi hi j=>?_;have:=(s i hi).1 (q i hi);rw[C0,C0,Bc hi,Bc j]at this;simpa using this
theorem Uf{c:Int->Bool}{f:Int->Int}(n:Nat)(t:Nat->Bool)(b:(n:Int)<=9223372036854775806)(j:∀i:Nat,i<=n->c i=(decide (i<n)&&!t i))(g:∀i:Nat,i<n->f i=V_ .i64 i 1):Am c f 0=(C8 t n 0:Nat):=(mZ (p:=λ_=>True) n t b j g (λ_ _=>trivial)).2
theorem Pd{α:Type}{c:Int->Bool}{f:Int->Int}{p:Int->Prop}(a b:List α)(d:α)(g:Nat->Bool)(n:a.length=b.length)(t:∀i,i<a.length->(g i=false↔a.getD i d=b.getD i d))(j:(a.length:Int)<=9223372036854775806)(s:∀i:Nat,i<=a.length->c i=(decide (i<a.length)&&!g i))(q:∀i:Nat,i<a.length->f i=V_ .i64 i 1)(hp:∀i:Nat,i<=a.length->p i):a_ c f p 0:=(qd a b d g n t j s q hp).1
theorem Pt{α:Type}{c:Int->Bool}{f:Int->Int}(a b:List α)(d:α)(g:Nat->Bool)(n:a.length=b.length)(t:∀i,i<a.length->(g i=false↔a.getD i d=b.getD i d))(j:(a.length:Int)<=9223372036854775806)(s:∀i:Nat,i<=a.length->c i=(decide (i<a.length)&&!g i))(q:∀i:Nat,i<a.length->f i=V_ .i64 i 1):Am c f 0<(a.length:Int)↔a≠b:=(qd (p:=λ_=>True) a b d g n t j s q (λ_ _=>trivial)).2
theorem lH {α:Type} {c:List α×Int->Bool} {f:List α×Int->List α×Int} {p:List α×Int->Prop} (x:List α) (z d:α) (C:x.length<=1048576)
 (s:∀st,c st=b_ st.2 (V' x)) (u:∀(l:List α) (i:Nat),i<x.length->f (l,(i:Int))=(l.set i (x.getD i d),V_ .i64 i 1))
 (hp:∀(l:List α) (i:Nat),l.length=x.length->i<=x.length->p (l,i)):
 a_ c f p (lRep (V' x) z,0)/\(Am c f (lRep (V' x) z,0)).1=x:=by
 have h:=MX (c:=c) (f:=f) (p:=p) (λst=>st.1.length=x.length/\∃i:Nat,st.2=i/\i<=x.length/\st.1.take i=x.take i) (λst=>x.length-st.2.toNat) (λst y=>?_) (x0:=(lRep (V' x) z,0)) ⟨by simp[dW,Al],0,rfl,Ec _,by simp⟩
 ·obtain⟨h1,⟨b,i,q,t,n⟩,A⟩:=h;refine⟨h1,?_⟩;rw[s,q,An,Al,Bn]at A;have:i=x.length:=(by omega);subst this;rw[F6,<- b,F6]at n;exact n
 obtain⟨l,j⟩:=st;obtain⟨b,i,q,t,n⟩:=y;simp only at b q n;subst q;refine⟨hp l i b t,λg=>?_⟩;rw[s,An,Al,Ay]at g;simp only at g;have hi:i<x.length:=by omega
 rw[u l i hi];simp only[AG];rw[B9 (by unfold Bl;omega)];refine⟨⟨by simp[b],i+1,by omega,by omega,Zh4 x i hi d l b n⟩,by omega⟩
theorem QP {α:Type} {c:List α×Int->Bool} {f:List α×Int->List α×Int} {p:List α×Int->Prop} (x:List α) (z d:α) (b:x.length<=1048576)
 (j:∀st,c st=b_ st.2 (V' x)) (g:∀(l:List α) (i:Nat),i<x.length->f (l,(i:Int))=(l.set i (x.getD i d),V_ .i64 i 1))
 (hp:∀(l:List α) (i:Nat),l.length=x.length->i<=x.length->p (l,i)):a_ c f p (lRep (V' x) z,0):=(lH x z d b j g hp).1
theorem Q3 {α:Type} {c:List α×Int->Bool} {f:List α×Int->List α×Int} (x:List α) (z d:α) (b:x.length<=1048576)
 (j:∀st,c st=b_ st.2 (V' x)) (g:∀(l:List α) (i:Nat),i<x.length->f (l,(i:Int))=(l.set i (x.getD i d),V_ .i64 i 1)):(Am c f (lRep (V' x) z,0)).1=x:=(lH (p:=λ_=>True) x z d b j g (λ_ _ _ _=>trivial)).2
theorem Cd{α:Type}(x:List α)(i:Nat)(d:α)(h:i<x.length):x.getD i d∈x:=by
 rw[C0,Bc h];exact Fc h
theorem QN{n:Int}{w:Nat}(h0:0<=n)(h:n<=1048576)(b:w<=1000):AE (n.toNat*w):=by
 show n.toNat*w<=2^40;have h1:n.toNat<=1048576:=by omega
 have:=Nat.mul_le_mul h1 b;omega
theorem qe {α:Type} {c:Int×Int->Bool} {f:Int×Int->Int×Int} {p:Int×Int->Prop} (x:List α) (d:α) (S:α->Prop) (g:α->Int->Int) (l0:Int) (h0:0<=l0) (h1:l0<=1048576) (M:x.length<=1048576)
 (D:∀i,i<x.length->∀l,0<=l->l<=1048576->g (x.getD i d) l<0\/(0<=g (x.getD i d) l/\g (x.getD i d) l<=l/\S (x.getD i d)))
 (G:∀(l:Int) (i:Nat),i<=x.length->c (l,(i:Int))=(decide (i<x.length)&&!decide (g (x.getD i d) l<0))) (F:∀(l:Int) (i:Nat),i<x.length->f (l,(i:Int))=(g (x.getD i d) l,V_ .i64 i 1))
 (hp:∀(l:Int) (i:Nat),0<=l->l<=1048576->i<=x.length->p (l,i)):
 a_ c f p (l0,0)/\((Am c f (l0,0)).2<(x.length:Int)\/(¬(Am c f (l0,0)).2<(x.length:Int)/\0<=(Am c f (l0,0)).1/\(Am c f (l0,0)).1<=l0/\∀a∈x,S a)):=by
 have h:=MX (c:=c) (f:=f) (p:=p) (λst=>0<=st.1/\st.1<=l0/\∃i:Nat,st.2=i/\i<=x.length/\∀j,j<i->S (x.getD j d)) (λst=>x.length-st.2.toNat) (λst J=>?_) (x0:=(l0,0)) ⟨h0,Int.le_refl _,0,rfl,Ec _,λj z=>by omega⟩
 ·obtain⟨n,⟨u,t,i,s,A,C⟩,L⟩:=h;refine⟨n,?_⟩;rw[s];rcases Bz i x.length with hi|hi
  ·left;omega
  right;refine⟨by omega,u,t,λa I=>?_⟩;obtain⟨j,z,rfl⟩:=Ik I;have:=C j (by omega);rw[C0,Bc z]at this;exact this
 obtain⟨l,j⟩:=st;obtain⟨n,u,i,t,s,A⟩:=J;simp only at n u t;subst t;refine⟨hp l i n (by omega) s,λb=>?_⟩;rw[G l i s]at b;simp only[Aj,Ay,Br,Bn]at b;obtain⟨hi,b⟩:=b;have q:=(D i hi l n (by omega)).resolve_left b;rw[F l i hi];simp only[AG];rw[B9 (by unfold Bl;omega)];refine⟨⟨q.1,by omega,i+1,by omega,by omega,λj z=>?_⟩,by omega⟩;by_cases y:j=i
 ·subst y;exact q.2.2
 exact A j (by omega)
theorem rP {α:Type} {c:Int×Int->Bool} {f:Int×Int->Int×Int} {p:Int×Int->Prop} (x:List α) (d:α) (S:α->Prop) (g:α->Int->Int) (l0:Int) (h0:0<=l0) (h1:l0<=1048576) (b:x.length<=1048576)
 (j:∀i,i<x.length->∀l,0<=l->l<=1048576->g (x.getD i d) l<0\/(0<=g (x.getD i d) l/\g (x.getD i d) l<=l/\S (x.getD i d)))
 (q:∀(l:Int) (i:Nat),i<=x.length->c (l,(i:Int))=(decide (i<x.length)&&!decide (g (x.getD i d) l<0))) (n:∀(l:Int) (i:Nat),i<x.length->f (l,(i:Int))=(g (x.getD i d) l,V_ .i64 i 1))
 (hp:∀(l:Int) (i:Nat),0<=l->l<=1048576->i<=x.length->p (l,i)):a_ c f p (l0,0):=(qe x d S g l0 h0 h1 b j q n hp).1
theorem sG {α:Type} {c:Int×Int->Bool} {f:Int×Int->Int×Int} (x:List α) (d:α) (S:α->Prop) (g:α->Int->Int) (l0:Int) (h0:0<=l0) (h1:l0<=1048576) (b:x.length<=1048576)
 (j:∀i,i<x.length->∀l,0<=l->l<=1048576->g (x.getD i d) l<0\/(0<=g (x.getD i d) l/\g (x.getD i d) l<=l/\S (x.getD i d)))
 (q:∀(l:Int) (i:Nat),i<=x.length->c (l,(i:Int))=(decide (i<x.length)&&!decide (g (x.getD i d) l<0))) (n:∀(l:Int) (i:Nat),i<x.length->f (l,(i:Int))=(g (x.getD i d) l,V_ .i64 i 1)):
 (Am c f (l0,0)).2<(x.length:Int)\/(¬(Am c f (l0,0)).2<(x.length:Int)/\0<=(Am c f (l0,0)).1/\(Am c f (l0,0)).1<=l0/\∀a∈x,S a):=(qe (p:=λ_=>True) x d S g l0 h0 h1 b j q n (λ_ _ _ _ _=>trivial)).2
theorem rC{α:Type}{x:List α}{y:Int×Int}{l0 l:Int}{S:α->Prop}(h:l0<=l)(b:y.2<(x.length:Int)\/(¬y.2<(x.length:Int)/\0<=y.1/\y.1<=l0/\∀a∈x,S a)):Z' (b_ y.2 (V' x)) (-1) y.1<0\/(0<=Z' (b_ y.2 (V' x)) (-1) y.1/\Z' (b_ y.2 (V' x)) (-1) y.1<=l/\∀a∈x,S a):=by
 rw[An,Al];rcases b with b|⟨b,i,j,g⟩
 ·rw[FC b,CK];left;omega
 rw[C7 b,CD];right;exact⟨i,by omega,g⟩
theorem Ke{X:Type}{c:X->Bool}{f:X->X}{p:X->Prop}(b:X->Int)(n:Int)(u:n<=9223372036854775806)(q:∀x,0<=b x->b x<=n->c x=true->b x<n)(j:∀x,b (f x)=V_ .i64 (b x) 1)(hp:∀x,0<=b x->b x<=n->p x){x0:X}(h0:0<=b x0)(h1:b x0<=n):a_ c f p x0:=by
 refine(MX (λx=>0<=b x/\b x<=n) (λx=>(n-b x).toNat) (λx g=>⟨hp x g.1 g.2,λi=>?_⟩) ⟨h0,h1⟩).1;have:=q x g.1 g.2 i;obtain⟨t,s⟩:=g;have e:=j x;rw[B9 (by unfold Bl;omega)]at e;refine⟨by omega,by omega⟩
theorem nQ{c:Int->Bool}{f:Int->Int}{n:Nat}(h:¬Am c f 0<(n:Int))(g:(n:Int)<=9223372036854775806)(s:∀i:Nat,i<=n->c i=true->i<n)(q:∀i:Nat,i<n->f i=V_ .i64 i 1):∀i:Nat,i<n->c i=true:=by
 have b:=Uf (c:=c) (f:=f) n (λi=>!c i) g (λi hi=>by
  by_cases h1:i<n
  ·simp[h1]
  cases t:c i with
  |false=>simp[h1]
  |true=>exact absurd (s i hi t) h1) q
 rw[b]at h;have j:=Jj (λi=>!c i) n 0;have e:C8 (λi=>!c i) n 0=n:=by omega
 intro i hi;have:=Oj.1 e i hi;simpa using this
def Ox(_:Int×Int×Int×Int):Prop:=True
def Xp(_:Int×Int×Int×Int):Prop:=True
theorem mB(a b:CF)(h:Ox a):P2 (a,b)/\(J0 (a,b)=true↔a=b):=by
 obtain⟨u,t,s,q⟩:=a;obtain⟨n,j,i,g⟩:=b;rw[xz,yZ];refine⟨by simp,?_⟩;simp only[Ax,AB,EP,Bo,Aj,Jw,Ay,Aq,Bb];try (constructor<;>intro h<;>simp_all)
def OP(x:Dk):Prop:=Ox (x.2.1,x.2.2.1,x.2.2.2.1,x.2.2.2.2)/\True
def pI(x:Dk):Prop:=Xp (x.2.1,x.2.2.1,x.2.2.2.1,x.2.2.2.2)/\True
def Ho(x:Bj):Prop:=x.length<=1048576/\∀a∈x,OP a
def oN(x:Bj):Prop:=x.length<=9223372036854775807/\∀a∈x,pI a
theorem Zha(x:Bj)(b:oN x)(l:Int)(h0:0<=l)(h1:l<=1048576):Wf (x,l)/\(MK (x,l)<0\/(0<=MK (x,l)/\MK (x,l)<=l/\Ho x)):=by
 rw[zB,zF];have g:x.length<=9223372036854775807:=b.1;have hs:iSub .i64 l (V' x)=l-x.length:=by rw[Al];exact FB (by unfold Bl;omega)
 refine⟨trivial,?_⟩;simp only[hs,An,BM,Ay];split
 ·left;omega
 right;exact⟨by omega,by omega,⟨by omega,λa _=>by simp[OP,Ox]⟩⟩
theorem nc(x:CF)(h:Ox x):P1 x/\Fv x=x:=by
 rw[yY,yD];exact⟨trivial,rfl⟩
theorem ZiM(x:Dk)(h:OP x):SM x/\Gs x=x:=by
 rw[ZaE,ZaJ];have b:=nc (x.2.1,x.2.2.1,x.2.2.2.1,x.2.2.2.2) (by unfold OP at h;exact h.1);refine⟨b.1,?_⟩;simp only[b.2]
theorem Zho(x:Bj)(h:Ho x):Wj x/\WB x=x:=by
 rw[zJ,zz];obtain⟨h1,g⟩:=h;have b:∀i:Nat,i<x.length->SM ((x.getD i (0,0,0,0,0)).1,(x.getD i (0,0,0,0,0)).2.1,(x.getD i (0,0,0,0,0)).2.2.1,(x.getD i (0,0,0,0,0)).2.2.2.1,(x.getD i (0,0,0,0,0)).2.2.2.2)/\Gs ((x.getD i (0,0,0,0,0)).1,(x.getD i (0,0,0,0,0)).2.1,(x.getD i (0,0,0,0,0)).2.2.1,(x.getD i (0,0,0,0,0)).2.2.2.1,(x.getD i (0,0,0,0,0)).2.2.2.2)=x.getD i (0,0,0,0,0):=λi hi=>ZiM _ (g _ (Cd x i (0,0,0,0,0) hi));refine⟨⟨⟨by rw[Al];omega,QN (by rw[Al];omega) (by rw[Al];omega) (by omega)⟩,QP x (0,0,0,0,0) (0,0,0,0,0) h1 (λ_=>rfl) (λl i hi=>by simp only[GF,AJ,Aw,AG];rw[(b i hi).2]) (λl i j hi=>?_)⟩,Q3 x (0,0,0,0,0) (0,0,0,0,0) h1 (λ_=>rfl) (λl i hi=>by simp only[GF,AJ,Aw,AG];rw[(b i hi).2])⟩;simp only[An,Al,Aw,AJ,Ay,AG];exact⟨λn=>⟨by omega,by omega,(b i (by omega)).1,by omega,by omega⟩,λ_=>trivial⟩
theorem Zjj(a b:Dk)(h:OP a):SQ (a,b)/\(Ly (a,b)=true↔a=b):=by
 obtain⟨z,x,u,t,s⟩:=a;obtain⟨y,q,n,j,i⟩:=b;have g:=mB (x,u,t,s) (q,n,j,i) (by unfold OP at h;exact h.1);rw[Za3,ZaH];refine⟨by simp[g.1,g.2],?_⟩;simp only[g.1,g.2,Ax,AB,EP,Bo,Aj,Jw,Ay,Aq,Bb];try (constructor<;>intro h<;>simp_all)
theorem ZhS(a b:Bj)(h:Ho a):Wc (a,b)/\(WC (a,b)=true↔a=b):=by
 rw[Zai,Zap];obtain⟨h1,s⟩:=h;have n:∀i:Nat,i<a.length->SQ (((So a i (0,0,0,0,0)).1,(So a i (0,0,0,0,0)).2.1,(So a i (0,0,0,0,0)).2.2.1,(So a i (0,0,0,0,0)).2.2.2.1,(So a i (0,0,0,0,0)).2.2.2.2),((So b i (0,0,0,0,0)).1,(So b i (0,0,0,0,0)).2.1,(So b i (0,0,0,0,0)).2.2.1,(So b i (0,0,0,0,0)).2.2.2.1,(So b i (0,0,0,0,0)).2.2.2.2))/\(Ly (((So a i (0,0,0,0,0)).1,(So a i (0,0,0,0,0)).2.1,(So a i (0,0,0,0,0)).2.2.1,(So a i (0,0,0,0,0)).2.2.2.1,(So a i (0,0,0,0,0)).2.2.2.2),((So b i (0,0,0,0,0)).1,(So b i (0,0,0,0,0)).2.1,(So b i (0,0,0,0,0)).2.2.1,(So b i (0,0,0,0,0)).2.2.2.1,(So b i (0,0,0,0,0)).2.2.2.2))=true↔a.getD i (0,0,0,0,0)=b.getD i (0,0,0,0,0)):=λi hi=>by
  have:=Zjj (a.getD i (0,0,0,0,0)) (b.getD i (0,0,0,0,0)) (s _ (Cd a i (0,0,0,0,0) hi));rw[AJ,AJ];exact this
 by_cases j:a.length=b.length
 ·refine⟨⟨λ_=>trivial,λ_=>Pd a b (0,0,0,0,0) (λi=>U' (Ly (((So a i (0,0,0,0,0)).1,(So a i (0,0,0,0,0)).2.1,(So a i (0,0,0,0,0)).2.2.1,(So a i (0,0,0,0,0)).2.2.2.1,(So a i (0,0,0,0,0)).2.2.2.2),((So b i (0,0,0,0,0)).1,(So b i (0,0,0,0,0)).2.1,(So b i (0,0,0,0,0)).2.2.1,(So b i (0,0,0,0,0)).2.2.2.1,(So b i (0,0,0,0,0)).2.2.2.2)))) j (λi hi=>by simp only[Ax,B7,(n i hi).2]) (by omega) (λi hi=>by simp only[AB,An,Al,Aw,Ax,AG,CX]) (λi hi=>rfl) (λi hi=>?_)⟩,?_⟩
  ·simp only[An,Al,Aw,Ay,AG];exact⟨λt=>⟨by omega,by omega,by omega,by omega,(n i (by omega)).1⟩,λ_=>trivial⟩
  have q:=Pt (c:=λi:Int=>W_ (b_ i (V' a)) (U' ((λi=>U' (Ly (((So a i (0,0,0,0,0)).1,(So a i (0,0,0,0,0)).2.1,(So a i (0,0,0,0,0)).2.2.1,(So a i (0,0,0,0,0)).2.2.2.1,(So a i (0,0,0,0,0)).2.2.2.2),((So b i (0,0,0,0,0)).1,(So b i (0,0,0,0,0)).2.1,(So b i (0,0,0,0,0)).2.2.1,(So b i (0,0,0,0,0)).2.2.2.1,(So b i (0,0,0,0,0)).2.2.2.2)))) i.toNat))) (f:=λi=>V_ .i64 i 1) a b (0,0,0,0,0) (λi=>U' (Ly (((So a i (0,0,0,0,0)).1,(So a i (0,0,0,0,0)).2.1,(So a i (0,0,0,0,0)).2.2.1,(So a i (0,0,0,0,0)).2.2.2.1,(So a i (0,0,0,0,0)).2.2.2.2),((So b i (0,0,0,0,0)).1,(So b i (0,0,0,0,0)).2.1,(So b i (0,0,0,0,0)).2.2.1,(So b i (0,0,0,0,0)).2.2.2.1,(So b i (0,0,0,0,0)).2.2.2.2)))) j (λi hi=>by simp only[Ax,B7,(n i hi).2]) (by omega) (λi hi=>by simp only[AB,An,Al,Ax,AG,CX]) (λi hi=>rfl);have g:U' (j_ (V' a) (V' b))=true:=(by rw[Ax,Bo,Al,Al,j];simp);rw[g,AB true,Hv,Ax (b_ _ (V' a)),An _ (V' a)];simp only[<- Aw,Al]at q ⊢;simp only[Br,Bn];rw[q];simp
 have g:U' (j_ (V' a) (V' b))=false:=by rw[Ax,Bo,Al,Al];simp;omega
 refine⟨⟨λ_=>trivial,λh=>?_⟩,?_⟩
 ·rw[Ax]at g;rw[h]at g;cases g
 rw[g,AB,Kj];constructor
 ·intro h;cases h
 intro e;subst e;exact absurd rfl j
def MQ(x:DA):Prop:=x.length<=1048576/\∀a∈x,Ox a
def lS(x:DA):Prop:=x.length<=9223372036854775807/\∀a∈x,Xp a
theorem ZeV(x:DA)(b:lS x)(l:Int)(h0:0<=l)(h1:l<=1048576):Sc (x,l)/\(EH (x,l)<0\/(0<=EH (x,l)/\EH (x,l)<=l/\MQ x)):=by
 rw[v8,wE];have g:x.length<=9223372036854775807:=b.1;have hs:iSub .i64 l (V' x)=l-x.length:=by rw[Al];exact FB (by unfold Bl;omega)
 refine⟨trivial,?_⟩;simp only[hs,An,BM,Ay];split
 ·left;omega
 right;exact⟨by omega,by omega,⟨by omega,λa _=>by simp[Ox]⟩⟩
def Ji(x:Cz):Prop:=x.length<=1048576/\∀a∈x,MQ a
def k9(x:Cz):Prop:=x.length<=9223372036854775807/\∀a∈x,lS a
theorem ZdJ(x:Cz)(t:k9 x)(l:Int)(h0:0<=l)(h1:l<=1048576):Vy (x,l)/\(MC (x,l)<0\/(0<=MC (x,l)/\MC (x,l)<=l/\Ji x)):=by
 rw[uZ,uc];obtain⟨C,n⟩:=t;have hs:iSub .i64 l (V' x)=l-x.length:=by rw[Al];exact FB (by unfold Bl;omega)
 simp only[hs];by_cases b:l-(x.length:Int)<0
 ·have s:b_ (l-(x.length:Int)) 0=true:=(by rw[An];simpa using b);rw[s];exact⟨⟨λ_=>trivial,λh=>(by cases h)⟩,by rw[CK];left;omega⟩
 have s:b_ (l-(x.length:Int)) 0=false:=by rw[An];simpa using b
 rw[s];have q:∀i:Nat,i<x.length->∀m:Int,0<=m->m<=1048576->Sc (x.getD i [],m)/\(EH (x.getD i [],m)<0\/(0<=EH (x.getD i [],m)/\EH (x.getD i [],m)<=m/\MQ (x.getD i []))):=λi hi m j g=>ZeV _ (n _ (Cd x i [] hi)) m j g;refine⟨⟨λh=>(by cases h),λ_=>rP x [] MQ (λa m=>EH (a,m)) (l-(x.length:Int)) (by omega) (by omega) (by omega) (λi hi m j g=>(q i hi m j g).2) (λm i hi=>by simp only[AB,An,Al,Aw,AJ,Ax,AG,CX]) (λm i hi=>by simp only[Aw,AJ,AG]) (λm i j g hi=>?_)⟩,?_⟩
 ·simp only[An,Al,Aw,AJ,Ay,AG];exact⟨λD=>⟨by omega,by omega,(q i (by omega) m j g).1⟩,λ_=>trivial⟩
 rw[CD];have u:=sG (c:=λst:Int×Int=>W_ (b_ st.2 (V' x)) (U' (b_ (EH ((So x (R_ st.2) []),st.1)) 0))) (f:=λst=>(EH ((So x (R_ st.2) []),st.1),V_ .i64 st.2 1)) x [] MQ (λa m=>EH (a,m)) (l-(x.length:Int)) (by omega) (by omega) (by omega) (λi hi m j g=>(q i hi m j g).2) (λm i hi=>by simp only[AB,An,Al,Aw,AJ,Ax,AG,CX]) (λm i hi=>by simp only[Aw,AJ,AG]);rcases rC (l:=l) (by omega) u with h|⟨A,z,y⟩
 ·exact .inl h
 exact .inr ⟨A,z,(by omega),y⟩
def DW(x:Ca):Prop:=Ji x.2/\True
def Xu(x:Ca):Prop:=k9 x.2/\True
theorem Zff(x:Ca)(i:Xu x)(l:Int)(h0:0<=l)(h1:l<=1048576):VO (x,l)/\(Fw (x,l)<0\/(0<=Fw (x,l)/\Fw (x,l)<=l/\DW x)):=by
 rw[xi,xG];have u:=i;unfold Xu at i;obtain⟨n,b⟩:=ZdJ x.2 i.1 l (by omega) (by omega);generalize s:MC (x.2,l)=z0 at b ⊢;rcases b with b|⟨b,t,g⟩
 ·have q:b_ z0 0=true:=(by rw[An];simpa using b);refine⟨?_,?_⟩
  ·simp[n,q]
  simp only[q,CK];left;omega
 have j:b_ z0 0=false:=by rw[An];simpa using b
 simp only[j,CD];exact⟨by simp[n],.inr ⟨by omega,by omega,g,trivial⟩⟩
theorem Zeu(x:DA)(h:MQ x):R7 x/\P5 x=x:=by
 rw[wj,vW];obtain⟨h1,g⟩:=h;have b:∀i:Nat,i<x.length->P1 ((x.getD i (0,0,0,0)).1,(x.getD i (0,0,0,0)).2.1,(x.getD i (0,0,0,0)).2.2.1,(x.getD i (0,0,0,0)).2.2.2)/\Fv ((x.getD i (0,0,0,0)).1,(x.getD i (0,0,0,0)).2.1,(x.getD i (0,0,0,0)).2.2.1,(x.getD i (0,0,0,0)).2.2.2)=x.getD i (0,0,0,0):=λi hi=>nc _ (g _ (Cd x i (0,0,0,0) hi));refine⟨⟨⟨by rw[Al];omega,QN (by rw[Al];omega) (by rw[Al];omega) (by omega)⟩,QP x (0,0,0,0) (0,0,0,0) h1 (λ_=>rfl) (λl i hi=>by simp only[GF,AJ,Aw,AG];rw[(b i hi).2]) (λl i j hi=>?_)⟩,Q3 x (0,0,0,0) (0,0,0,0) h1 (λ_=>rfl) (λl i hi=>by simp only[GF,AJ,Aw,AG];rw[(b i hi).2])⟩;simp only[An,Al,Aw,AJ,Ay,AG];exact⟨λn=>⟨by omega,by omega,(b i (by omega)).1,by omega,by omega⟩,λ_=>trivial⟩
theorem ZdH(x:Cz)(h:Ji x):Vx x/\VG x=x:=by
 rw[uR,uj];obtain⟨h1,g⟩:=h;have b:∀i:Nat,i<x.length->R7 (x.getD i [])/\P5 (x.getD i [])=x.getD i []:=λi hi=>Zeu _ (g _ (Cd x i [] hi));refine⟨⟨⟨by rw[Al];omega,QN (by rw[Al];omega) (by rw[Al];omega) (by omega)⟩,QP x [] [] h1 (λ_=>rfl) (λl i hi=>by simp only[GF,AJ,Aw,AG];rw[(b i hi).2]) (λl i j hi=>?_)⟩,Q3 x [] [] h1 (λ_=>rfl) (λl i hi=>by simp only[GF,AJ,Aw,AG];rw[(b i hi).2])⟩;simp only[An,Al,Aw,AJ,Ay,AG];exact⟨λn=>⟨by omega,by omega,(b i (by omega)).1,by omega,by omega⟩,λ_=>trivial⟩
theorem Zgt(x:Ca)(h:DW x):VU x/\SK x=x:=by
 rw[y4,wZ];have b:=ZdH x.2 (by unfold DW at h;exact h.1);refine⟨b.1,?_⟩;simp only[b.2]
theorem ZeD(a b:DA)(h:MQ a):RZ (a,b)/\(K4 (a,b)=true↔a=b):=by
 rw[wA,wP];obtain⟨h1,s⟩:=h;have n:∀i:Nat,i<a.length->P2 (((So a i (0,0,0,0)).1,(So a i (0,0,0,0)).2.1,(So a i (0,0,0,0)).2.2.1,(So a i (0,0,0,0)).2.2.2),((So b i (0,0,0,0)).1,(So b i (0,0,0,0)).2.1,(So b i (0,0,0,0)).2.2.1,(So b i (0,0,0,0)).2.2.2))/\(J0 (((So a i (0,0,0,0)).1,(So a i (0,0,0,0)).2.1,(So a i (0,0,0,0)).2.2.1,(So a i (0,0,0,0)).2.2.2),((So b i (0,0,0,0)).1,(So b i (0,0,0,0)).2.1,(So b i (0,0,0,0)).2.2.1,(So b i (0,0,0,0)).2.2.2))=true↔a.getD i (0,0,0,0)=b.getD i (0,0,0,0)):=λi hi=>by
  have:=mB (a.getD i (0,0,0,0)) (b.getD i (0,0,0,0)) (s _ (Cd a i (0,0,0,0) hi));rw[AJ,AJ];exact this
 by_cases j:a.length=b.length
 ·refine⟨⟨λ_=>trivial,λ_=>Pd a b (0,0,0,0) (λi=>U' (J0 (((So a i (0,0,0,0)).1,(So a i (0,0,0,0)).2.1,(So a i (0,0,0,0)).2.2.1,(So a i (0,0,0,0)).2.2.2),((So b i (0,0,0,0)).1,(So b i (0,0,0,0)).2.1,(So b i (0,0,0,0)).2.2.1,(So b i (0,0,0,0)).2.2.2)))) j (λi hi=>by simp only[Ax,B7,(n i hi).2]) (by omega) (λi hi=>by simp only[AB,An,Al,Aw,Ax,AG,CX]) (λi hi=>rfl) (λi hi=>?_)⟩,?_⟩
  ·simp only[An,Al,Aw,Ay,AG];exact⟨λt=>⟨by omega,by omega,by omega,by omega,(n i (by omega)).1⟩,λ_=>trivial⟩
  have q:=Pt (c:=λi:Int=>W_ (b_ i (V' a)) (U' ((λi=>U' (J0 (((So a i (0,0,0,0)).1,(So a i (0,0,0,0)).2.1,(So a i (0,0,0,0)).2.2.1,(So a i (0,0,0,0)).2.2.2),((So b i (0,0,0,0)).1,(So b i (0,0,0,0)).2.1,(So b i (0,0,0,0)).2.2.1,(So b i (0,0,0,0)).2.2.2)))) i.toNat))) (f:=λi=>V_ .i64 i 1) a b (0,0,0,0) (λi=>U' (J0 (((So a i (0,0,0,0)).1,(So a i (0,0,0,0)).2.1,(So a i (0,0,0,0)).2.2.1,(So a i (0,0,0,0)).2.2.2),((So b i (0,0,0,0)).1,(So b i (0,0,0,0)).2.1,(So b i (0,0,0,0)).2.2.1,(So b i (0,0,0,0)).2.2.2)))) j (λi hi=>by simp only[Ax,B7,(n i hi).2]) (by omega) (λi hi=>by simp only[AB,An,Al,Ax,AG,CX]) (λi hi=>rfl);have g:U' (j_ (V' a) (V' b))=true:=(by rw[Ax,Bo,Al,Al,j];simp);rw[g,AB true,Hv,Ax (b_ _ (V' a)),An _ (V' a)];simp only[<- Aw,Al]at q ⊢;simp only[Br,Bn];rw[q];simp
 have g:U' (j_ (V' a) (V' b))=false:=by rw[Ax,Bo,Al,Al];simp;omega
 refine⟨⟨λ_=>trivial,λh=>?_⟩,?_⟩
 ·rw[Ax]at g;rw[h]at g;cases g
 rw[g,AB,Kj];constructor
 ·intro h;cases h
 intro e;subst e;exact absurd rfl j
theorem Zdv(a b:Cz)(h:Ji a):Vp (a,b)/\(VB (a,b)=true↔a=b):=by
 rw[uV,uM];obtain⟨h1,s⟩:=h;have n:∀i:Nat,i<a.length->RZ ((So a i []),(So b i []))/\(K4 ((So a i []),(So b i []))=true↔a.getD i []=b.getD i []):=λi hi=>by
  have:=ZeD (a.getD i []) (b.getD i []) (s _ (Cd a i [] hi));rw[AJ,AJ];exact this
 by_cases j:a.length=b.length
 ·refine⟨⟨λ_=>trivial,λ_=>Pd a b [] (λi=>U' (K4 ((So a i []),(So b i [])))) j (λi hi=>by simp only[Ax,B7,(n i hi).2]) (by omega) (λi hi=>by simp only[AB,An,Al,Aw,Ax,AG,CX]) (λi hi=>rfl) (λi hi=>?_)⟩,?_⟩
  ·simp only[An,Al,Aw,Ay,AG];exact⟨λt=>⟨by omega,by omega,by omega,by omega,(n i (by omega)).1⟩,λ_=>trivial⟩
  have q:=Pt (c:=λi:Int=>W_ (b_ i (V' a)) (U' ((λi=>U' (K4 ((So a i []),(So b i [])))) i.toNat))) (f:=λi=>V_ .i64 i 1) a b [] (λi=>U' (K4 ((So a i []),(So b i [])))) j (λi hi=>by simp only[Ax,B7,(n i hi).2]) (by omega) (λi hi=>by simp only[AB,An,Al,Ax,AG,CX]) (λi hi=>rfl);have g:U' (j_ (V' a) (V' b))=true:=(by rw[Ax,Bo,Al,Al,j];simp);rw[g,AB true,Hv,Ax (b_ _ (V' a)),An _ (V' a)];simp only[<- Aw,Al]at q ⊢;simp only[Br,Bn];rw[q];simp
 have g:U' (j_ (V' a) (V' b))=false:=by rw[Ax,Bo,Al,Al];simp;omega
 refine⟨⟨λ_=>trivial,λh=>?_⟩,?_⟩
 ·rw[Ax]at g;rw[h]at g;cases g
 rw[g,AB,Kj];constructor
 ·intro h;cases h
 intro e;subst e;exact absurd rfl j
theorem ZfA(a b:Ca)(h:DW a):V5 (a,b)/\(Qf (a,b)=true↔a=b):=by
 obtain⟨q,j⟩:=a;obtain⟨n,i⟩:=b;have g:=Zdv j i (by unfold DW at h;exact h.1);rw[wS,yl];refine⟨by simp[g.1,g.2],?_⟩;simp only[g.1,g.2,Ax,AB,EP,Bo,Aj,Jw,Ay,Aq,Bb];try (constructor<;>intro h<;>simp_all)
def Yj(_:Int×Int×Int):Prop:=True
def pG(_:Int×Int×Int):Prop:=True
def MY(x:Cn):Prop:=x.length<=1048576/\∀a∈x,Yj a
def oY(x:Cn):Prop:=x.length<=9223372036854775807/\∀a∈x,pG a
theorem Zg9(x:Cn)(b:oY x)(l:Int)(h0:0<=l)(h1:l<=1048576):SL (x,l)/\(EK (x,l)<0\/(0<=EK (x,l)/\EK (x,l)<=l/\MY x)):=by
 rw[zi,zq];have g:x.length<=9223372036854775807:=b.1;have hs:iSub .i64 l (V' x)=l-x.length:=by rw[Al];exact FB (by unfold Bl;omega)
 refine⟨trivial,?_⟩;simp only[hs,An,BM,Ay];split
 ·left;omega
 right;exact⟨by omega,by omega,⟨by omega,λa _=>by simp[Yj]⟩⟩
def Hh(x:CJ):Prop:=x.length<=1048576/\∀a∈x,MY a
def bY(x:CJ):Prop:=x.length<=9223372036854775807/\∀a∈x,oY a
theorem Zft(x:CJ)(t:bY x)(l:Int)(h0:0<=l)(h1:l<=1048576):V7 (x,l)/\(HU (x,l)<0\/(0<=HU (x,l)/\HU (x,l)<=l/\Hh x)):=by
 rw[y8,yV];obtain⟨C,n⟩:=t;have hs:iSub .i64 l (V' x)=l-x.length:=by rw[Al];exact FB (by unfold Bl;omega)
 simp only[hs];by_cases b:l-(x.length:Int)<0
 ·have s:b_ (l-(x.length:Int)) 0=true:=(by rw[An];simpa using b);rw[s];exact⟨⟨λ_=>trivial,λh=>(by cases h)⟩,by rw[CK];left;omega⟩
 have s:b_ (l-(x.length:Int)) 0=false:=by rw[An];simpa using b
 rw[s];have q:∀i:Nat,i<x.length->∀m:Int,0<=m->m<=1048576->SL (x.getD i [],m)/\(EK (x.getD i [],m)<0\/(0<=EK (x.getD i [],m)/\EK (x.getD i [],m)<=m/\MY (x.getD i []))):=λi hi m j g=>Zg9 _ (n _ (Cd x i [] hi)) m j g;refine⟨⟨λh=>(by cases h),λ_=>rP x [] MY (λa m=>EK (a,m)) (l-(x.length:Int)) (by omega) (by omega) (by omega) (λi hi m j g=>(q i hi m j g).2) (λm i hi=>by simp only[AB,An,Al,Aw,AJ,Ax,AG,CX]) (λm i hi=>by simp only[Aw,AJ,AG]) (λm i j g hi=>?_)⟩,?_⟩
 ·simp only[An,Al,Aw,AJ,Ay,AG];exact⟨λD=>⟨by omega,by omega,(q i (by omega) m j g).1⟩,λ_=>trivial⟩
 rw[CD];have u:=sG (c:=λst:Int×Int=>W_ (b_ st.2 (V' x)) (U' (b_ (EK ((So x (R_ st.2) []),st.1)) 0))) (f:=λst=>(EK ((So x (R_ st.2) []),st.1),V_ .i64 st.2 1)) x [] MY (λa m=>EK (a,m)) (l-(x.length:Int)) (by omega) (by omega) (by omega) (λi hi m j g=>(q i hi m j g).2) (λm i hi=>by simp only[AB,An,Al,Aw,AJ,Ax,AG,CX]) (λm i hi=>by simp only[Aw,AJ,AG]);rcases rC (l:=l) (by omega) u with h|⟨A,z,y⟩
 ·exact .inl h
 exact .inr ⟨A,z,(by omega),y⟩
def Cg(x:Bw):Prop:=DW (x.1,x.2.1)/\Hh x.2.2.1/\Ho x.2.2.2.2.1/\True
def cg(x:Bw):Prop:=Xu (x.1,x.2.1)/\bY x.2.2.1/\oN x.2.2.2.2.1/\True
theorem Zfc(x:Bw)(n:cg x)(l:Int)(h0:0<=l)(h1:l<=1048576):V4 (x,l)/\(JW (x,l)<0\/(0<=JW (x,l)/\JW (x,l)<=l/\Cg x)):=by
 rw[xR,ye];have N:=n;unfold cg at n;obtain⟨u,j⟩:=Zff (x.1,x.2.1) n.1 l (by omega) (by omega);generalize I:Fw ((x.1,x.2.1),l)=z0 at j ⊢;rcases j with j|⟨j,M,t⟩
 ·have b:b_ z0 0=true:=(by rw[An];simpa using j);refine⟨?_,?_⟩
  ·simp[u,b]
  simp only[b,CK];left;omega
 have C:b_ z0 0=false:=by rw[An];simpa using j
 simp only[C,CD];obtain⟨y,i⟩:=Zft x.2.2.1 n.2.1 z0 (by omega) (by omega);generalize G:HU (x.2.2.1,z0)=z1 at i ⊢;rcases i with i|⟨i,L,s⟩
 ·have b:b_ z1 0=true:=(by rw[An];simpa using i);refine⟨?_,?_⟩
  ·simp[u,y,b]
  simp only[b,CK];left;omega
 have A:b_ z1 0=false:=by rw[An];simpa using i
 simp only[A,CD];obtain⟨D,g⟩:=Zha x.2.2.2.2.1 n.2.2.1 z1 (by omega) (by omega);generalize F:MK (x.2.2.2.2.1,z1)=z2 at g ⊢;rcases g with g|⟨g,J,q⟩
 ·have b:b_ z2 0=true:=(by rw[An];simpa using g);refine⟨?_,?_⟩
  ·simp[u,y,D,b]
  simp only[b,CK];left;omega
 have z:b_ z2 0=false:=by rw[An];simpa using g
 simp only[z,CD];exact⟨by simp[u,y,D],.inr ⟨by omega,by omega,t,s,q,trivial⟩⟩
theorem Zjk(x:DD)(h:Yj x):SO x/\J1 x=x:=by
 rw[ZbN,ZaB];exact⟨trivial,rfl⟩
theorem Zhv(x:Cn)(h:MY x):SA x/\Qo x=x:=by
 rw[Zao,zo];obtain⟨h1,g⟩:=h;have b:∀i:Nat,i<x.length->SO ((x.getD i (0,0,0)).1,(x.getD i (0,0,0)).2.1,(x.getD i (0,0,0)).2.2)/\J1 ((x.getD i (0,0,0)).1,(x.getD i (0,0,0)).2.1,(x.getD i (0,0,0)).2.2)=x.getD i (0,0,0):=λi hi=>Zjk _ (g _ (Cd x i (0,0,0) hi));refine⟨⟨⟨by rw[Al];omega,QN (by rw[Al];omega) (by rw[Al];omega) (by omega)⟩,QP x (0,0,0) (0,0,0) h1 (λ_=>rfl) (λl i hi=>by simp only[GF,AJ,Aw,AG];rw[(b i hi).2]) (λl i j hi=>?_)⟩,Q3 x (0,0,0) (0,0,0) h1 (λ_=>rfl) (λl i hi=>by simp only[GF,AJ,Aw,AG];rw[(b i hi).2])⟩;simp only[An,Al,Aw,AJ,Ay,AG];exact⟨λn=>⟨by omega,by omega,(b i (by omega)).1,by omega,by omega⟩,λ_=>trivial⟩
theorem Zf4(x:CJ)(h:Hh x):VJ x/\We x=x:=by
 rw[y9,xk];obtain⟨h1,g⟩:=h;have b:∀i:Nat,i<x.length->SA (x.getD i [])/\Qo (x.getD i [])=x.getD i []:=λi hi=>Zhv _ (g _ (Cd x i [] hi));refine⟨⟨⟨by rw[Al];omega,QN (by rw[Al];omega) (by rw[Al];omega) (by omega)⟩,QP x [] [] h1 (λ_=>rfl) (λl i hi=>by simp only[GF,AJ,Aw,AG];rw[(b i hi).2]) (λl i j hi=>?_)⟩,Q3 x [] [] h1 (λ_=>rfl) (λl i hi=>by simp only[GF,AJ,Aw,AG];rw[(b i hi).2])⟩;simp only[An,Al,Aw,AJ,Ay,AG];exact⟨λn=>⟨by omega,by omega,(b i (by omega)).1,by omega,by omega⟩,λ_=>trivial⟩
theorem Zgp(x:Bw)(h:Cg x):N6 x/\Ah x=x:=by
 rw[xu,yG];have i:=Zgt (x.1,x.2.1) (by unfold Cg at h;exact h.1);have g:=Zf4 x.2.2.1 (by unfold Cg at h;exact h.2.1);have b:=Zho x.2.2.2.2.1 (by unfold Cg at h;exact h.2.2.1);refine⟨⟨i.1,g.1,b.1⟩,?_⟩;simp only[i.2,g.2,b.2]
theorem ZiT(a b:DD)(h:Yj a):SP (a,b)/\(LF (a,b)=true↔a=b):=by
 obtain⟨s,q,n⟩:=a;obtain⟨j,i,g⟩:=b;rw[Zbu,ZbI];refine⟨by simp,?_⟩;simp only[Ax,AB,EP,Bo,Aj,Jw,Ay,Aq,Bb];try (constructor<;>intro h<;>simp_all)
theorem ZgZ(a b:Cn)(h:MY a):SF (a,b)/\(Lk (a,b)=true↔a=b):=by
 rw[Zae,zj];obtain⟨h1,s⟩:=h;have n:∀i:Nat,i<a.length->SP (((So a i (0,0,0)).1,(So a i (0,0,0)).2.1,(So a i (0,0,0)).2.2),((So b i (0,0,0)).1,(So b i (0,0,0)).2.1,(So b i (0,0,0)).2.2))/\(LF (((So a i (0,0,0)).1,(So a i (0,0,0)).2.1,(So a i (0,0,0)).2.2),((So b i (0,0,0)).1,(So b i (0,0,0)).2.1,(So b i (0,0,0)).2.2))=true↔a.getD i (0,0,0)=b.getD i (0,0,0)):=λi hi=>by
  have:=ZiT (a.getD i (0,0,0)) (b.getD i (0,0,0)) (s _ (Cd a i (0,0,0) hi));rw[AJ,AJ];exact this
 by_cases j:a.length=b.length
 ·refine⟨⟨λ_=>trivial,λ_=>Pd a b (0,0,0) (λi=>U' (LF (((So a i (0,0,0)).1,(So a i (0,0,0)).2.1,(So a i (0,0,0)).2.2),((So b i (0,0,0)).1,(So b i (0,0,0)).2.1,(So b i (0,0,0)).2.2)))) j (λi hi=>by simp only[Ax,B7,(n i hi).2]) (by omega) (λi hi=>by simp only[AB,An,Al,Aw,Ax,AG,CX]) (λi hi=>rfl) (λi hi=>?_)⟩,?_⟩
  ·simp only[An,Al,Aw,Ay,AG];exact⟨λt=>⟨by omega,by omega,by omega,by omega,(n i (by omega)).1⟩,λ_=>trivial⟩
  have q:=Pt (c:=λi:Int=>W_ (b_ i (V' a)) (U' ((λi=>U' (LF (((So a i (0,0,0)).1,(So a i (0,0,0)).2.1,(So a i (0,0,0)).2.2),((So b i (0,0,0)).1,(So b i (0,0,0)).2.1,(So b i (0,0,0)).2.2)))) i.toNat))) (f:=λi=>V_ .i64 i 1) a b (0,0,0) (λi=>U' (LF (((So a i (0,0,0)).1,(So a i (0,0,0)).2.1,(So a i (0,0,0)).2.2),((So b i (0,0,0)).1,(So b i (0,0,0)).2.1,(So b i (0,0,0)).2.2)))) j (λi hi=>by simp only[Ax,B7,(n i hi).2]) (by omega) (λi hi=>by simp only[AB,An,Al,Ax,AG,CX]) (λi hi=>rfl);have g:U' (j_ (V' a) (V' b))=true:=(by rw[Ax,Bo,Al,Al,j];simp);rw[g,AB true,Hv,Ax (b_ _ (V' a)),An _ (V' a)];simp only[<- Aw,Al]at q ⊢;simp only[Br,Bn];rw[q];simp
 have g:U' (j_ (V' a) (V' b))=false:=by rw[Ax,Bo,Al,Al];simp;omega
 refine⟨⟨λ_=>trivial,λh=>?_⟩,?_⟩
 ·rw[Ax]at g;rw[h]at g;cases g
 rw[g,AB,Kj];constructor
 ·intro h;cases h
 intro e;subst e;exact absurd rfl j
theorem Zfq(a b:CJ)(h:Hh a):VW (a,b)/\(Qh (a,b)=true↔a=b):=by
 rw[yy,y5];obtain⟨h1,s⟩:=h;have n:∀i:Nat,i<a.length->SF ((So a i []),(So b i []))/\(Lk ((So a i []),(So b i []))=true↔a.getD i []=b.getD i []):=λi hi=>by
  have:=ZgZ (a.getD i []) (b.getD i []) (s _ (Cd a i [] hi));rw[AJ,AJ];exact this
 by_cases j:a.length=b.length
 ·refine⟨⟨λ_=>trivial,λ_=>Pd a b [] (λi=>U' (Lk ((So a i []),(So b i [])))) j (λi hi=>by simp only[Ax,B7,(n i hi).2]) (by omega) (λi hi=>by simp only[AB,An,Al,Aw,Ax,AG,CX]) (λi hi=>rfl) (λi hi=>?_)⟩,?_⟩
  ·simp only[An,Al,Aw,Ay,AG];exact⟨λt=>⟨by omega,by omega,by omega,by omega,(n i (by omega)).1⟩,λ_=>trivial⟩
  have q:=Pt (c:=λi:Int=>W_ (b_ i (V' a)) (U' ((λi=>U' (Lk ((So a i []),(So b i [])))) i.toNat))) (f:=λi=>V_ .i64 i 1) a b [] (λi=>U' (Lk ((So a i []),(So b i [])))) j (λi hi=>by simp only[Ax,B7,(n i hi).2]) (by omega) (λi hi=>by simp only[AB,An,Al,Ax,AG,CX]) (λi hi=>rfl);have g:U' (j_ (V' a) (V' b))=true:=(by rw[Ax,Bo,Al,Al,j];simp);rw[g,AB true,Hv,Ax (b_ _ (V' a)),An _ (V' a)];simp only[<- Aw,Al]at q ⊢;simp only[Br,Bn];rw[q];simp
 have g:U' (j_ (V' a) (V' b))=false:=by rw[Ax,Bo,Al,Al];simp;omega
 refine⟨⟨λ_=>trivial,λh=>?_⟩,?_⟩
 ·rw[Ax]at g;rw[h]at g;cases g
 rw[g,AB,Kj];constructor
 ·intro h;cases h
 intro e;subst e;exact absurd rfl j
theorem mO(a b:Bw)(h:Cg a):N7 (a,b)/\(Ea (a,b)=true↔a=b):=by
 obtain⟨z,y,x,I,u,G,F⟩:=a;obtain⟨t,s,q,D,n,C,A⟩:=b;have j:=ZfA (z,y) (t,s) (by unfold Cg at h;exact h.1);have i:=Zfq x q (by unfold Cg at h;exact h.2.1);have g:=ZhS u n (by unfold Cg at h;exact h.2.2.1);rw[yW,xy];refine⟨by simp[j.1,j.2,i.1,i.2,g.1,g.2],?_⟩;simp only[j.1,j.2,i.1,i.2,g.1,g.2,Ax,AB,EP,Bo,Aj,Jw,Ay,Aq,Bb];try (constructor<;>intro h<;>simp_all)
def TL(x:BO):Prop:=x.length<=1048576
def Xz(x:BH):Prop:=TL x.2/\True
theorem ZiP(x:BO)(h:TL x):Od x/\Ai x=x:=by
 rw[Za1,ZbQ];have h1:x.length<=1048576:=h;refine⟨⟨⟨by rw[Al];omega,QN (by rw[Al];omega) (by rw[Al];omega) (by omega)⟩,QP x 0 0 h1 (λ_=>rfl) (λl i hi=>by simp only[GF,AJ,Aw,AG]) (λl i b hi=>?_)⟩,Q3 x 0 0 h1 (λ_=>rfl) (λl i hi=>by simp only[GF,AJ,Aw,AG])⟩;simp only[An,Al,Aw,Ay,AG];exact⟨λg=>(by omega),λ_=>trivial⟩
theorem pe(a b:BO)(h:TL a):SN (a,b)/\(Og (a,b)=true↔a=b):=by
 rw[ZbP,Zbp];have h1:a.length<=1048576:=h;by_cases j:a.length=b.length
 ·refine⟨⟨λ_=>trivial,λ_=>Pd a b 0 (λi=>j_ (So a i 0) (So b i 0)) j (λi hi=>by simp[Bo,AJ]) (by omega) (λi hi=>by simp only[AB,An,Al,Aw,Ax,AG,CX]) (λi hi=>rfl) (λi hi=>?_)⟩,?_⟩
  ·simp only[An,Al,Aw,Ay,AG];exact⟨λq=>(by omega),λ_=>trivial⟩
  have n:=Pt (c:=λi:Int=>W_ (b_ i (V' a)) (U' ((λi=>j_ (So a i 0) (So b i 0)) i.toNat))) (f:=λi=>V_ .i64 i 1) a b 0 (λi=>j_ (So a i 0) (So b i 0)) j (λi hi=>by simp[Bo,AJ]) (by omega) (λi hi=>by simp only[AB,An,Al,Ax,AG,CX]) (λi hi=>rfl);have g:U' (j_ (V' a) (V' b))=true:=(by rw[Ax,Bo,Al,Al,j];simp);rw[g,AB true,Hv,Ax (b_ _ (V' a)),An _ (V' a)];simp only[<- Aw,Al]at n ⊢;simp only[Br,Bn];rw[n];simp
 have g:U' (j_ (V' a) (V' b))=false:=by rw[Ax,Bo,Al,Al];simp;omega
 refine⟨⟨λ_=>trivial,λh=>?_⟩,?_⟩
 ·rw[Ax]at g;rw[h]at g;cases g
 rw[g,AB,Kj];constructor
 ·intro h;cases h
 intro e;subst e;exact absurd rfl j
theorem Zfs(a b:BH)(h:Xz a):Sn (a,b)/\(Li (a,b)=true↔a=b):=by
 obtain⟨q,j⟩:=a;obtain⟨n,i⟩:=b;have g:=pe j i (by unfold Xz at h;exact h.1);rw[yK,xm];refine⟨by simp[g.1,g.2],?_⟩;simp only[g.1,g.2,Ax,AB,EP,Bo,Aj,Jw,Ay,Aq,Bb];try (constructor<;>intro h<;>simp_all)
theorem OK(a:Int):V_ .i64 a 1=IntKind.i64.wrap (a+1):=by simp only[eK]
theorem OB(k:IntKind)(a:Int):iConv k a=k.wrap a:=by simp only[pk]
theorem OJ(a b:Int):iRem a b=a.tmod b:=by simp only[eX]
section
variable {α:Type} {f:α->Int->α×Int} {l:List α} {c:Nat} {m:Int}
def Mp(f:α->Int->α×Int)(l:List α)(c:Nat):Prop:=∀a∈l,∀m:Int,0<=m->m+c<=2305843009213693952->m<=(f a m).2/\(f a m).2<=m+c
theorem M3(g:Mp f l c)(h0:0<=m)(h1:m+(l.length*c:Nat)<=2305843009213693952)(d:α):∀i,i<=l.length->m<=(A8 f l m i).2/\(A8 f l m i).2<=m+(i*c:Nat):=by
 intro i;induction i with
 |zero=>intro _;rw[MR];simp
 | succ i ih=>
   intro hi;obtain⟨s,q⟩:=ih (by omega);rw[QA f l m (by omega) d];have hm:l.getD i d∈l:=Cd l i d (by omega);have b:(i+1)*c<=l.length*c:=Hz _ (by omega);rw[D2,FF]at b ⊢;obtain⟨n,j⟩:=g _ hm (A8 f l m i).2 (by omega) (by omega);exact⟨by omega,by simp only;omega⟩
theorem OX(b:Mp f l c)(h0:0<=m)(h1:m+(l.length*c:Nat)<=2305843009213693952):m<=(AV f l m).2/\(AV f l m).2<=m+(l.length*c:Nat):=by
 cases l with
 |nil=>simp[AV]
 | cons a r=>
   have:=M3 b h0 h1 a (a::r).length (BN _);rw[Hj]at this;exact this
theorem OG(f:α->Int->α×Int)(l:List α)(m:Int){i:Nat}(hi:i<l.length)(d:α):(AV f l m).1.getD i d=(f (l.getD i d) (A8 f l m i).2).1:=by
 have h1:=QA f l m hi d;have g:(A8 f l m (i+1)).1.getD i d=(f (l.getD i d) (A8 f l m i).2).1:=by
  rw[h1];simp only;rw[C0,ft (by rw[FA];exact hi)];rfl
 rw[<- g,<- Hj f l m];have:∀k,i<k->k<=l.length->(A8 f l m k).1.getD i d=(A8 f l m (i+1)).1.getD i d:=by
  intro k;induction k with
  |zero=>intro h;omega
  | succ k ih=>
    intro h h';by_cases b:k=i
    ·rw[b]
    rw[<- ih (by omega) (by omega),QA f l m (by omega) d];simp only[C0];rw[List.getElem?_set_ne b]
 exact this _ hi (BN _)
theorem QG {C:Int×Int->Bool} {F:Int×Int->Int×Int} {p:Int×Int->Prop} (q:l.length<=1048576) (d:α)
 (hs:∀i,i<l.length->p ((A8 f l m i).2,(i:Int))/\C ((A8 f l m i).2,(i:Int))=true/\F ((A8 f l m i).2,(i:Int))=((f (l.getD i d) (A8 f l m i).2).2,V_ .i64 (i:Int) 1))
 (g:p ((AV f l m).2,(l.length:Int))/\C ((AV f l m).2,(l.length:Int))=false):a_ C F p (m,0)/\Am C F (m,0)=((AV f l m).2,(l.length:Int)):=by
 have:=H4 (p:=p) (c:=C) (f:=F) l.length (λi=>((A8 f l m i).2,(i:Int))) (x0:=(m,0)) rfl (λk b=>by
  obtain⟨h1,n,j⟩:=hs k b;refine⟨h1,n,?_⟩;rw[j,QA f l m b d,B9 (by unfold Bl;omega)];simp) (by rw[Hj];exact g)
 simp only[Hj]at this;exact this
end
theorem OH{i n c:Nat}(h:i<n):i*c+c<=n*c:=by
 have:=Hz c (show i+1<=n from h);rw[D2,FF]at this;exact this
theorem OM{n m c B:Nat}(h:n<=m)(e:m*c=B):n*c<=B:=e▸Hz c h
theorem Da{m:Int}(h0:0<=m)(h1:m<=2305843009213693960):IntKind.i64.wrap (m+1)=m+1:=Mc (by omega)
section
set_option maxRecDepth 20000
def Hr(a:Int)(k:Int):(Int)×Int:=(k,(IntKind.i64.wrap (k+1)))
theorem ew(x:BO)(h:TL x)(m:Int)(h0:0<=m)(h1:m+1048576<=2305843009213693952):PN x/\(m<=(D9 x m).2/\(D9 x m).2<=m+1048576)/\Si ((D9 x m).1,m)/\E6 ((D9 x m).1,m)=(D9 x m).2:=by
 have u:x.length<=1048576:=h;have z:Mp Hr x 1:=by
  intro a q k M J;have t:IntKind.i64.wrap (k+1)=k+1:=Da (by omega) (by omega);have D:(Hr a k).2=(k+1):=(by simp only[Hr,t]);rw[D];omega
 have N:x.length*1<=1048576:=OM u (by decide);have A:=OX (m:=m) z h0 (by omega);have j:D9 x m=AV Hr x m:=by unfold Hr;rw[ZQ];rfl
 rw[j];have s:=Ht Hr x m;have y:∀i,i<x.length->(AV Hr x m).1.getD i 0=(Hr (x.getD i 0) (A8 Hr x m i).2).1:=λi hi=>OG _ _ _ hi _;have F:PN x:=by rw[iy];exact⟨CW h (by decide),λa q=>trivial⟩
 rw[xh,xY];dsimp only;generalize (AV Hr x m).1=L at s y ⊢;have b:a_ (λ(x0:Au)=>(W_ (b_ x0.2 (V' L)) (U' (j_ (So L (R_ x0.2) 0) x0.1)))) (λ(x0:Au)=>((V_ .i64 x0.1 1),(V_ .i64 x0.2 1))) (λ(x0:Au)=>(((b_ x0.2 (V' L))=true->((((0:Int)<=x0.2)/\(x0.2<(((List.length L):Int))))/\((R_ x0.2)<(List.length L))))/\((b_ x0.2 (V' L))=false->True))) (m,0)/\Am (λ(x0:Au)=>(W_ (b_ x0.2 (V' L)) (U' (j_ (So L (R_ x0.2) 0) x0.1)))) (λ(x0:Au)=>((V_ .i64 x0.1 1),(V_ .i64 x0.2 1))) (m,0)=((AV Hr x m).2,(x.length:Int)):=by
  refine QG u 0 (λi hi=>?_) ?_
  ·obtain⟨I,G⟩:=M3 (m:=m) z h0 (by omega) 0 i (by omega);have O:i*1+1<=x.length*1:=OH hi;have g:=y i hi;have C:(i:Int)<(L.length:Int):=(by omega);have n:i<L.length:=(by omega);have q:=Cd x i 0 hi;generalize (A8 Hr x m i).2=k at I G g ⊢;generalize x.getD i 0=a at g q ⊢;have t:IntKind.i64.wrap (k+1)=k+1:=Da (by omega) (by omega);simp only[AJ,Aw,Al,AG,OK,OB,Bo,An,BF,OJ,AB,Ax,EP,g,Hr,t];simp[C,n]
  simp[An,Al,s,AB]
 refine⟨F,⟨A.1,by omega⟩,b.1,?_⟩;simp only[b.2];simp[BM,An,Al,s]
end
section
set_option maxRecDepth 20000
def He(a:CF)(k:Int):CF×Int:=((k,(IntKind.i64.wrap (k+1)),(IntKind.i64.wrap ((IntKind.i64.wrap (k+1))+1)),(IntKind.i64.wrap ((IntKind.i64.wrap ((IntKind.i64.wrap (k+1))+1))+1))),(IntKind.i64.wrap ((IntKind.i64.wrap ((IntKind.i64.wrap ((IntKind.i64.wrap (k+1))+1))+1))+1)))
theorem l7(x:DA)(h:MQ x)(m:Int)(h0:0<=m)(h1:m+4194304<=2305843009213693952):Vc x/\(m<=(GV x m).2/\(GV x m).2<=m+4194304)/\RN ((GV x m).1,m)/\GW ((GV x m).1,m)=(GV x m).2:=by
 have A:x.length<=1048576:=h.1;have D:Mp He x 4:=by
  intro a q k R O;have z:IntKind.i64.wrap (k+1)=k+1:=Da (by omega) (by omega);have y:IntKind.i64.wrap ((k+1)+1)=(k+1)+1:=Da (by omega) (by omega);have u:IntKind.i64.wrap (((k+1)+1)+1)=((k+1)+1)+1:=Da (by omega) (by omega);have t:IntKind.i64.wrap ((((k+1)+1)+1)+1)=(((k+1)+1)+1)+1:=Da (by omega) (by omega);have I:(He a k).2=((((k+1)+1)+1)+1):=(by simp only[He,z,y,u,t]);rw[I];omega
 have U:x.length*4<=4194304:=OM A (by decide);have F:=OX (m:=m) D h0 (by omega);have j:GV x m=AV He x m:=by unfold He;rw[gI];rfl
 rw[j];have s:=Ht He x m;have C:∀i,i<x.length->(AV He x m).1.getD i (0,0,0,0)=(He (x.getD i (0,0,0,0)) (A8 He x m i).2).1:=λi hi=>OG _ _ _ hi _;have J:Vc x:=by rw[tc];exact⟨CW h.1 (by decide),λa q=>⟨trivial,trivial,trivial,trivial⟩⟩
 rw[tI,tO];dsimp only;generalize (AV He x m).1=L at s C ⊢;have b:a_ (λ(x0:Au)=>(W_ (b_ x0.2 (V' L)) (W_ (U' (j_ (So L (R_ x0.2) (0,0,0,0)).1 x0.1)) (W_ (U' (j_ (So L (R_ x0.2) (0,0,0,0)).2.1 (V_ .i64 x0.1 1))) (W_ (U' (j_ (So L (R_ x0.2) (0,0,0,0)).2.2.1 (V_ .i64 (V_ .i64 x0.1 1) 1))) (U' (j_ (So L (R_ x0.2) (0,0,0,0)).2.2.2 (V_ .i64 (V_ .i64 (V_ .i64 x0.1 1) 1) 1)))))))) (λ(x0:Au)=>((V_ .i64 (V_ .i64 (V_ .i64 (V_ .i64 x0.1 1) 1) 1) 1),(V_ .i64 x0.2 1))) (λ(x0:Au)=>(((b_ x0.2 (V' L))=true->((((0:Int)<=x0.2)/\(x0.2<(((List.length L):Int))))/\(((R_ x0.2)<(List.length L))/\(((j_ (So L (R_ x0.2) (0,0,0,0)).1 x0.1)=true->True)/\((j_ (So L (R_ x0.2) (0,0,0,0)).1 x0.1)=false->((((0:Int)<=x0.2)/\(x0.2<(((List.length L):Int))))/\(((R_ x0.2)<(List.length L))/\(((j_ (So L (R_ x0.2) (0,0,0,0)).2.1 (V_ .i64 x0.1 1))=true->True)/\((j_ (So L (R_ x0.2) (0,0,0,0)).2.1 (V_ .i64 x0.1 1))=false->((((0:Int)<=x0.2)/\(x0.2<(((List.length L):Int))))/\(((R_ x0.2)<(List.length L))/\(((j_ (So L (R_ x0.2) (0,0,0,0)).2.2.1 (V_ .i64 (V_ .i64 x0.1 1) 1))=true->True)/\((j_ (So L (R_ x0.2) (0,0,0,0)).2.2.1 (V_ .i64 (V_ .i64 x0.1 1) 1))=false->((((0:Int)<=x0.2)/\(x0.2<(((List.length L):Int))))/\((R_ x0.2)<(List.length L))))))))))))))))/\((b_ x0.2 (V' L))=false->True))) (m,0)/\Am (λ(x0:Au)=>(W_ (b_ x0.2 (V' L)) (W_ (U' (j_ (So L (R_ x0.2) (0,0,0,0)).1 x0.1)) (W_ (U' (j_ (So L (R_ x0.2) (0,0,0,0)).2.1 (V_ .i64 x0.1 1))) (W_ (U' (j_ (So L (R_ x0.2) (0,0,0,0)).2.2.1 (V_ .i64 (V_ .i64 x0.1 1) 1))) (U' (j_ (So L (R_ x0.2) (0,0,0,0)).2.2.2 (V_ .i64 (V_ .i64 (V_ .i64 x0.1 1) 1) 1)))))))) (λ(x0:Au)=>((V_ .i64 (V_ .i64 (V_ .i64 (V_ .i64 x0.1 1) 1) 1) 1),(V_ .i64 x0.2 1))) (m,0)=((AV He x m).2,(x.length:Int)):=by
  refine QG A (0,0,0,0) (λi hi=>?_) ?_
  ·obtain⟨N,M⟩:=M3 (m:=m) D h0 (by omega) (0,0,0,0) i (by omega);have Y:i*4+4<=x.length*4:=OH hi;have g:=C i hi;have G:(i:Int)<(L.length:Int):=(by omega);have n:i<L.length:=(by omega);have q:=Cd x i (0,0,0,0) hi;generalize (A8 He x m i).2=k at N M g ⊢;generalize x.getD i (0,0,0,0)=a at g q ⊢;have z:IntKind.i64.wrap (k+1)=k+1:=Da (by omega) (by omega);have y:IntKind.i64.wrap ((k+1)+1)=(k+1)+1:=Da (by omega) (by omega);have u:IntKind.i64.wrap (((k+1)+1)+1)=((k+1)+1)+1:=Da (by omega) (by omega);have t:IntKind.i64.wrap ((((k+1)+1)+1)+1)=(((k+1)+1)+1)+1:=Da (by omega) (by omega);simp only[AJ,Aw,Al,AG,OK,OB,Bo,An,BF,OJ,AB,Ax,EP,g,He,z,y,u,t];simp[G,n]
  simp[An,Al,s,AB]
 refine⟨J,⟨F.1,by omega⟩,b.1,?_⟩;simp only[b.2];simp[BM,An,Al,s]
def Ha(a:DA)(k:Int):DA×Int:=((GV a k).1,(GV a k).2)
theorem Zd4(x:Cz)(h:Ji x)(m:Int)(h0:0<=m)(h1:m+4398046511104<=2305843009213693952):U8 x/\(m<=(IC x m).2/\(IC x m).2<=m+4398046511104)/\Vg ((IC x m).1,m)/\RP ((IC x m).1,m)=(IC x m).2:=by
 have u:x.length<=1048576:=h.1;have z:Mp Ha x 4194304:=by
  intro a b k N M;obtain⟨_,⟨p0,C⟩,y0,n⟩:=l7 a (h.2 a b) k (by omega) (by omega);have t0:¬(GV a k).2<0:=(by omega);have F:(Ha a k).2=(GV a k).2:=(by simp only[Ha]);rw[F];omega
 have O:x.length*4194304<=4398046511104:=OM u (by decide);have A:=OX (m:=m) z h0 (by omega);have q:IC x m=AV Ha x m:=by unfold Ha;rw[gE,gI];rfl
 rw[q];have t:=Ht Ha x m;have y:∀i,i<x.length->(AV Ha x m).1.getD i []=(Ha (x.getD i []) (A8 Ha x m i).2).1:=λi hi=>OG _ _ _ hi _;have G:U8 x:=by rw[sV];exact⟨CW h.1 (by decide),λa b=>⟨CW (h.2 a b).1 (by decide),λa b=>⟨trivial,trivial,trivial,trivial⟩⟩⟩
 rw[tw,tf];dsimp only;generalize (AV Ha x m).1=L at t y ⊢;have j:a_ (λ(x0:Au)=>(W_ (b_ x0.2 (V' L)) (U' (b_ (GW ((So L (R_ x0.2) []),x0.1)) 0)))) (λ(x0:Au)=>((GW ((So L (R_ x0.2) []),x0.1)),(V_ .i64 x0.2 1))) (λ(x0:Au)=>(((b_ x0.2 (V' L))=true->((((0:Int)<=x0.2)/\(x0.2<(((List.length L):Int))))/\(((R_ x0.2)<(List.length L))/\(RN ((So L (R_ x0.2) []),x0.1)))))/\((b_ x0.2 (V' L))=false->True))) (m,0)/\Am (λ(x0:Au)=>(W_ (b_ x0.2 (V' L)) (U' (b_ (GW ((So L (R_ x0.2) []),x0.1)) 0)))) (λ(x0:Au)=>((GW ((So L (R_ x0.2) []),x0.1)),(V_ .i64 x0.2 1))) (m,0)=((AV Ha x m).2,(x.length:Int)):=by
  refine QG u [] (λi hi=>?_) ?_
  ·obtain⟨J,I⟩:=M3 (m:=m) z h0 (by omega) [] i (by omega);have R:i*4194304+4194304<=x.length*4194304:=OH hi;have g:=y i hi;have D:(i:Int)<(L.length:Int):=(by omega);have s:i<L.length:=(by omega);have b:=Cd x i [] hi;generalize (A8 Ha x m i).2=k at J I g ⊢;generalize x.getD i []=a at g b ⊢;obtain⟨_,⟨p0,C⟩,y0,n⟩:=l7 a (h.2 a b) k (by omega) (by omega);have t0:¬(GV a k).2<0:=(by omega);simp only[AJ,Aw,Al,AG,OK,OB,Bo,An,BF,OJ,AB,Ax,EP,g,Ha,y0,n,t0];simp[D,s,y0,n,t0]
  simp[An,Al,t,AB]
 refine⟨G,⟨A.1,by omega⟩,j.1,?_⟩;simp only[j.2];simp[BM,An,Al,t]
theorem Zf7(x:Ca)(h:DW x)(m:Int)(h0:0<=m)(h1:m+4398046511104<=2305843009213693952):Vi x/\(m<=(EZ x m).2/\(EZ x m).2<=m+4398046511104)/\Vn ((x.1,(EZ x m).1.2),m)/\GX ((x.1,(EZ x m).1.2),m)=(EZ x m).2:=by
 unfold DW at h;obtain⟨n,⟨p0,j⟩,y0,b⟩:=Zd4 x.2 h.1 m (by omega) (by omega);have t0:¬(IC x.2 m).2<0:=by omega
 have e:EZ x m=((x.1,(IC x.2 m).1),(IC x.2 m).2):=by rw[gQ,gE];rfl
 have i:Vi x:=by rw[tE];exact⟨trivial,⟨CW h.1.1 (by decide),λa g=>⟨CW (h.1.2 a g).1 (by decide),λa g=>⟨trivial,trivial,trivial,trivial⟩⟩⟩⟩
 rw[e];refine⟨i,⟨by simp only;omega,by simp only;omega⟩,?_,?_⟩
 ·rw[um];simp[An,BM,y0,b,t0]
 rw[uW];simp[An,BM,y0,b,t0]
end
end
end Go.Ag
