/- Part 7 of what FnExactPress needs. No conditions. -/
import Derived.Test.YtbkpfpcnjpggaaaGreatLibF
namespace Go.Ag
set_option linter.unusedSimpArgs false
set_option linter.unusedVariables false
noncomputable section
section
set_option maxRecDepth 8000
def xb:d4:=(A_ [1] 1 [O' 0 7 0,Q_ As] (.seq [1] (A_ [20,1] 5 [J' 0 1,K_ 0 2 5,I' Ip [6],P' 7,C_ 8,F' 9 (J' 2 1),F' 9 (J_ 0 10),F' 9 (L' 11),F' 9 (B_ (.bin .gtr 12 (.c (.int .i64 4)))),L_ 9 AV 13,C_ 14,F' 15 (J' 4 1),F' 15 (J_ 0 16),F' 15 (I' Eg [17]),F' 15 (P' 18),L_ 15 AV 19] (.cond 20 (A_ [2] 2 [Q_ As] .ret) .skip)) (.seq [1] (A_ [3,1] 3 [E' 0] (.block 0 (.loop [1,3] 1 (.seq [3,1] (A_ [25,3,1] 21 [C_ 3,J' 2 1,J_ 0 22,L' 23,M' 21 24] (.cond 25 .skip (.exit 0))) (.seq [3,1] (.block 1 (A_ [34,3,1] 28 [J' 2 1,J_ 0 28,C_ 3,N_ 1 29 30,O_ 31,I' GM [32],P' 33] (.cond 34 (A_ [2] 2 [Q_ As] .ret) .skip))) (At 26 [C_ 3,M_ 26 AA,G_ 3 (C_ 27)])))))) (.seq [1] (A_ [4,1] 4 [E' 0] (.block 2 (.loop [1,4] 1 (.seq [4,1] (A_ [39,4,1] 35 [C_ 4,J' 4 1,J_ 0 36,L' 37,M' 35 38] (.cond 39 .skip (.exit 2))) (.seq [4,1] (.block 3 (A_ [75,4,1] 42 [J' 4 1,G' (rg 1) (J_ 0 42),C_ 4,G' (rg 3) (N_ 5 43 44),G' (rg 4) (J' 0 45),G' (rg 5) (O_ 46),J' 0 1,G' [6] (J' 0 48),G' [6,7] (J_ 0 49),G' (rg 9) (B_ (.bin .geq 47 50)),G' (rg 10) (Q_ 51),F' 52 (G' [0,1,2,3,4,5,6,7,8,9,10] (I_ (.a false (.f5 4 1) none))),F' 52 (G' [0,1,2,3,4,5,6,7,8,9,10,11] (I_ (.a false (.d7 0 none 53) none))),F' 52 (G' [0,1,2,3,4,5,6,7,8,9,10] (I_ (.a false (.mv 4) none))),F' 52 (G' [0,1,2,3,4,5,6,7,8,9,10,11,12,13] (I_ (.a false (.p_ 5 54 55) none))),F' 52 (G' [0,1,2,3,4,5,6,7,8,9,10,11,12,13,14] (I_ (.a false (.f5 1 56) none))),F' 52 (G' [0,1,2,3,4,5,6,7,8,9,10,11,12,13,14,15] (I_ (.a false (.f5 0 57) none))),F' 52 (G' [0,1,2,3,4,5,6,7,8,9,10,11,12,13,14,15,16] (I_ (.a false (.i5 none 58) none))),F' 52 (G' [0,1,2,3,4,5,6,7,8,9,10,11,12,13,14,15,16,17] (I_ (.a false (.bin .neq 59 (.c (.int .i64 9))) none))),F' 52 (G' [0,1,2,3,4,5,6,7,8,9,10,11,12,13,14,15,16,17,18] (I_ (.a false (.mv 60) none))),F_ 61 (G' [0,1,2,3,4,5,6,7,8,9,10,11,12,13,14,15,16,17,18,19] (I_ (.a false (.f5 4 1) none))),F_ 61 (G' [0,1,2,3,4,5,6,7,8,9,10,11,12,13,14,15,16,17,18,19,20] (I_ (.a false (.d7 0 none 62) none))),F_ 61 (G' [0,1,2,3,4,5,6,7,8,9,10,11,12,13,14,15,16,17,18,19] (I_ (.a false (.mv 4) none))),F_ 61 (G' [0,1,2,3,4,5,6,7,8,9,10,11,12,13,14,15,16,17,18,19,20,21,22] (I_ (.a false (.p_ 5 63 64) none))),F_ 61 (G' [0,1,2,3,4,5,6,7,8,9,10,11,12,13,14,15,16,17,18,19,20,21,22,23] (I_ (.a false (.f5 1 65) none))),F_ 61 (G' [0,1,2,3,4,5,6,7,8,9,10,11,12,13,14,15,16,17,18,19,20,21,22,23,24] (I_ (.a false (.f5 3 66) none))),F_ 61 (G' [0,1,2,3,4,5,6,7,8,9,10,11,12,13,14,15,16,17,18,19,20,21,22,23,24,25] (I_ (.a false (.i5 none 67) none))),F_ 61 (G' [0,1,2,3,4,5,6,7,8,9,10,11,12,13,14,15,16,17,18,19] (I_ (.a false (.f5 0 1) none))),F_ 61 (G' [0,1,2,3,4,5,6,7,8,9,10,11,12,13,14,15,16,17,18,19,27] (I_ (.a false (.f5 1 69) none))),F_ 61 (G' [0,1,2,3,4,5,6,7,8,9,10,11,12,13,14,15,16,17,18,19,27,28] (I_ (.a false (.d7 0 none 70) none))),F_ 61 (G' [0,1,2,3,4,5,6,7,8,9,10,11,12,13,14,15,16,17,18,19,27,28,29] (I_ (.a false (.len 71) none))),F_ 61 (G' [0,1,2,3,4,5,6,7,8,9,10,11,12,13,14,15,16,17,18,19,20,21,22,23,24,25,26,27,28,29,30] (I_ (.a false (.bin .geq 68 72) none))),F' 52 (G' [0,1,2,3,4,5,6,7,8,9,10,11,12,13,14,15,16,17,18,19,20,21,22,23,24,25,26,27,28,29,30,31] (I_ (.a false (.pick 61 73 As) none))),G' (rg 33) (L_ 52 AV 74)] (.cond 75 (A_ [2] 2 [Q_ As] .ret) .skip))) (At 40 [C_ 4,M_ 40 AA,G_ 4 (C_ 41)])))))) (A_ [2] 76 [J' 3 1,G' (rg 1) (J_ 0 76),J' 0 1,G' [2] (J' 1 78),G' [2,3] (J_ 0 79),G' [2,3,4] (L' 80),G' [2,3,4,5] (B_ (.bin .shl AA 81)),G' [2,3,4,5,6] (B_ (.bin .sub 82 AA)),G' (rg 8) (I' BR [77,AL,83]),G' (rg 9) (Q_ 84),F_ 85 (G' [0,1,2,3,4,5,6,7,8,9] (I_ (.a false (.f5 3 1) none))),F_ 85 (G' [0,1,2,3,4,5,6,7,8,9,10] (I_ (.a false (.d7 0 none 86) none))),F_ 85 (G' [0,1,2,3,4,5,6,7,8,9,10,11] (I_ (.a false (.bin .rem 87 (.c (.int .i64 2))) none))),F_ 85 (G' [0,1,2,3,4,5,6,7,8,9,10,11,12] (I_ (.a false (.bin .eql 88 AL) none))),G' (rg 14) (L_ 85 89 As),G' (rg 15) (Q_ 90),F_ 91 (G' [0,1,2,3,4,5,6,7,8,9,10,11,12,13,14,15] (I_ (.a false (.f5 5 1) none))),F_ 91 (G' [0,1,2,3,4,5,6,7,8,9,10,11,12,13,14,15,16] (I_ (.a false (.d7 0 none 92) none))),F_ 91 (G' [0,1,2,3,4,5,6,7,8,9,10,11,12,13,14,15,16,17] (I' BR [93,AL,(.c (.int .i64 15))])),G' (rg 19) (L_ 91 94 As),G_ 2 (G' (rg 20) (Q_ 95))] .ret)))))
def KH:Fn:=⟨⟨1,96,1,true,[.tmp 2],xb⟩,[.agg [Au,(.Z',.sl (.one (.sl AB))),(.Z',.sl (.one (.sl AQ))),Au,(.Z',.sl AU),Au,(.Z',.bool)]],.one (.one .own (.bool))⟩
theorem wR:KH.A:=AM ⟨fX,VF,gE,Gb,Gb,trivial⟩
def Mc:BS->Bool:=KH.V
def UL:BS->Prop:=KH.O
theorem uU:KH.B:=AO ⟨gm,VL,gN,Ga,Ga,trivial⟩ (by kernel_rfl) (λx=>by kernel_rfl)
def uv:d4:=(A_ [1] 1 [O' 0 7 0,Q_ As] (.seq [1] (A_ [33,1] 8 [J' 0 1,K_ 0 2 8,I' KJ [9],P' 10,C_ 11,F' 12 (J' 2 1),F' 12 (J_ 0 13),F' 12 (L' 14),F' 12 (B_ (.bin .gtr 15 (.c (.int .i64 4)))),L_ 12 AV 16,C_ 17,F' 18 (J' 4 1),F' 18 (J_ 0 19),F' 18 (I' EY [20]),F' 18 (P' 21),L_ 18 AV 22,C_ 23,F' 24 (J' 5 1),F' 24 (J_ 0 25),F' 24 (M' 26 AL),L_ 24 AV 27,C_ 28,F' 29 (J' 5 1),F' 29 (J_ 0 30),F' 29 (B_ (.bin .gtr 31 (.c (.int .i64 15)))),L_ 29 AV 32] (.cond 33 (A_ [2] 2 [Q_ As] .ret) .skip)) (.seq [1] (A_ [37,36,35,1] 34 [J' 2 1,J_ 0 34,L' 35,E' 0] (.block 0 (.loop [1,35,36,37] 1 (A_ [38,37,36,35,1] 38 [M' 37 36] (.seq [37,36,35,1] (.cond 38 .skip (.exit 0)) (.seq [37,36,35,1] (.block 1 (A_ [37,36,35,4,1] 39 [N_ 1 35 37,O_ 39,G_ 4 (D_ 40)] (A_ [43,37,36,35,1] 41 [D_ 4,I' GN [41],P' 42] (.cond 43 (A_ [2] 2 [Q_ As] .ret) .skip)))) (At 44 [M_ 37 AA,G_ 37 (C_ 44)]))))))) (A_ [5,1] 45 [J' 0 1,J' 1 45,J_ 0 46,L' 47,G_ 5 (C_ 48)] (.seq [5,1] (A_ [52,51,50,5,1] 49 [J' 4 1,J_ 0 49,L' 50,E' 0] (.block 2 (.loop [1,5,50,51,52] 1 (A_ [53,52,51,50,5,1] 53 [M' 52 51] (.seq [52,51,50,5,1] (.cond 53 .skip (.exit 2)) (.seq [52,51,50,5,1] (.block 3 (A_ [52,51,50,7,5,1] 54 [N_ 5 50 52,C' (.i5 (some 5) 54),G_ 7 (B_ (.e_ 1 [Ad,Ad,Ad,Ad,Ad])),E_ (.V_ 1 5 7 55)] (A_ [74,52,51,50,5,1] 56 [J' 0 7,J_ 1 56,J' 0 1,J' 0 58,J_ 0 59,B_ (.bin .geq 57 60),C_ 61,F' 62 (J' 1 7),F' 62 (J' 0 63),F' 62 (J_ 1 64),F' 62 (N' 65 (.c (.int .i64 9))),F' 62 (Q_ 66),F_ 67 (J' 1 7),F_ 67 (J' 3 68),F_ 67 (J_ 1 69),F_ 67 (Q_ 5),F_ 67 (B_ (.bin .geq 70 71)),F' 62 (L_ 67 72 As),L_ 62 AV 73] (.cond 74 (A_ [2] 2 [Q_ As] .ret) .skip)))) (At 75 [M_ 52 AA,G_ 52 (C_ 75)]))))))) (A_ [2] 76 [J' 3 1,G' (rg 1) (J_ 0 76),G' (rg 2) (B_ (.bin .geq 77 AL)),G' (rg 3) (Q_ 78),F_ 79 (G' [0,1,2,3] (I_ (.a false (.f5 3 1) none))),F_ 79 (G' [0,1,2,3,4] (I_ (.a false (.d7 0 none 80) none))),F_ 79 (G' [0,1,2,3,4,5] (I_ (.a false (.bin .rem 81 (.c (.int .i64 2))) none))),F_ 79 (G' [0,1,2,3,4,5,6] (I_ (.a false (.bin .eql 82 AL) none))),G' (rg 8) (L_ 79 83 As),G' (rg 9) (Q_ 84),F_ 85 (G' [0,1,2,3,4,5,6,7,8,9] (I_ (.a false (.f5 3 1) none))),F_ 85 (G' [0,1,2,3,4,5,6,7,8,9,10] (I_ (.a false (.d7 0 none 86) none))),F_ 85 (G' [0,1,2,3,4,5,6,7,8,9] (I_ (.a false (.mv 5) none))),F_ 85 (G' [0,1,2,3,4,5,6,7,8,9,12] (I_ (.a false (.bin .shl AA 88) none))),F_ 85 (G' [0,1,2,3,4,5,6,7,8,9,10,11,12,13] (I_ (.a false (.bin .lss 87 89) none))),G' (rg 15) (L_ 85 90 As),G_ 2 (G' (rg 16) (Q_ 91))] .ret))))))
def KA:Fn:=⟨⟨1,92,2,true,[.tmp 2],uv⟩,[.agg [Au,(.Z',.sl (.one (.sl AB))),(.Z',.sl (.one (.sl AQ))),Au,(.Z',.sl AU),Au,(.Z',.bool)]],.one (.one .own (.bool))⟩
theorem uA:KA.A:=AM ⟨v7,Vw,gA,trivial⟩
def FD:BS->Bool:=KA.V
def U0:BS->Prop:=KA.O
theorem uG:KA.B:=AO ⟨vl,Vy,gK,trivial⟩ (by kernel_rfl) (λx=>by kernel_rfl)
def yJ:d4:=(A_ [2,1] 1 [O' 0 7 0,B_ (.e_ 1 [Ad,.b_,.b_,Ad,.b_,Ad,EO])] (A_ [3,2,1] 5 [C' (.d7 0 (some 7) 1),G_ 3 (B_ (.e_ 2 [Ad,.b_,.b_,Ad,.b_,Ad,EO])),E_ (.V_ 2 7 3 5)] (A_ [3,2,1] 6 [J' 0 1,K_ 0 2 6,I' La [7],J' 0 3,E_ (.V_ 2 2 9 8)] (A_ [3,2,1] 10 [Q' (.one (.sl AQ)) (.d5 1 0 [] []),J' 2 3,E_ (.V_ 2 1 11 10)] (.seq [3,2,1] (A_ [4,3,2,1] 4 [E' 0] (.block 0 (.loop [1,2,3,4] 1 (.seq [4,3,2,1] (A_ [16,4,3,2,1] 12 [C_ 4,J' 2 1,J_ 0 13,L' 14,M' 12 15] (.cond 16 .skip (.exit 0))) (.seq [4,3,2,1] (.block 1 (.region [oa 0 19 (.f5 2 3),xB 1 20 (.d7 2 none 19) (rg 1),oa 3 22 (.f5 2 1),xA 4 23 (.d7 0 none 22) [3],om 5 24 4,xA 6 25 (.p_ 1 23 24) [3,4,5],xA 7 26 (.i5 none 25) [3,4,5,6],⟨2,some 21,.a false (.d5 3 0 [] []) (some AQ),none,[]⟩,xA 8 27 (.app 3 21 26) [2,3,4,5,6,7],⟨9,some 28,.a false (.d5 1 1 [.b_] [(0,1,27)]) (some (.one (.sl AQ))),none,[2,3,4,5,6,7,8]⟩,xA 10 29 (.app 1 20 28) (rg 10),xA 11 30 (.f5 2 3) (rg 11),xS 12 (.V_ 2 1 30 29) (rg 12)])) (At 17 [C_ 4,M_ 17 AA,G_ 4 (C_ 18)])))))) (A_ [3,2] 31 [Q' AU (.d5 5 0 [] []),J' 4 1,J_ 0 32,B_ (.app 5 31 33),J' 4 3,E_ (.V_ 2 1 35 34)] (A_ [2] 36 [C' (.d7 2 (some 7) 3),E_ (.V_ 1 7 2 36)] .ret)))))))
def K0:Fn:=⟨⟨1,37,3,false,[.cell 2 (some 7)],yJ⟩,[.agg [Au,(.Z',.sl (.one (.sl AB))),(.Z',.sl (.one (.sl AQ))),Au,(.Z',.sl AU),Au,(.Z',.bool)]],.one (.agg [AN,(.own,.sl (.one (.sl AB))),(.own,.sl (.one (.sl AQ))),AN,(.own,.sl AU),AN,(.own,.bool)])⟩
theorem zx:K0.A:=AM ⟨y8,trivial⟩
def RG:BS->Int×Cv×CA×Int×Bg×Int×Bool:=K0.V
def VA:BS->Prop:=K0.O
theorem zq:K0.B:=AO ⟨zt,trivial⟩ (by kernel_rfl) (λx=>by kernel_rfl)
def sf:d4:=(A_ [0] 2 [Q_ (.c .b_)] (A_ [3,0] 3 [Q_ (.c .b_)] (.seq [3] (A_ [8,7,6,3] 6 [D_ 0,L' 6,E' 0] (.block 0 (.loop [3,6,7,8] 1 (A_ [9,8,7,6,3] 9 [M' 8 7] (.seq [8,7,6,3] (.cond 9 .skip (.exit 0)) (.seq [8,7,6,3] (.block 1 (A_ [8,7,6,5,3] 10 [N_ 1 6 8,O_ 10,G_ 5 (D_ 11)] (At 12 [C_ 3,D_ 5,B_ (.app 3 (.c .b_) 13),Q' (.one (.sl AQ)) (.d5 1 1 [.b_] [(0,1,14)]),B_ (.app 1 12 15),G_ 3 (C_ 16)]))) (At 17 [M_ 8 AA,G_ 8 (C_ 17)]))))))) (A_ [2] 18 [C_ 3,G_ 2 (C_ 18)] .ret))))
def Kh:Fn:=⟨⟨1,19,0,false,[.tmp 2],sf⟩,[.one .Z' (.sl (.one (.sl AQ)))],.one (.one .own (.sl (.one (.sl AQ))))⟩
theorem rF:Kh.A:=AM trivial
def UH:CA->List Cj:=Kh.V
def Un:CA->Prop:=Kh.O
theorem rK:Kh.B:=AO trivial (by kernel_rfl) (λx=>by kernel_rfl)
def fY:ACode:=(.seq (.region [⟨0,some 4,.mv (.c (.int .i64 0)),none,[]⟩]) (.seq (.seq (.region [⟨0,some 5,.mv (.c (.int .i64 0)),none,[]⟩]) (.block 0 (.loop [0,1,5] (.seq (.seq (.region [⟨0,some 6,.mv (.t 5),none,[]⟩,⟨1,some 7,.mv (.t 0),none,[]⟩,⟨2,some 8,.len (.t 7),none,[]⟩,⟨3,some 9,.bin .lss (.t 6) (.t 8),none,[]⟩]) (.cond (.t 9) .skip (.exit 0))) (.seq (.block 1 (.seq (.region [⟨0,some 12,.mv (.t 0),none,[]⟩,⟨1,some 13,.mv (.t 5),none,[]⟩,⟨2,some 14,.mv (.t 1),none,[]⟩,⟨3,some 15,.p_ 3 (.t 12) (.t 13),none,[]⟩,⟨4,some 16,.f5 0 (.t 15),none,[]⟩,⟨5,none,.f8 1 (.t 16) (.t 14),none,[]⟩]) (.seq (.region [⟨0,some 17,.mv (.t 1),none,[]⟩,⟨1,some 18,.bin .add (.t 17) (.c (.int .i64 1)),none,[]⟩,⟨2,some 1,.mv (.t 18),none,[]⟩]) (.seq (.region [⟨0,some 19,.mv (.t 0),none,[]⟩,⟨1,some 20,.mv (.t 5),none,[]⟩,⟨2,some 21,.mv (.t 1),none,[]⟩,⟨3,some 22,.p_ 3 (.t 19) (.t 20),none,[]⟩,⟨4,some 23,.f5 1 (.t 22),none,[]⟩,⟨5,none,.f8 1 (.t 23) (.t 21),none,[]⟩]) (.seq (.region [⟨0,some 24,.mv (.t 1),none,[]⟩,⟨1,some 25,.bin .add (.t 24) (.c (.int .i64 1)),none,[]⟩,⟨2,some 1,.mv (.t 25),none,[]⟩]) (.seq (.region [⟨0,some 26,.mv (.t 0),none,[]⟩,⟨1,some 27,.mv (.t 5),none,[]⟩,⟨2,some 28,.mv (.t 1),none,[]⟩,⟨3,some 29,.p_ 3 (.t 26) (.t 27),none,[]⟩,⟨4,some 30,.f5 2 (.t 29),none,[]⟩,⟨5,none,.f8 1 (.t 30) (.t 28),none,[]⟩]) (.region [⟨0,some 31,.mv (.t 1),none,[]⟩,⟨1,some 32,.bin .add (.t 31) (.c (.int .i64 1)),none,[]⟩,⟨2,some 1,.mv (.t 32),none,[]⟩]))))))) (.region [⟨0,some 10,.mv (.t 5),none,[]⟩,⟨1,some 11,.bin .add (.t 10) (.c (.int .i64 1)),none,[]⟩,⟨2,some 5,.mv (.t 11),none,[]⟩])))))) (.seq (.region [⟨0,some 33,.mv (.t 1),none,[]⟩,⟨1,some 4,.mv (.t 33),none,[]⟩]) .ret)))
def Y4:AFun:=⟨2,34,0,false,[.tmp 4],fY⟩
@[irreducible] def Pe:Bc:=EG Y4
@[irreducible] def GD(x:Cj)(m:Int):Cj×Int:=(shut λ(x:Cj) (m:Int)=>AW (RT.mkI AQ) x m).1 x m
@[irreducible] def Uk(x:Cj):Prop:=(shut λ(x:Cj)=>CT.wl (.sl AQ) x).1 x
theorem fG:GD=λx m=>AW (RT.mkI AQ) x m:=by unfold GD;exact(shut _).2
theorem so:Uk=λx=>CT.wl (.sl AQ) x:=by unfold Uk;exact(shut _).2
theorem ta:SlC Pe AQ:=by
 rintro h ω hd p l u m Q d8 hinj hM hQ;have G:=hM.len;have hlb:l.length<=9223372036854775807:=d8.1;unfold Pe;refine Jy rfl ?_;unfold fY;simp only[go_sem,reduceIte,reduceCtorEq,Nat.reduceAdd,Nat.reduceBEq,Int.reduceLT,Int.reduceLE,Int.reduceGT,Int.reduceGE,Int.reduceBEq,Int.reduceBNe,Nat.reduceEqDiff,Nat.reduceLeDiff,Nat.reduceLT,G];refine MA l.length (λi st=>∃h',st=⟨[u,.int .i64 (Bb (RT.mkI AQ) l m i).2,.undef,.undef,.undef,.int .i64 (i:Int)]++Es 28,[],h'⟩/\x_ (Gv ω hd p) h h'/\MS h' ω hd p AQ (Bb (RT.mkI AQ) l m i).1 u) ?_ ?_
 ·refine⟨h,?_,x_.refl _ _,hM⟩;simp only[Mo,keep,MN];rfl
 rintro i st next hi ⟨h1,rfl,M,t⟩ F
 by_cases x:i<l.length
 ·have J:decide ((i:Int)<(l.length:Int))=true:=Gj (by omega);have hw:IntKind.i64.wrap ((i:Int)+1)=((i+1:Nat):Int):=(by rw[LM (by omega)];omega);obtain⟨b,s⟩:=t.slice (by rw[Fk];omega);rw[Fk]at s;subst s;cases N:Bb (RT.mkI AQ) l m i with
  |mk L g=>
  rw[N]at t;obtain⟨hLl,hs,j⟩:=NF x N;have n:i<L.length:=(by omega);have q:=On d8 x;rw[<- j]at q;have Y:=MS.frame t n;clear j;generalize j:List.getD L i (RT.dflt AQ)=x0 at Y hs q;clear j;have hx:=ME (b:=b) (w:=3) x (k:=.i64);simp only;obtain⟨U,C,o0,R1⟩:=MS.st Y n (off:=0) (by decide) (v:=(.int .i64 g)) rfl rfl (y:=((g,x0.2.1,x0.2.2):RT.D AQ)) rfl hinj [];replace C:Ek [] h1 1 (.ptr b (i*3)) (.int .i64 g)=some (.undef,[],U):=C;obtain⟨R,A,o1,R2⟩:=MS.st R1 n (off:=1) (by decide) (v:=(.int .i64 (IntKind.i64.wrap (g+1)))) rfl rfl (y:=((g,(IntKind.i64.wrap (g+1)),x0.2.2):RT.D AQ)) rfl hinj [];replace A:Ek [] U 1 (.ptr b (i*3+1)) (.int .i64 (IntKind.i64.wrap (g+1)))=some (.undef,[],R):=A;obtain⟨O,z,Z,R3⟩:=MS.st R2 n (off:=2) (by decide) (v:=(.int .i64 (IntKind.i64.wrap (IntKind.i64.wrap (g+1)+1)))) rfl rfl (y:=((g,(IntKind.i64.wrap (g+1)),(IntKind.i64.wrap (IntKind.i64.wrap (g+1)+1))):RT.D AQ)) rfl hinj [];replace z:Ek [] R 1 (.ptr b (i*3+2)) (.int .i64 (IntKind.i64.wrap (IntKind.i64.wrap (g+1)+1)))=some (.undef,[],O):=z;simp only[go_sem,reduceIte,reduceCtorEq,Nat.reduceAdd,Nat.reduceBEq,Int.reduceLT,Int.reduceLE,Int.reduceGT,Int.reduceGE,Int.reduceBEq,Int.reduceBNe,Nat.reduceEqDiff,Nat.reduceLeDiff,Nat.reduceLT,G,J,hw,hx,C,A,z];exact F _ x ⟨O,by rw[hs];rfl,(x_.trans (x_.trans (x_.trans M o0) o1) Z),by rw[hs];exact R3⟩
 have J:decide ((i:Int)<(l.length:Int))=false:=Dl (by omega);have I:i=l.length:=by omega
 subst I;simp only[go_sem,reduceIte,reduceCtorEq,Nat.reduceAdd,Nat.reduceBEq,Int.reduceLT,Int.reduceLE,Int.reduceGT,Int.reduceGE,Int.reduceBEq,Int.reduceBNe,Nat.reduceEqDiff,Nat.reduceLeDiff,Nat.reduceLT,G,J];have e:=IC (RT.mkI AQ) l m;rw[e]at t ⊢;exact hQ h1 M t
def fQ:ACode:=(.seq (.region [⟨0,some 4,.mv (.c (.int .i64 0)),none,[]⟩]) (.seq (.seq (.region [⟨0,some 5,.mv (.c (.int .i64 0)),none,[]⟩]) (.block 0 (.loop [0,1,5] (.seq (.seq (.region [⟨0,some 6,.mv (.t 5),none,[]⟩,⟨1,some 7,.mv (.t 0),none,[]⟩,⟨2,some 8,.len (.t 7),none,[]⟩,⟨3,some 9,.bin .lss (.t 6) (.t 8),none,[]⟩]) (.cond (.t 9) .skip (.exit 0))) (.seq (.block 1 (.region [⟨0,some 12,.mv (.t 0),none,[]⟩,⟨1,some 13,.mv (.t 5),none,[]⟩,⟨2,some 14,.p_ 1 (.t 12) (.t 13),none,[]⟩,⟨3,some 15,.i5 none (.t 14),none,[]⟩,⟨4,some 16,.mv (.t 1),none,[]⟩,⟨5,some 17,.call Pe [(.t 15),(.t 16)],none,[]⟩,⟨6,some 1,.mv (.t 17),none,[]⟩])) (.region [⟨0,some 10,.mv (.t 5),none,[]⟩,⟨1,some 11,.bin .add (.t 10) (.c (.int .i64 1)),none,[]⟩,⟨2,some 5,.mv (.t 11),none,[]⟩])))))) (.seq (.region [⟨0,some 18,.mv (.t 1),none,[]⟩,⟨1,some 4,.mv (.t 18),none,[]⟩]) .ret)))
def YW:AFun:=⟨2,19,0,false,[.tmp 4],fQ⟩
@[irreducible] def Pc:Bc:=EG YW
@[irreducible] def F6(x:CA)(m:Int):CA×Int:=(shut λ(x:CA) (m:Int)=>AW (RT.mkI (.one (.sl AQ))) x m).1 x m
@[irreducible] def T9(x:CA):Prop:=(shut λ(x:CA)=>CT.wl (.sl (.one (.sl AQ))) x).1 x
theorem fm:F6=λx m=>AW (RT.mkI (.one (.sl AQ))) x m:=by unfold F6;exact(shut _).2
theorem q6:T9=λx=>CT.wl (.sl (.one (.sl AQ))) x:=by unfold T9;exact(shut _).2
theorem sC:SlC Pc (.one (.sl AQ)):=by
 rintro h ω hd p l u m Q d8 hinj hM hQ;have y:=hM.len;have hlb:l.length<=9223372036854775807:=d8.1;unfold Pc;refine Jy rfl ?_;unfold fQ;simp only[go_sem,reduceIte,reduceCtorEq,Nat.reduceAdd,Nat.reduceBEq,Int.reduceLT,Int.reduceLE,Int.reduceGT,Int.reduceGE,Int.reduceBEq,Int.reduceBNe,Nat.reduceEqDiff,Nat.reduceLeDiff,Nat.reduceLT,y];refine MA l.length (λi st=>∃h',st=⟨[u,.int .i64 (Bb (RT.mkI (.one (.sl AQ))) l m i).2,.undef,.undef,.undef,.int .i64 (i:Int)]++Es 13,[],h'⟩/\x_ (Gv ω hd p) h h'/\MS h' ω hd p (.one (.sl AQ)) (Bb (RT.mkI (.one (.sl AQ))) l m i).1 u) ?_ ?_
 ·refine⟨h,?_,x_.refl _ _,hM⟩;simp only[Mo,keep,MN];rfl
 rintro i st next hi ⟨h1,rfl,N,t⟩ C
 by_cases A:i<l.length
 ·have z:decide ((i:Int)<(l.length:Int))=true:=Gj (by omega);have M:IntKind.i64.wrap ((i:Int)+1)=((i+1:Nat):Int):=(by rw[LM (by omega)];omega);obtain⟨b,q⟩:=t.slice (by rw[Fk];omega);rw[Fk]at q;subst q;cases O:Bb (RT.mkI (.one (.sl AQ))) l m i with
  |mk L I=>
  rw[O]at t;obtain⟨hLl,hs,g⟩:=NF A O;have s:i<L.length:=(by omega);have j:=On d8 A;rw[<- g]at j;have U:=MS.frame t s;clear g;generalize g:List.getD L i (RT.dflt (.one (.sl AQ)))=x0 at U hs j;clear g;have J:=ME (b:=b) (w:=1) A (k:=.i64);simp only;obtain⟨G,x,Y,f0⟩:=MS.sb U s (off:=0) (by decide) (r':=AQ) (l':=x0) rfl;replace x:Lq h1 none (.ptr b (i*1))=some G:=x;have n:=(MS.ok1 Y).1;simp only[go_sem,reduceIte,reduceCtorEq,Nat.reduceAdd,Nat.reduceBEq,Int.reduceLT,Int.reduceLE,Int.reduceGT,Int.reduceGE,Int.reduceBEq,Int.reduceBNe,Nat.reduceEqDiff,Nat.reduceLeDiff,Nat.reduceLT,y,z,M,J,x,n];refine LO (ta h1 ω hd _ x0 G I _ j hinj Y λR O0 N0=>?_);obtain⟨Z,R1⟩:=f0 R _ ((AW (RT.mkI AQ) x0 I).1:RT.D (.one (.sl AQ))) O0 N0 rfl;simp only[go_sem,reduceIte,reduceCtorEq,Nat.reduceAdd,Nat.reduceBEq,Int.reduceLT,Int.reduceLE,Int.reduceGT,Int.reduceGE,Int.reduceBEq,Int.reduceBNe,Nat.reduceEqDiff,Nat.reduceLeDiff,Nat.reduceLT,y,z,M,J,x,n];exact C _ A ⟨R,by rw[hs];rfl,(x_.trans N Z),by rw[hs];exact R1⟩
 have z:decide ((i:Int)<(l.length:Int))=false:=Dl (by omega);have F:i=l.length:=by omega
 subst F;simp only[go_sem,reduceIte,reduceCtorEq,Nat.reduceAdd,Nat.reduceBEq,Int.reduceLT,Int.reduceLE,Int.reduceGT,Int.reduceGE,Int.reduceBEq,Int.reduceBNe,Nat.reduceEqDiff,Nat.reduceLeDiff,Nat.reduceLT,y,z];have e:=IC (RT.mkI (.one (.sl AQ))) l m;rw[e]at t ⊢;exact hQ h1 N t
def gr:ACode:=(.seq (.region [⟨0,some 4,.mv (.c (.int .i64 0)),none,[]⟩]) (.seq (.seq (.region [⟨0,some 5,.mv (.c (.int .i64 0)),none,[]⟩]) (.block 0 (.loop [0,1,5] (.seq (.seq (.region [⟨0,some 6,.mv (.t 5),none,[]⟩,⟨1,some 7,.mv (.t 0),none,[]⟩,⟨2,some 8,.len (.t 7),none,[]⟩,⟨3,some 9,.bin .lss (.t 6) (.t 8),none,[]⟩]) (.cond (.t 9) .skip (.exit 0))) (.seq (.block 1 (.seq (.region [⟨0,some 12,.mv (.t 0),none,[]⟩,⟨1,some 13,.mv (.t 5),none,[]⟩,⟨2,some 14,.mv (.t 1),none,[]⟩,⟨3,some 15,.p_ 5 (.t 12) (.t 13),none,[]⟩,⟨4,some 16,.f5 0 (.t 15),none,[]⟩,⟨5,none,.f8 1 (.t 16) (.t 14),none,[]⟩]) (.seq (.region [⟨0,some 17,.mv (.t 1),none,[]⟩,⟨1,some 18,.bin .add (.t 17) (.c (.int .i64 1)),none,[]⟩,⟨2,some 1,.mv (.t 18),none,[]⟩]) (.seq (.region [⟨0,some 19,.mv (.t 0),none,[]⟩,⟨1,some 20,.mv (.t 5),none,[]⟩,⟨2,some 21,.mv (.t 1),none,[]⟩,⟨3,some 22,.p_ 5 (.t 19) (.t 20),none,[]⟩,⟨4,some 23,.f5 1 (.t 22),none,[]⟩,⟨5,some 24,.f5 0 (.t 23),none,[]⟩,⟨6,none,.f8 1 (.t 24) (.t 21),none,[]⟩]) (.seq (.region [⟨0,some 25,.mv (.t 1),none,[]⟩,⟨1,some 26,.bin .add (.t 25) (.c (.int .i64 1)),none,[]⟩,⟨2,some 1,.mv (.t 26),none,[]⟩]) (.seq (.region [⟨0,some 27,.mv (.t 0),none,[]⟩,⟨1,some 28,.mv (.t 5),none,[]⟩,⟨2,some 29,.mv (.t 1),none,[]⟩,⟨3,some 30,.p_ 5 (.t 27) (.t 28),none,[]⟩,⟨4,some 31,.f5 1 (.t 30),none,[]⟩,⟨5,some 32,.f5 1 (.t 31),none,[]⟩,⟨6,none,.f8 1 (.t 32) (.t 29),none,[]⟩]) (.seq (.region [⟨0,some 33,.mv (.t 1),none,[]⟩,⟨1,some 34,.bin .add (.t 33) (.c (.int .i64 1)),none,[]⟩,⟨2,some 1,.mv (.t 34),none,[]⟩]) (.seq (.region [⟨0,some 35,.mv (.t 0),none,[]⟩,⟨1,some 36,.mv (.t 5),none,[]⟩,⟨2,some 37,.mv (.t 1),none,[]⟩,⟨3,some 38,.p_ 5 (.t 35) (.t 36),none,[]⟩,⟨4,some 39,.f5 1 (.t 38),none,[]⟩,⟨5,some 40,.f5 2 (.t 39),none,[]⟩,⟨6,none,.f8 1 (.t 40) (.t 37),none,[]⟩]) (.seq (.region [⟨0,some 41,.mv (.t 1),none,[]⟩,⟨1,some 42,.bin .add (.t 41) (.c (.int .i64 1)),none,[]⟩,⟨2,some 1,.mv (.t 42),none,[]⟩]) (.seq (.region [⟨0,some 43,.mv (.t 0),none,[]⟩,⟨1,some 44,.mv (.t 5),none,[]⟩,⟨2,some 45,.mv (.t 1),none,[]⟩,⟨3,some 46,.p_ 5 (.t 43) (.t 44),none,[]⟩,⟨4,some 47,.f5 1 (.t 46),none,[]⟩,⟨5,some 48,.f5 3 (.t 47),none,[]⟩,⟨6,none,.f8 1 (.t 48) (.t 45),none,[]⟩]) (.region [⟨0,some 49,.mv (.t 1),none,[]⟩,⟨1,some 50,.bin .add (.t 49) (.c (.int .i64 1)),none,[]⟩,⟨2,some 1,.mv (.t 50),none,[]⟩]))))))))))) (.region [⟨0,some 10,.mv (.t 5),none,[]⟩,⟨1,some 11,.bin .add (.t 10) (.c (.int .i64 1)),none,[]⟩,⟨2,some 5,.mv (.t 11),none,[]⟩])))))) (.seq (.region [⟨0,some 51,.mv (.t 1),none,[]⟩,⟨1,some 4,.mv (.t 51),none,[]⟩]) .ret)))
def Zd:AFun:=⟨2,52,0,false,[.tmp 4],gr⟩
@[irreducible] def Pn:Bc:=EG Zd
@[irreducible] def Ic(x:Bg)(m:Int):Bg×Int:=(shut λ(x:Bg) (m:Int)=>AW (RT.mkI AU) x m).1 x m
@[irreducible] def Uq(x:Bg):Prop:=(shut λ(x:Bg)=>CT.wl (.sl AU) x).1 x
theorem fA:Ic=λx m=>AW (RT.mkI AU) x m:=by unfold Ic;exact(shut _).2
theorem rQ:Uq=λx=>CT.wl (.sl AU) x:=by unfold Uq;exact(shut _).2
theorem tR:SlC Pn AU:=by
 rintro h ω hd p l u m Q d8 hinj hM hQ;have J:=hM.len;have hlb:l.length<=9223372036854775807:=d8.1;unfold Pn;refine Jy rfl ?_;unfold gr;simp only[go_sem,reduceIte,reduceCtorEq,Nat.reduceAdd,Nat.reduceBEq,Int.reduceLT,Int.reduceLE,Int.reduceGT,Int.reduceGE,Int.reduceBEq,Int.reduceBNe,Nat.reduceEqDiff,Nat.reduceLeDiff,Nat.reduceLT,J];refine MA l.length (λi st=>∃h',st=⟨[u,.int .i64 (Bb (RT.mkI AU) l m i).2,.undef,.undef,.undef,.int .i64 (i:Int)]++Es 46,[],h'⟩/\x_ (Gv ω hd p) h h'/\MS h' ω hd p AU (Bb (RT.mkI AU) l m i).1 u) ?_ ?_
 ·refine⟨h,?_,x_.refl _ _,hM⟩;simp only[Mo,keep,MN];rfl
 rintro i st next hi ⟨h1,rfl,O,t⟩ I
 by_cases x:i<l.length
 ·have N:decide ((i:Int)<(l.length:Int))=true:=Gj (by omega);have hw:IntKind.i64.wrap ((i:Int)+1)=((i+1:Nat):Int):=(by rw[LM (by omega)];omega);obtain⟨b,s⟩:=t.slice (by rw[Fk];omega);rw[Fk]at s;subst s;cases R:Bb (RT.mkI AU) l m i with
  |mk L g=>
  rw[R]at t;obtain⟨hLl,hs,n⟩:=NF x R;have j:i<L.length:=(by omega);have q:=On d8 x;rw[<- n]at q;have R0:=MS.frame t j;clear n;generalize n:List.getD L i (RT.dflt AU)=x0 at R0 hs q;clear n;have hx:=ME (b:=b) (w:=5) x (k:=.i64);simp only;obtain⟨h2,G,o0,R1⟩:=MS.st R0 j (off:=0) (by decide) (v:=(.int .i64 g)) rfl rfl (y:=((g,x0.2.1,x0.2.2.1,x0.2.2.2.1,x0.2.2.2.2):RT.D AU)) rfl hinj [];replace G:Ek [] h1 1 (.ptr b (i*5)) (.int .i64 g)=some (.undef,[],h2):=G;obtain⟨h3,F,o1,R2⟩:=MS.st R1 j (off:=1) (by decide) (v:=(.int .i64 (IntKind.i64.wrap (g+1)))) rfl rfl (y:=((g,(IntKind.i64.wrap (g+1)),x0.2.2.1,x0.2.2.2.1,x0.2.2.2.2):RT.D AU)) rfl hinj [];replace F:Ek [] h2 1 (.ptr b (i*5+1)) (.int .i64 (IntKind.i64.wrap (g+1)))=some (.undef,[],h3):=F;obtain⟨Z,C,o2,R3⟩:=MS.st R2 j (off:=2) (by decide) (v:=(.int .i64 (IntKind.i64.wrap (IntKind.i64.wrap (g+1)+1)))) rfl rfl (y:=((g,(IntKind.i64.wrap (g+1)),(IntKind.i64.wrap (IntKind.i64.wrap (g+1)+1)),x0.2.2.2.1,x0.2.2.2.2):RT.D AU)) rfl hinj [];replace C:Ek [] h3 1 (.ptr b (i*5+1+1)) (.int .i64 (IntKind.i64.wrap (IntKind.i64.wrap (g+1)+1)))=some (.undef,[],Z):=C;obtain⟨Y,A,o3,R4⟩:=MS.st R3 j (off:=3) (by decide) (v:=(.int .i64 (IntKind.i64.wrap (IntKind.i64.wrap (IntKind.i64.wrap (g+1)+1)+1)))) rfl rfl (y:=((g,(IntKind.i64.wrap (g+1)),(IntKind.i64.wrap (IntKind.i64.wrap (g+1)+1)),(IntKind.i64.wrap (IntKind.i64.wrap (IntKind.i64.wrap (g+1)+1)+1)),x0.2.2.2.2):RT.D AU)) rfl hinj [];replace A:Ek [] Z 1 (.ptr b (i*5+1+2)) (.int .i64 (IntKind.i64.wrap (IntKind.i64.wrap (IntKind.i64.wrap (g+1)+1)+1)))=some (.undef,[],Y):=A;obtain⟨U,z,o4,R5⟩:=MS.st R4 j (off:=4) (by decide) (v:=(.int .i64 (IntKind.i64.wrap (IntKind.i64.wrap (IntKind.i64.wrap (IntKind.i64.wrap (g+1)+1)+1)+1)))) rfl rfl (y:=((g,(IntKind.i64.wrap (g+1)),(IntKind.i64.wrap (IntKind.i64.wrap (g+1)+1)),(IntKind.i64.wrap (IntKind.i64.wrap (IntKind.i64.wrap (g+1)+1)+1)),(IntKind.i64.wrap (IntKind.i64.wrap (IntKind.i64.wrap (IntKind.i64.wrap (g+1)+1)+1)+1))):RT.D AU)) rfl hinj [];replace z:Ek [] Y 1 (.ptr b (i*5+1+3)) (.int .i64 (IntKind.i64.wrap (IntKind.i64.wrap (IntKind.i64.wrap (IntKind.i64.wrap (g+1)+1)+1)+1)))=some (.undef,[],U):=z;simp only[go_sem,reduceIte,reduceCtorEq,Nat.reduceAdd,Nat.reduceBEq,Int.reduceLT,Int.reduceLE,Int.reduceGT,Int.reduceGE,Int.reduceBEq,Int.reduceBNe,Nat.reduceEqDiff,Nat.reduceLeDiff,Nat.reduceLT,J,N,hw,hx,G,F,C,A,z];exact I _ x ⟨U,by rw[hs];rfl,(x_.trans (x_.trans (x_.trans (x_.trans (x_.trans O o0) o1) o2) o3) o4),by rw[hs];exact R5⟩
 have N:decide ((i:Int)<(l.length:Int))=false:=Dl (by omega);have M:i=l.length:=by omega
 subst M;simp only[go_sem,reduceIte,reduceCtorEq,Nat.reduceAdd,Nat.reduceBEq,Int.reduceLT,Int.reduceLE,Int.reduceGT,Int.reduceGE,Int.reduceBEq,Int.reduceBNe,Nat.reduceEqDiff,Nat.reduceLeDiff,Nat.reduceLT,J,N];have e:=IC (RT.mkI AU) l m;rw[e]at t ⊢;exact hQ h1 O t
def fM:ACode:=(.seq (.region [⟨0,some 2,.boxB 0 7 (.t 0),none,[]⟩,⟨1,some 4,.mv (.c (.int .i64 0)),none,[]⟩]) (.seq (.region [⟨0,some 5,.f5 0 (.t 2),none,[]⟩,⟨1,some 6,.d7 0 (some 2) (.t 5),none,[]⟩,⟨2,some 7,.mv (.t 1),none,[]⟩,⟨3,some 8,.call Nn [(.t 6),(.t 7)],none,[]⟩,⟨4,some 1,.mv (.t 8),none,[]⟩]) (.seq (.region [⟨0,some 9,.f5 2 (.t 2),none,[]⟩,⟨1,some 10,.d7 0 none (.t 9),none,[]⟩,⟨2,some 11,.mv (.t 1),none,[]⟩,⟨3,some 12,.call Pc [(.t 10),(.t 11)],none,[]⟩,⟨4,some 1,.mv (.t 12),none,[]⟩]) (.seq (.region [⟨0,some 13,.f5 4 (.t 2),none,[]⟩,⟨1,some 14,.d7 0 none (.t 13),none,[]⟩,⟨2,some 15,.mv (.t 1),none,[]⟩,⟨3,some 16,.call Pn [(.t 14),(.t 15)],none,[]⟩,⟨4,some 1,.mv (.t 16),none,[]⟩]) (.seq (.region [⟨0,some 17,.mv (.t 1),none,[]⟩,⟨1,some 4,.mv (.t 17),none,[]⟩]) .ret)))))
def YX:AFun:=⟨2,18,1,false,[.tmp 4],fM⟩
@[irreducible] def Jn:Bc:=EG YX
@[irreducible] def AP(x:BS)(m:Int):BS×Int:=(shut λ(x:BS) (m:Int)=>RT.mkT (.cons (.int .i64) (.cons (.sl (.one (.sl AB))) (.cons (.sl (.one (.sl AQ))) (.cons (.int .i64) (.cons (.sl AU) (.cons (.int .i64) (.one (.bool)))))))) x m).1 x m
@[irreducible] def Nh(x:BS):Prop:=(shut λ(x:BS)=>RT.wl (.cons (.int .i64) (.cons (.sl (.one (.sl AB))) (.cons (.sl (.one (.sl AQ))) (.cons (.int .i64) (.cons (.sl AU) (.cons (.int .i64) (.one (.bool)))))))) x).1 x
theorem fu:AP=λx m=>RT.mkT (.cons (.int .i64) (.cons (.sl (.one (.sl AB))) (.cons (.sl (.one (.sl AQ))) (.cons (.int .i64) (.cons (.sl AU) (.cons (.int .i64) (.one (.bool)))))))) x m:=by unfold AP;exact(shut _).2
theorem fo:Nh=λx=>RT.wl (.cons (.int .i64) (.cons (.sl (.one (.sl AB))) (.cons (.sl (.one (.sl AQ))) (.cons (.int .i64) (.cons (.sl AU) (.cons (.int .i64) (.one (.bool)))))))) x:=by unfold Nh;exact(shut _).2
theorem sH:Lz Jn (eX (.cons (.int .i64) (.cons (.sl (.one (.sl AB))) (.cons (.sl (.one (.sl AQ))) (.cons (.int .i64) (.cons (.sl AU) (.cons (.int .i64) (.one (.bool))))))))).P:=by
 rintro h ω hd P b AH us u m K Q hinj hu hl hr ⟨x,rfl,d8,hK⟩ hQ;have hu:u= .agg us:=hu;subst hu;show Jn [.agg us,.int .i64 m] h Q;obtain⟨u0,u1,u2,u3,u4,u5,u6,rfl⟩:=ZiU hl;have c0:RM h ω hd (P++[b+0]) (CT.enc (.int .i64) x.1) u0:=hr 0 (FU (by decide));have c1:RM h ω hd (P++[b+1]) (CT.enc (.sl (.one (.sl AB))) x.2.1) u1:=hr 1 (FU (by decide));have c2:RM h ω hd (P++[b+2]) (CT.enc (.sl (.one (.sl AQ))) x.2.2.1) u2:=hr 2 (FU (by decide));have c3:RM h ω hd (P++[b+3]) (CT.enc (.int .i64) x.2.2.2.1) u3:=hr 3 (FU (by decide));have c4:RM h ω hd (P++[b+4]) (CT.enc (.sl AU) x.2.2.2.2.1) u4:=hr 4 (FU (by decide));have c5:RM h ω hd (P++[b+5]) (CT.enc (.int .i64) x.2.2.2.2.2.1) u5:=hr 5 (FU (by decide));have c6:RM h ω hd (P++[b+6]) (CT.enc (.bool) x.2.2.2.2.2.2) u6:=hr 6 (FU (by decide));have e0:=c0.cellV rfl;have s:=c1.cellV rfl;have n:=c2.cellV rfl;have e3:=c3.cellV rfl;have e4:=c4.cellV rfl;have e5:=c5.cellV rfl;have e6:=c6.cellV rfl;have g1:=(RM.own1 c1).1;have z1:=(RM.own1 c1).2.2;have g2:=(RM.own1 c2).1;have z2:=(RM.own1 c2).2.2;have g4:=(RM.own1 c4).1;have z4:=(RM.own1 c4).2.2;unfold Jn;refine Jy rfl ?_;unfold fM;simp only[go_sem,reduceIte,reduceCtorEq,Nat.reduceAdd,Nat.reduceBEq,Int.reduceLT,Int.reduceLE,Int.reduceGT,Int.reduceGE,Int.reduceBEq,Int.reduceBNe,Nat.reduceEqDiff,Nat.reduceLeDiff,Nat.reduceLT,e0,s,n,e3,e4,e5,e6,g1,g2,g4];refine LO (rn h ω hd P (b+0) (RT.enc (.cons (.int .i64) (.one (.sl (.one (.sl AB))))) ((x.1,x.2.1):RT.D (.cons (.int .i64) (.one (.sl (.one (.sl AB))))))) [u0,u1] _ m (λnn kk=>nn=RT.enc (.cons (.int .i64) (.one (.sl (.one (.sl AB))))) (RT.mkT (.cons (.int .i64) (.one (.sl (.one (.sl AB))))) ((x.1,x.2.1):RT.D (.cons (.int .i64) (.one (.sl (.one (.sl AB)))))) m).1/\kk=(RT.mkT (.cons (.int .i64) (.one (.sl (.one (.sl AB))))) ((x.1,x.2.1):RT.D (.cons (.int .i64) (.one (.sl (.one (.sl AB)))))) m).2) _ hinj rfl rfl (λc g=>?_) ⟨((x.1,x.2.1):RT.D (.cons (.int .i64) (.one (.sl (.one (.sl AB)))))),rfl,⟨d8.1,d8.2.1⟩,⟨rfl,rfl⟩⟩ λnews m' h1 hK0 hln0 t N0=>?_)
 ·have g:c<2:=g;rcases (show c=0\/c=1 by omega)with rfl|rfl
  ·exact c0
  exact c1
 obtain⟨rfl,rfl⟩:news=RT.enc (.cons (.int .i64) (.one (.sl (.one (.sl AB))))) (RT.mkT (.cons (.int .i64) (.one (.sl (.one (.sl AB))))) ((x.1,x.2.1):RT.D (.cons (.int .i64) (.one (.sl (.one (.sl AB)))))) m).1/\m'=(RT.mkT (.cons (.int .i64) (.one (.sl (.one (.sl AB))))) ((x.1,x.2.1):RT.D (.cons (.int .i64) (.one (.sl (.one (.sl AB)))))) m).2:=hK0;have N0_0:RM h1 ω hd (P++[b+0]) (CT.enc (.int .i64) ((RT.mkT (.cons (.int .i64) (.one (.sl (.one (.sl AB))))) ((x.1,x.2.1):RT.D (.cons (.int .i64) (.one (.sl (.one (.sl AB)))))) m).1.1)) u0:=N0 0 (FU (by decide));have N0_1:RM h1 ω hd (P++[b+1]) (CT.enc (.sl (.one (.sl AB))) ((RT.mkT (.cons (.int .i64) (.one (.sl (.one (.sl AB))))) ((x.1,x.2.1):RT.D (.cons (.int .i64) (.one (.sl (.one (.sl AB)))))) m).1.2)) u1:=N0 1 (FU (by decide));have P0:x_ (ZjL ω hd P b (RT.enc (.cons (.int .i64) (.cons (.sl (.one (.sl AB))) (.cons (.sl (.one (.sl AQ))) (.cons (.int .i64) (.cons (.sl AU) (.cons (.int .i64) (.one (.bool)))))))) x)) h h1:=t.mono λl hs=>by
  obtain⟨c,es,q,g,s,n⟩:=hs;have g:c<2:=g;rcases (show c=0\/c=1 by omega)with rfl|rfl
  ·cases s
  exact⟨1,_,q,FU (by decide),rfl,n⟩
 have b0_2:=RM.beside c2 t (λl hs=>by obtain⟨c,es,q,g,_,e⟩:=hs;have g:c<2:=g;exact⟨b+0+c,q,by omega,e⟩);have Z:=RM.beside c3 t (λl hs=>by obtain⟨c,es,q,g,_,e⟩:=hs;have g:c<2:=g;exact⟨b+0+c,q,by omega,e⟩);have Y:=RM.beside c4 t (λl hs=>by obtain⟨c,es,q,g,_,e⟩:=hs;have g:c<2:=g;exact⟨b+0+c,q,by omega,e⟩);have U:=RM.beside c5 t (λl hs=>by obtain⟨c,es,q,g,_,e⟩:=hs;have g:c<2:=g;exact⟨b+0+c,q,by omega,e⟩);have R:=RM.beside c6 t (λl hs=>by obtain⟨c,es,q,g,_,e⟩:=hs;have g:c<2:=g;exact⟨b+0+c,q,by omega,e⟩);simp only[go_sem,reduceIte,reduceCtorEq,Nat.reduceAdd,Nat.reduceBEq,Int.reduceLT,Int.reduceLE,Int.reduceGT,Int.reduceGE,Int.reduceBEq,Int.reduceBNe,Nat.reduceEqDiff,Nat.reduceLeDiff,Nat.reduceLT,e0,s,n,e3,e4,e5,e6,g1,g2,g4];refine LO (sC h1 ω hd (P++[b+2]) x.2.2.1 u2 ((RT.mkT (.cons (.int .i64) (.one (.sl (.one (.sl AB))))) ((x.1,x.2.1):RT.D (.cons (.int .i64) (.one (.sl (.one (.sl AB)))))) m).2) _ d8.2.2.1 hinj b0_2 λh2 j N1=>?_);replace N1:RM h2 ω hd (P++[b+2]) (CT.enc (.sl (.one (.sl AQ))) (AW (RT.mkI (.one (.sl AQ))) x.2.2.1 ((RT.mkT (.cons (.int .i64) (.one (.sl (.one (.sl AB))))) ((x.1,x.2.1):RT.D (.cons (.int .i64) (.one (.sl (.one (.sl AB)))))) m).2)).1) u2:=N1;have O:=RM.beside N0_0 j (λl hs=>by obtain⟨q,e⟩:=hs;exact⟨b+2,q,by omega,by rw[e];simp⟩);have N:=RM.beside N0_1 j (λl hs=>by obtain⟨q,e⟩:=hs;exact⟨b+2,q,by omega,by rw[e];simp⟩);have M:=RM.beside Z j (λl hs=>by obtain⟨q,e⟩:=hs;exact⟨b+2,q,by omega,by rw[e];simp⟩);have L:=RM.beside Y j (λl hs=>by obtain⟨q,e⟩:=hs;exact⟨b+2,q,by omega,by rw[e];simp⟩);have J:=RM.beside U j (λl hs=>by obtain⟨q,e⟩:=hs;exact⟨b+2,q,by omega,by rw[e];simp⟩);have I:=RM.beside R j (λl hs=>by obtain⟨q,e⟩:=hs;exact⟨b+2,q,by omega,by rw[e];simp⟩);simp only[go_sem,reduceIte,reduceCtorEq,Nat.reduceAdd,Nat.reduceBEq,Int.reduceLT,Int.reduceLE,Int.reduceGT,Int.reduceGE,Int.reduceBEq,Int.reduceBNe,Nat.reduceEqDiff,Nat.reduceLeDiff,Nat.reduceLT,e0,s,n,e3,e4,e5,e6,g1,g2,g4];refine LO (tR h2 ω hd (P++[b+4]) x.2.2.2.2.1 u4 ((AW (RT.mkI (.one (.sl AQ))) x.2.2.1 ((RT.mkT (.cons (.int .i64) (.one (.sl (.one (.sl AB))))) ((x.1,x.2.1):RT.D (.cons (.int .i64) (.one (.sl (.one (.sl AB)))))) m).2)).2) _ d8.2.2.2.2.1 hinj L λh3 i N2=>?_);replace N2:RM h3 ω hd (P++[b+4]) (CT.enc (.sl AU) (AW (RT.mkI AU) x.2.2.2.2.1 ((AW (RT.mkI (.one (.sl AQ))) x.2.2.1 ((RT.mkT (.cons (.int .i64) (.one (.sl (.one (.sl AB))))) ((x.1,x.2.1):RT.D (.cons (.int .i64) (.one (.sl (.one (.sl AB)))))) m).2)).2)).1) u4:=N2;have G:=RM.beside O i (λl hs=>by obtain⟨q,e⟩:=hs;exact⟨b+4,q,by omega,by rw[e];simp⟩);have F:=RM.beside N i (λl hs=>by obtain⟨q,e⟩:=hs;exact⟨b+4,q,by omega,by rw[e];simp⟩);have C:=RM.beside N1 i (λl hs=>by obtain⟨q,e⟩:=hs;exact⟨b+4,q,by omega,by rw[e];simp⟩);have A:=RM.beside M i (λl hs=>by obtain⟨q,e⟩:=hs;exact⟨b+4,q,by omega,by rw[e];simp⟩);have z:=RM.beside J i (λl hs=>by obtain⟨q,e⟩:=hs;exact⟨b+4,q,by omega,by rw[e];simp⟩);have y:=RM.beside I i (λl hs=>by obtain⟨q,e⟩:=hs;exact⟨b+4,q,by omega,by rw[e];simp⟩);simp only[go_sem,reduceIte,reduceCtorEq,Nat.reduceAdd,Nat.reduceBEq,Int.reduceLT,Int.reduceLE,Int.reduceGT,Int.reduceGE,Int.reduceBEq,Int.reduceBNe,Nat.reduceEqDiff,Nat.reduceLeDiff,Nat.reduceLT,e0,s,n,e3,e4,e5,e6,g1,g2,g4];refine hQ _ _ h3 hK rfl ((x_.trans (x_.trans P0 (x_.mono j λl hs=>by obtain⟨q,e⟩:=hs;exact⟨2,_,q,FU (by decide),rfl,by rw[e];simp⟩)) (x_.mono i λl hs=>by obtain⟨q,e⟩:=hs;exact⟨4,_,q,FU (by decide),rfl,by rw[e];simp⟩))) λc g=>?_;have g:c<7:=g;rcases (show c=0\/c=1\/c=2\/c=3\/c=4\/c=5\/c=6 by omega)with rfl|rfl|rfl|rfl|rfl|rfl|rfl
 ·exact G
 ·exact F
 ·exact C
 ·exact A
 ·exact N2
 ·exact z
 exact y
def UF:DMk:=⟨(.cons (.int .i64) (.cons (.sl (.one (.sl AB))) (.cons (.sl (.one (.sl AQ))) (.cons (.int .i64) (.cons (.sl AU) (.cons (.int .i64) (.one (.bool)))))))),true,Nh,AP,false⟩
theorem fp:Lz Jn (DMk.P UF):=by unfold UF;rw[fo,fu];exact sH
def tL:d4:=(A_ [1,0] 4 [E' 0] (.seq [1] (A_ [5,1,0] 5 [E' 0] (.block 0 (.loop [0,1,5] 1 (.seq [5,1,0] (A_ [9,5,1,0] 6 [C_ 5,D_ 0,L' 7,M' 6 8] (.cond 9 .skip (.exit 0))) (.seq [5,1,0] (.block 1 (.seq [5,1,0] (A_ [18,5,1,0] 12 [D_ 0,C_ 5,N_ 3 12 13,J' 0 14,O_ 15,C_ 1,N' 16 17] (.cond 18 (A_ [4] 4 [E' (-1)] .ret) .skip)) (A_ [5,1,0] 19 [C_ 1,M_ 19 AA,G_ 1 (C_ 20)] (.seq [5,1,0] (A_ [27,5,1,0] 21 [D_ 0,C_ 5,N_ 3 21 22,J' 1 23,O_ 24,C_ 1,N' 25 26] (.cond 27 (A_ [4] 4 [E' (-1)] .ret) .skip)) (A_ [5,1,0] 28 [C_ 1,M_ 28 AA,G_ 1 (C_ 29)] (.seq [5,1,0] (A_ [36,5,1,0] 30 [D_ 0,C_ 5,N_ 3 30 31,J' 2 32,O_ 33,C_ 1,N' 34 35] (.cond 36 (A_ [4] 4 [E' (-1)] .ret) .skip)) (At 37 [C_ 1,M_ 37 AA,G_ 1 (C_ 38)]))))))) (At 10 [C_ 5,M_ 10 AA,G_ 5 (C_ 11)])))))) (A_ [4] 39 [C_ 1,G_ 4 (C_ 39)] .ret)))
def Kt:Fn:=⟨⟨2,40,0,true,[.tmp 4],tL⟩,[.one .Z' (.sl AQ),.one .Z' (.int .i64)],.one (.one .own (.int .i64))⟩
theorem tj:Kt.A:=AM trivial
def GH:LR->Int:=Kt.V
def Q7:LR->Prop:=Kt.O
theorem tS:Kt.B:=AO trivial (by kernel_rfl) (λx=>by kernel_rfl)
def sB:d4:=(A_ [1,0] 4 [E' 0] (.seq [1] (A_ [5,1,0] 5 [E' 0] (.block 0 (.loop [0,1,5] 1 (.seq [5,1,0] (A_ [9,5,1,0] 6 [C_ 5,D_ 0,L' 7,M' 6 8] (.cond 9 .skip (.exit 0))) (.seq [5,1,0] (.block 1 (A_ [5,1,0] 12 [D_ 0,C_ 5,N_ 1 12 13,O_ 14,C_ 1,I' Kt [15,16],G_ 1 (C_ 17)] (A_ [19,5,1,0] 18 [C_ 1,M' 18 AL] (.cond 19 (A_ [4] 4 [E' (-1)] .ret) .skip)))) (At 10 [C_ 5,M_ 10 AA,G_ 5 (C_ 11)])))))) (A_ [4] 20 [C_ 1,G_ 4 (C_ 20)] .ret)))
def Ki:Fn:=⟨⟨2,21,0,true,[.tmp 4],sB⟩,[.one .Z' (.sl (.one (.sl AQ))),.one .Z' (.int .i64)],.one (.one .own (.int .i64))⟩
theorem sJ:Ki.A:=AM ⟨tj,trivial⟩
def Kd:G8->Int:=Ki.V
def Uo:G8->Prop:=Ki.O
theorem rD:Ki.B:=AO ⟨tS,trivial⟩ (by kernel_rfl) (λx=>by kernel_rfl)
def tu:d4:=(A_ [1,0] 4 [E' 0] (.seq [1] (A_ [5,1,0] 5 [E' 0] (.block 0 (.loop [0,1,5] 1 (.seq [5,1,0] (A_ [9,5,1,0] 6 [C_ 5,D_ 0,L' 7,M' 6 8] (.cond 9 .skip (.exit 0))) (.seq [5,1,0] (.block 1 (.seq [5,1,0] (A_ [18,5,1,0] 12 [D_ 0,C_ 5,N_ 5 12 13,J' 0 14,O_ 15,C_ 1,N' 16 17] (.cond 18 (A_ [4] 4 [E' (-1)] .ret) .skip)) (A_ [5,1,0] 19 [C_ 1,M_ 19 AA,G_ 1 (C_ 20)] (.seq [5,1,0] (A_ [28,5,1,0] 21 [D_ 0,C_ 5,N_ 5 21 22,J' 1 23,J' 0 24,O_ 25,C_ 1,N' 26 27] (.cond 28 (A_ [4] 4 [E' (-1)] .ret) .skip)) (A_ [5,1,0] 29 [C_ 1,M_ 29 AA,G_ 1 (C_ 30)] (.seq [5,1,0] (A_ [38,5,1,0] 31 [D_ 0,C_ 5,N_ 5 31 32,J' 1 33,J' 1 34,O_ 35,C_ 1,N' 36 37] (.cond 38 (A_ [4] 4 [E' (-1)] .ret) .skip)) (A_ [5,1,0] 39 [C_ 1,M_ 39 AA,G_ 1 (C_ 40)] (.seq [5,1,0] (A_ [48,5,1,0] 41 [D_ 0,C_ 5,N_ 5 41 42,J' 1 43,J' 2 44,O_ 45,C_ 1,N' 46 47] (.cond 48 (A_ [4] 4 [E' (-1)] .ret) .skip)) (A_ [5,1,0] 49 [C_ 1,M_ 49 AA,G_ 1 (C_ 50)] (.seq [5,1,0] (A_ [58,5,1,0] 51 [D_ 0,C_ 5,N_ 5 51 52,J' 1 53,J' 3 54,O_ 55,C_ 1,N' 56 57] (.cond 58 (A_ [4] 4 [E' (-1)] .ret) .skip)) (At 59 [C_ 1,M_ 59 AA,G_ 1 (C_ 60)]))))))))))) (At 10 [C_ 5,M_ 10 AA,G_ 5 (C_ 11)])))))) (A_ [4] 61 [C_ 1,G_ 4 (C_ 61)] .ret)))
def Kr:Fn:=⟨⟨2,62,0,true,[.tmp 4],tu⟩,[.one .Z' (.sl AU),.one .Z' (.int .i64)],.one (.one .own (.int .i64))⟩
theorem sU:Kr.A:=AM trivial
def Ra:DR->Int:=Kr.V
def UD:DR->Prop:=Kr.O
theorem tU:Kr.B:=AO trivial (by kernel_rfl) (λx=>by kernel_rfl)
def sj:d4:=(A_ [2,1] 2 [O' 0 7 0,G_ 4 (E' 0)] (A_ [2,1] 5 [J' 0 2,K_ 0 2 5,C_ 1,I' Km [6,7],G_ 1 (C_ 8)] (.seq [2,1] (A_ [10,2,1] 9 [C_ 1,M' 9 AL] (.cond 10 (A_ [4] 4 [E' (-1)] .ret) .skip)) (A_ [2,1] 11 [J' 2 2,J_ 0 11,C_ 1,I' Ki [12,13],G_ 1 (C_ 14)] (.seq [2,1] (A_ [16,2,1] 15 [C_ 1,M' 15 AL] (.cond 16 (A_ [4] 4 [E' (-1)] .ret) .skip)) (A_ [1] 17 [J' 4 2,J_ 0 17,C_ 1,I' Kr [18,19],G_ 1 (C_ 20)] (.seq [1] (A_ [22,1] 21 [C_ 1,M' 21 AL] (.cond 22 (A_ [4] 4 [E' (-1)] .ret) .skip)) (A_ [4] 23 [C_ 1,G_ 4 (C_ 23)] .ret))))))))
def Ib:Fn:=⟨⟨2,24,1,true,[.tmp 4],sj⟩,[.agg [Au,(.Z',.sl (.one (.sl AB))),(.Z',.sl (.one (.sl AQ))),Au,(.Z',.sl AU),Au,(.Z',.bool)],.one .Z' (.int .i64)],.one (.one .own (.int .i64))⟩
theorem fH:Ib.A:=AM ⟨rP,sJ,sU,trivial⟩
def Ed:LN->Int:=Ib.V
def QZ:LN->Prop:=Ib.O
theorem fF:Ib.B:=AO ⟨rj,rD,tU,trivial⟩ (by kernel_rfl) (λx=>by kernel_rfl)
end
section
set_option maxRecDepth 100000
def Nl(x:BS)(x0:Int):Bool:=(W_ (c_ x0 (U_ x.2.2.1)) (U' (U' (GL (So x.2.2.1 (R_ x0) [])))))
def Ia(x0:Int):Int:=(V' .i64 x0 1)
def O4(x:BS)(x0:Int):Bool:=(W_ (c_ x0 (U_ x.2.2.2.2.1)) (U' (w_ (iGe (So x.2.2.2.2.1 (R_ x0) (0,0,0,0,0)).1 x.1) (W_ (i_ (So x.2.2.2.2.1 (R_ x0) (0,0,0,0,0)).2.1 9) (iGe (So x.2.2.2.2.1 (R_ x0) (0,0,0,0,0)).2.2.2.2 (U_ x.2.1))))))
def YK(x:BS)(x0:Int):Prop:=(((c_ x0 (U_ x.2.2.1))=true->((((0:Int)<=x0)/\(x0<(((List.length x.2.2.1):Int))))/\(((R_ x0)<(List.length x.2.2.1))/\(Pu (So x.2.2.1 (R_ x0) [])))))/\((c_ x0 (U_ x.2.2.1))=false->True))
def YN(x:BS)(x0:Int):Prop:=(((c_ x0 (U_ x.2.2.2.2.1))=true->((((0:Int)<=x0)/\(x0<(((List.length x.2.2.2.2.1):Int))))/\(((R_ x0)<(List.length x.2.2.2.2.1))/\(((iGe (So x.2.2.2.2.1 (R_ x0) (0,0,0,0,0)).1 x.1)=true->True)/\((iGe (So x.2.2.2.2.1 (R_ x0) (0,0,0,0,0)).1 x.1)=false->((((0:Int)<=x0)/\(x0<(((List.length x.2.2.2.2.1):Int))))/\(((R_ x0)<(List.length x.2.2.2.2.1))/\(((i_ (So x.2.2.2.2.1 (R_ x0) (0,0,0,0,0)).2.1 9)=true->((((0:Int)<=x0)/\(x0<(((List.length x.2.2.2.2.1):Int))))/\((R_ x0)<(List.length x.2.2.2.2.1))))/\((i_ (So x.2.2.2.2.1 (R_ x0) (0,0,0,0,0)).2.1 9)=false->True)))))))))/\((c_ x0 (U_ x.2.2.2.2.1))=false->True))
theorem Zma(x:BS)(f)(_:f=U' (GJ (x.1,x.2.1)))(g)(_:g=iGt (U_ x.2.2.1) 4)(i)(_:i=x.2.2.2.2.1)(a)(_:a=w_ f (w_ g (U' (EA i))))(b)(_:b=iSub .i64 (iShl .i64 1 (U_ x.2.1)) 1)(c)(_:c=c_ (Al (O4 x) Ia 0) (U_ i))(d)(_:d=c_ (Al (Nl x) Ia 0) (U_ x.2.2.1))(e)(_:e=g9 (iRem x.2.2.2.1 2) 0)(h)(_:h=BM (x.2.2.2.1,0,b)):Mc x=W_ (U' a) (W_ (U' d) (W_ (U' c) (W_ h (W_ e (BM (x.2.2.2.2.2.1,0,15))))))/\UL x=((Rc (x.1,x.2.1)/\(f=true->True)/\(f=false->(g=true->True)/\(g=false->Nt i)))/\(a=true->True)/\(a=false->Z_ (Nl x) Ia (YK x) 0/\(d=true->True)/\(d=false->Z_ (O4 x) Ia (YN x) 0/\(c=true->True)/\(c=false->(0:Int)<=U_ x.2.1/\D8 (x.2.2.2.1,0,b)/\(h=true->(2:Int)≠0/\(e=true->D8 (x.2.2.2.2.2.1,0,15))/\(e=false->True))/\(h=false->True))))):=by subst_vars;exact⟨(KH.v x).trans (by kernel_rfl),(KH.o x).trans (by kernel_rfl)⟩
abbrev uP:=λx=>(Zma x _ rfl _ rfl _ rfl _ rfl _ rfl _ rfl _ rfl _ rfl _ rfl).1
abbrev uT:=λx=>(Zma x _ rfl _ rfl _ rfl _ rfl _ rfl _ rfl _ rfl _ rfl _ rfl).2
def J9(x:BS)(x0:Int):Bool:=(W_ (c_ x0 (U_ x.2.2.1)) (U' (U' (Iq (So x.2.2.1 (R_ x0) [])))))
def H7(x0:Int):Int:=(V' .i64 x0 1)
def L3(x:BS)(x0:Int):Bool:=(W_ (c_ x0 (U_ x.2.2.2.2.1)) (U' (w_ (iGe (So x.2.2.2.2.1 (R_ x0) (0,0,0,0,0)).1 x.1) (W_ (i_ (So x.2.2.2.2.1 (R_ x0) (0,0,0,0,0)).2.1 9) (iGe (So x.2.2.2.2.1 (R_ x0) (0,0,0,0,0)).2.2.2.2 (U_ x.2.1))))))
def YH(x:BS)(x0:Int):Prop:=(((c_ x0 (U_ x.2.2.1))=true->((((0:Int)<=x0)/\(x0<(((List.length x.2.2.1):Int))))/\(((R_ x0)<(List.length x.2.2.1))/\(Pp (So x.2.2.1 (R_ x0) [])))))/\((c_ x0 (U_ x.2.2.1))=false->True))
def YG(x:BS)(x0:Int):Prop:=(((c_ x0 (U_ x.2.2.2.2.1))=true->((((0:Int)<=x0)/\(x0<(((List.length x.2.2.2.2.1):Int))))/\((R_ x0)<(List.length x.2.2.2.2.1))))/\((c_ x0 (U_ x.2.2.2.2.1))=false->True))
theorem Zmc(x:BS)(e)(_:e=U' (D6 (x.1,x.2.1)))(f)(_:f=iGt (U_ x.2.2.1) 4)(h)(_:h=x.2.2.2.2.1)(a)(_:a=w_ e (w_ f (w_ (U' (Ct h)) (w_ (c_ x.2.2.2.2.2.1 0) (iGt x.2.2.2.2.2.1 15)))))(b)(_:b=c_ (Al (L3 x) H7 0) (U_ h))(c)(_:c=c_ (Al (J9 x) H7 0) (U_ x.2.2.1))(d)(_:d=g9 (iRem x.2.2.2.1 2) 0)(g)(_:g=iGe x.2.2.2.1 0):FD x=W_ (U' a) (W_ (U' c) (W_ (U' b) (W_ g (W_ d (c_ x.2.2.2.1 (iShl .i64 1 (U_ x.2.1)))))))/\U0 x=((Rj (x.1,x.2.1)/\(e=true->True)/\(e=false->(f=true->True)/\(f=false->Nw h)))/\(a=true->True)/\(a=false->Z_ (J9 x) H7 (YH x) 0/\(c=true->True)/\(c=false->Z_ (L3 x) H7 (YG x) 0/\(b=true->True)/\(b=false->(g=true->(2:Int)≠0/\(d=true->(0:Int)<=U_ x.2.1)/\(d=false->True))/\(g=false->True))))):=by subst_vars;exact⟨(KA.v x).trans (by kernel_rfl),(KA.o x).trans (by kernel_rfl)⟩
abbrev gg:=λx=>(Zmc x _ rfl _ rfl _ rfl _ rfl _ rfl _ rfl _ rfl _ rfl).1
abbrev wE:=λx=>(Zmc x _ rfl _ rfl _ rfl _ rfl _ rfl _ rfl _ rfl _ rfl).2
def U3(x:BS)(x0:Int×CA):Bool:=(c_ x0.1 (U_ x.2.2.1))
def UU(x:BS)(x0:Int×CA):(Int×CA):=((V' .i64 x0.1 1),(i9 x0.2 [(i9 [] (So x.2.2.1 (R_ x0.1) []))]))
def Zh(x:BS)(x0:Int×CA):Prop:=(((c_ x0.1 (U_ x.2.2.1))=true->((((0:Int)<=x0.1)/\(x0.1<(((List.length x.2.2.1):Int))))/\(((R_ x0.1)<(List.length x.2.2.1))/\((AD (((List.length ([]:List Dr))+(List.length (So x.2.2.1 (R_ x0.1) [])))*3))/\(AD (((List.length x0.2)+(List.length [(i9 [] (So x.2.2.1 (R_ x0.1) []))]))*1))))))/\((c_ x0.1 (U_ x.2.2.1))=false->True))
theorem yG(x):RG x=((RE (x.1,x.2.1)).1,(RE (x.1,x.2.1)).2,(Al (U3 x) (UU x) (0,[])).2,x.2.2.2.1,i9 [] x.2.2.2.2.1,x.2.2.2.2.2):=(K0.v x).trans (by kernel_rfl)
theorem zQ(x):VA x=(Vv (x.1,x.2.1)/\Z_ (U3 x) (UU x) (Zh x) (0,[])/\AD ((List.length ([]:List Dc)+List.length x.2.2.2.2.1)*5)):=(K0.o x).trans (by kernel_rfl)
def T8(x:CA)(x0:G8):Bool:=(c_ x0.2 (U_ x))
def T7(x:CA)(x0:G8):G8:=((i9 x0.1 [(So x (R_ x0.2) [])]),(V' .i64 x0.2 1))
def YB(x:CA)(x0:G8):Prop:=(((c_ x0.2 (U_ x))=true->((((0:Int)<=x0.2)/\(x0.2<(((List.length x):Int))))/\(((R_ x0.2)<(List.length x))/\((AD ((List.length (So x (R_ x0.2) []))*3))/\(AD (((List.length x0.1)+(List.length [(So x (R_ x0.2) [])]))*1))))))/\((c_ x0.2 (U_ x))=false->True))
theorem sm(x):UH x=(Al (T8 x) (T7 x) ([],0)).1:=(Kh.v x).trans (by kernel_rfl)
theorem rC(x):Un x=Z_ (T8 x) (T7 x) (YB x) ([],0):=(Kh.o x).trans (by kernel_rfl)
theorem Zmh(x:LR)(c)(_:c=λ(x0:Ar)=>So x.1 (R_ x0.2) (0,0,0))(f)(_:f=λ(x0:Ar)=>i_ (c x0).2.1 (V' .i64 x0.1 1))(i)(_:i=U_ x.1)(b)(_:b=(λ(x0:Ar)=>W_ (c_ x0.2 i) (W_ (U' (i_ (c x0).1 x0.1)) (W_ (U' (f x0)) (U' (i_ (c x0).2.2 (V' .i64 (V' .i64 x0.1 1) 1)))))))(e)(_:e=(λ(x0:Ar)=>(V' .i64 (V' .i64 (V' .i64 x0.1 1) 1) 1,V' .i64 x0.2 1)))(a)(_:a=Al b e (x.2,0))(d)(_:d=List.length x.1)(g)(_:g=λ(x0:Ar)=>(0:Int)<=x0.2/\x0.2<(d:Int))(h)(_:h=So x.1 (R_ a.2) (0,0,0)):GH x=Y_ (c_ a.2 i) (Y_ (i_ h.1 a.1) (-1) (Y_ (i_ h.2.1 (V' .i64 a.1 1)) (-1) (-1))) a.1/\Q7 x=Z_ b e (λ(x0:Ar)=>(c_ x0.2 i=true->g x0/\R_ x0.2<d/\(i_ (c x0).1 x0.1=true->True)/\(i_ (c x0).1 x0.1=false->g x0/\R_ x0.2<d/\(f x0=true->True)/\(f x0=false->g x0/\R_ x0.2<d)))/\(c_ x0.2 i=false->True)) (x.2,0):=by subst_vars;exact⟨(Kt.v x).trans (by kernel_rfl),(Kt.o x).trans (by kernel_rfl)⟩
abbrev tq:=λx=>(Zmh x _ rfl _ rfl _ rfl _ rfl _ rfl _ rfl _ rfl _ rfl _ rfl).1
abbrev th:=λx=>(Zmh x _ rfl _ rfl _ rfl _ rfl _ rfl _ rfl _ rfl _ rfl _ rfl).2
theorem Zmk(x:G8)(c)(_:c=U_ x.1)(d)(_:d=λ(x0:Ar)=>So x.1 (R_ x0.2) [])(a)(_:a=(λ(x0:Ar)=>W_ (c_ x0.2 c) (U' (c_ (GH (d x0,x0.1)) 0))))(b)(_:b=(λ(x0:Ar)=>(GH (d x0,x0.1),V' .i64 x0.2 1)))(e)(_:e=List.length x.1)(f)(_:f=Al a b (x.2,0)):Kd x=Y_ (c_ f.2 c) (-1) f.1/\Uo x=Z_ a b (λ(x0:Ar)=>(c_ x0.2 c=true->((0:Int)<=x0.2/\x0.2<(e:Int))/\R_ x0.2<e/\Q7 (d x0,x0.1))/\(c_ x0.2 c=false->True)) (x.2,0):=by subst_vars;exact⟨(Ki.v x).trans (by kernel_rfl),(Ki.o x).trans (by kernel_rfl)⟩
abbrev rU:=λx=>(Zmk x _ rfl _ rfl _ rfl _ rfl _ rfl _ rfl).1
abbrev rA:=λx=>(Zmk x _ rfl _ rfl _ rfl _ rfl _ rfl _ rfl).2
theorem Zmn(x:DR)(c)(_:c=λ(x0:Ar)=>So x.1 (R_ x0.2) (0,0,0,0,0))(d)(_:d=λ(x0:Ar)=>V' .i64 (V' .i64 x0.1 1) 1)(i)(_:i=λ(x0:Ar)=>i_ (c x0).2.2.2.1 (V' .i64 (d x0) 1))(j)(_:j=λ(x0:Ar)=>i_ (c x0).2.1 (V' .i64 x0.1 1))(l)(_:l=U_ x.1)(m)(_:m=λ(x0:Ar)=>i_ (c x0).2.2.1 (d x0))(b)(_:b=(λ(x0:Ar)=>W_ (c_ x0.2 l) (W_ (U' (i_ (c x0).1 x0.1)) (W_ (U' (j x0)) (W_ (U' (m x0)) (W_ (U' (i x0)) (U' (i_ (c x0).2.2.2.2 (V' .i64 (V' .i64 (d x0) 1) 1)))))))))(g)(_:g=(λ(x0:Ar)=>(V' .i64 (V' .i64 (V' .i64 (d x0) 1) 1) 1,V' .i64 x0.2 1)))(a)(_:a=Al b g (x.2,0))(e)(_:e=List.length x.1)(f)(_:f=So x.1 (R_ a.2) (0,0,0,0,0))(h)(_:h=λ(x0:Ar)=>(0:Int)<=x0.2/\x0.2<(e:Int))(k)(_:k=V' .i64 a.1 1):Ra x=Y_ (c_ a.2 l) (Y_ (i_ f.1 a.1) (-1) (Y_ (i_ f.2.1 k) (-1) (Y_ (i_ f.2.2.1 (V' .i64 k 1)) (-1) (Y_ (i_ f.2.2.2.1 (V' .i64 (V' .i64 k 1) 1)) (-1) (-1))))) a.1/\UD x=Z_ b g (λ(x0:Ar)=>(c_ x0.2 l=true->h x0/\R_ x0.2<e/\(i_ (c x0).1 x0.1=true->True)/\(i_ (c x0).1 x0.1=false->h x0/\R_ x0.2<e/\(j x0=true->True)/\(j x0=false->h x0/\R_ x0.2<e/\(m x0=true->True)/\(m x0=false->h x0/\R_ x0.2<e/\(i x0=true->True)/\(i x0=false->h x0/\R_ x0.2<e)))))/\(c_ x0.2 l=false->True)) (x.2,0):=by subst_vars;exact⟨(Kr.v x).trans (by kernel_rfl),(Kr.o x).trans (by kernel_rfl)⟩
abbrev tO:=λx=>(Zmn x _ rfl _ rfl _ rfl _ rfl _ rfl _ rfl _ rfl _ rfl _ rfl _ rfl _ rfl _ rfl _ rfl).1
abbrev sW:=λx=>(Zmn x _ rfl _ rfl _ rfl _ rfl _ rfl _ rfl _ rfl _ rfl _ rfl _ rfl _ rfl _ rfl _ rfl).2
theorem Zmq(x:LN)(a)(_:a=GF ((x.1.1,x.1.2.1),x.2))(b)(_:b=Kd (x.1.2.2.1,a))(c)(_:c=x.1.2.2.2.2.1)(d)(_:d=c_ a 0)(e)(_:e=c_ b 0):Ed x=Y_ d (-1) (Y_ e (-1) (Y_ (c_ (Ra (c,b)) 0) (-1) (Ra (c,b))))/\QZ x=(Ul ((x.1.1,x.1.2.1),x.2)/\(d=true->True)/\(d=false->Uo (x.1.2.2.1,a)/\(e=true->True)/\(e=false->UD (c,b)))):=by subst_vars;exact⟨(Ib.v x).trans (by kernel_rfl),(Ib.o x).trans (by kernel_rfl)⟩
abbrev sQ:=λx=>(Zmq x _ rfl _ rfl _ rfl _ rfl _ rfl).1
abbrev ru:=λx=>(Zmq x _ rfl _ rfl _ rfl _ rfl _ rfl).2
attribute [irreducible] Mc UL FD U0 RG VA UH Un GH Q7 Kd Uo Ra UD Ed QZ
end
section
set_option maxRecDepth 8000
def wc:d4:=(A_ [4,1,0] 4 [B_ (.e_ 0 [Ad,.b_])] (A_ [5,4,1] 12 [D_ 0,I' GI [12],G_ 5 (B_ (.e_ 1 [Ad,.b_])),E_ (.V_ 1 2 5 13)] (.seq [5,4,1] (A_ [6,5,4,1] 6 [E' 0] (.block 0 (.loop [1,4,5,6] 1 (.seq [6,5,4,1] (A_ [17,6,5,4,1] 14 [C_ 6,D_ 1,L' 15,M' 14 16] (.cond 17 .skip (.exit 0))) (.seq [6,5,4,1] (.block 1 (At 20 [J' 0 5,G' (rg 1) (J_ 1 20),D_ 1,C_ 6,G' [2,3] (N_ 5 22 23),G' [2,3,4] (J' 1 24),G' [2,3,4,5] (J' 2 25),G' [2,3,4,5,6] (O_ 26),G' (rg 8) (B_ (.bin .or 21 27)),G' (rg 9) (J' 0 5),G' (rg 10) (E_ (.V_ 1 1 29 28))])) (At 18 [C_ 6,M_ 18 AA,G_ 6 (C_ 19)])))))) (A_ [7,5,4,1] 30 [Q' (.one (.int .i64)) (.d5 1 0 [] []),G_ 7 (C_ 30)] (.seq [7,5,4] (A_ [8,7,5,4,1] 8 [E' 1] (.block 2 (.loop [1,4,5,7,8] 1 (.seq [8,7,5,4,1] (A_ [32,8,7,5,4,1] 31 [C_ 8,B_ (.bin .leq 31 (.c (.int .i64 56)))] (.cond 32 .skip (.exit 2))) (.seq [8,7,5,4,1] (.block 3 (A_ [9,8,7,5,4,1] 9 [Q_ As] (.seq [9,8,7,5,4,1] (A_ [10,9,8,7,5,4,1] 10 [E' 0] (.block 4 (.loop [1,4,5,7,8,9,10] 1 (.seq [10,9,8,7,5,4,1] (A_ [39,10,9,8,7,5,4,1] 35 [C_ 10,J' 1 5,J_ 1 36,L' 37,M' 35 38] (.cond 39 .skip (.exit 4))) (.seq [10,9,8,7,5,4,1] (.block 5 (At 42 [C_ 9,C_ 42,F' 43 (J' 1 5),F' 43 (J_ 1 44),F' 43 (Q_ 10),F' 43 (N_ 1 45 46),F' 43 (O_ 47),F' 43 (Q_ 8),F' 43 (Nm 48 49),L_ 43 AV 50,G_ 9 (C_ 51)])) (At 40 [C_ 10,M_ 40 AA,G_ 10 (C_ 41)])))))) (.seq [9,8,7,5,4,1] (A_ [11,9,8,7,5,4,1] 11 [E' 0] (.block 6 (.loop [1,4,5,7,8,9,11] 1 (.seq [11,9,8,7,5,4,1] (A_ [55,11,9,8,7,5,4,1] 52 [C_ 11,D_ 1,L' 53,M' 52 54] (.cond 55 .skip (.exit 6))) (.seq [11,9,8,7,5,4,1] (.block 7 (At 58 [C_ 9,C_ 58,F' 59 (I_ (.a true (.mv 1) none)),F' 59 (Q_ 11),F' 59 (N_ 5 60 61),F' 59 (J' 1 62),F' 59 (J' 1 63),F' 59 (O_ 64),F' 59 (Q_ 8),F' 59 (Nm 65 66),L_ 59 AV 67,G_ 9 (C_ 68)])) (At 56 [C_ 11,M_ 56 AA,G_ 11 (C_ 57)])))))) (A_ [69,8,7,5,4,1] 69 [C_ 9] (.cond 69 (At 70 [C_ 7,C_ 8,Q' (.one (.int .i64)) (.d5 1 1 [Ad] [(0,1,71)]),B_ (.app 1 70 72),G_ 7 (C_ 73)]) .skip)))))) (At 33 [C_ 8,M_ 33 AA,G_ 8 (C_ 34)])))))) (A_ [5,4] 74 [C_ 7,J' 1 5,E_ (.V_ 1 1 75 74)] (A_ [4] 76 [C' (.d7 1 (some 2) 5),E_ (.V_ 0 2 4 76)] .ret)))))))
def Il:Fn:=⟨⟨2,77,2,false,[.cell 4 (some 2)],wc⟩,[.one .Z' (.sl AU),.one .Z' (.sl AU)],.one (.agg [AN,(.own,.sl (.one (.int .i64)))])⟩
theorem fZ:Il.A:=AM ⟨Y0,trivial⟩
def Fg:FZ->Int×List (Int):=Il.V
def Pm:FZ->Prop:=Il.O
theorem fW:Il.B:=AO ⟨Ze,trivial⟩ (by kernel_rfl) (λx=>by kernel_rfl)
def qH:d4:=(A_ [1,0] 4 [Q_ (.c .b_)] (A_ [5,1,0] 9 [Q' (.cons (.int .i64) (.one (.sl (.one (.int .i64))))) (.d5 2 0 [] []),G_ 5 (C_ 9)] (A_ [6,5,1,0] 10 [Q' AU (.d5 5 0 [] []),G_ 6 (C_ 10)] (.seq [6,5,1,0] (A_ [18,6,5,1,0] 11 [D_ 0,I' Eg [11],P' 12,C_ 13,F' 14 (I_ (.a true (.mv 1) none)),F' 14 (I' GM [15]),F' 14 (P' 16),L_ 14 AV 17] (.cond 18 (A_ [4] 19 [C_ 5,G_ 4 (C_ 19)] .ret) .skip)) (.seq [5] (A_ [7,6,5,1,0] 7 [E' 0] (.block 0 (.loop [0,1,5,6,7] 1 (.seq [7,6,5,1,0] (A_ [23,7,6,5,1,0] 20 [C_ 7,D_ 1,L' 21,M' 20 22] (.cond 23 .skip (.exit 0))) (.seq [7,6,5,1,0] (.block 1 (A_ [8,7,6,5,1,0] 26 [D_ 1,C_ 7,N_ 3 26 27,C' (.i5 (some 3) 28),G_ 8 (B_ (.e_ 0 [Ad,Ad,Ad])),E_ (.V_ 0 3 8 29)] (.seq [8,7,6,5,1,0] (A_ [32,8,7,6,5,1,0] 30 [J' 0 8,J_ 0 30,N' 31 (.c (.int .i64 2))] (.cond 32 (A_ [8,7,6,5,1,0] 33 [C_ 6,K_ 0 3 8,I' FF [34],B_ (.build [Ad,Ad,Ad,Ad,Ad] [(1,4,35)]),Q' AU (.d5 5 1 [Ad,Ad,Ad,Ad,Ad] [(0,5,36)]),B_ (.app 5 33 37),G_ 6 (C_ 38)] (At 39 [C_ 5,D_ 0,D_ 6,I' Il [40,41],Q' (.cons (.int .i64) (.one (.sl (.one (.int .i64))))) (.d5 2 1 [Ad,.b_] [(0,2,42)]),B_ (.app 2 39 43),G_ 5 (C_ 44)])) .skip)) (A_ [47,8,7,6,5,1,0] 45 [J' 0 8,J_ 0 45,N' 46 AA] (.cond 47 (A_ [7,6,5,1,0] 48 [D_ 6,D_ 6,K_ 0 3 8,I' It [49,50],I' Ih [48,51],G_ 6 (C_ 52)] (At 53 [C_ 5,D_ 0,D_ 6,I' Il [54,55],Q' (.cons (.int .i64) (.one (.sl (.one (.int .i64))))) (.d5 2 1 [Ad,.b_] [(0,2,56)]),B_ (.app 2 53 57),G_ 5 (C_ 58)])) .skip))))) (At 24 [C_ 7,M_ 24 AA,G_ 7 (C_ 25)])))))) (A_ [4] 59 [C_ 5,G_ 4 (C_ 59)] .ret))))))
def J6:Fn:=⟨⟨2,60,1,false,[.tmp 4],qH⟩,[.one .Z' (.sl AU),.one .Z' (.sl AQ)],.one (.one .own (.sl (.cons (.int .i64) (.one (.sl (.one (.int .i64)))))))⟩
theorem qK:J6.A:=AM ⟨VF,gE,Y9,fZ,hJ,fN,fZ,trivial⟩
def GA:JU->List BE:=J6.V
def QQ:JU->Prop:=J6.O
theorem qG:J6.B:=AO ⟨VL,gN,Y6,fW,gZ,fI,fW,trivial⟩ (by kernel_rfl) (λx=>by kernel_rfl)
def sV:d4:=(A_ [4,2,1] 2 [O' 0 2 0,G_ 4 (B_ (.e_ 1 [Ad,.b_]))] (A_ [5,4,2,1] 9 [J' 0 2,C' (.d7 0 none 9),B_ (.build [Ad,.b_] [(0,1,10)]),G_ 5 (B_ (.e_ 2 [Ad,.b_])),E_ (.V_ 2 2 5 11)] (A_ [6,5,4,1] 12 [J' 1 2,J_ 0 12,I' Io [13],G_ 6 (C_ 14)] (.seq [6,5,4] (A_ [17,16,15,6,5,4] 15 [D_ 1,L' 15,E' 0] (.block 0 (.loop [4,5,6,15,16,17] 1 (A_ [18,17,16,15,6,5,4] 18 [M' 17 16] (.seq [17,16,15,6,5,4] (.cond 18 .skip (.exit 0)) (.seq [17,16,15,6,5,4] (.block 1 (A_ [17,16,15,8,6,5,4] 19 [N_ 2 15 17,C' (.i5 (some 2) 19),G_ 8 (B_ (.e_ 3 [Ad,Ad])),E_ (.V_ 3 2 8 20)] (A_ [17,16,15,8,6,5,4] 21 [J' 0 5,J_ 2 21,J' 1 8,J_ 3 23,B_ (.bin .or 22 24),J' 0 5,E_ (.V_ 2 1 26 25)] (At 27 [C_ 6,J' 0 8,C' (.d7 3 none 28),Q' (.one (.int .i64)) (.d5 1 1 [Ad] [(0,1,29)]),B_ (.app 1 27 30),G_ 6 (C_ 31)])))) (At 32 [M_ 17 AA,G_ 17 (C_ 32)]))))))) (A_ [5,4] 33 [D_ 6,I' Ir [33],J' 1 5,E_ (.V_ 2 1 35 34)] (A_ [4] 36 [C' (.d7 2 (some 2) 5),E_ (.V_ 1 2 4 36)] .ret))))))
def Ii:Fn:=⟨⟨2,37,4,false,[.cell 4 (some 2)],sV⟩,[.agg [Au,(.Z',.sl (.one (.int .i64)))],.one .Z' (.sl (.cons (.int .i64) (.one (.int .i64))))],.one (.agg [AN,(.own,.sl (.one (.int .i64)))])⟩
theorem fL:Ii.A:=AM ⟨gj,gG,trivial⟩
def Kv:Tx->Int×List (Int):=Ii.V
def O7:Tx->Prop:=Ii.O
theorem fO:Ii.B:=AO ⟨gq,gC,trivial⟩ (by kernel_rfl) (λx=>by kernel_rfl)
def qz:d4:=(A_ [1,0] 4 [Q_ (.c .b_)] (.seq [1,0] (A_ [19,1,0] 12 [D_ 0,I' EY [12],P' 13,C_ 14,F' 15 (I_ (.a true (.mv 1) none)),F' 15 (I' GN [16]),F' 15 (P' 17),L_ 15 AV 18] (.cond 19 (A_ [4] 4 [Q_ (.c .b_)] .ret) .skip)) (A_ [5,1] 20 [D_ 0,I' GK [20],G_ 5 (B_ (.e_ 0 [Ad,.b_])),E_ (.V_ 0 2 5 21)] (A_ [6,5,1] 6 [Q_ (.c .b_)] (A_ [7,6,5,1] 7 [I_ (.aw [(0,2)] false (.mv (.c .b_)) none)] (.seq [6] (A_ [24,23,22,7,6,5] 22 [D_ 1,L' 22,E' 0] (.block 0 (.loop [5,6,7,22,23,24] 1 (A_ [25,24,23,22,7,6,5] 25 [M' 24 23] (.seq [24,23,22,7,6,5] (.cond 25 .skip (.exit 0)) (.seq [24,23,22,7,6,5] (.block 1 (A_ [24,23,22,9,7,6,5] 26 [N_ 3 22 24,C' (.i5 (some 3) 26),G_ 9 (B_ (.e_ 1 [Ad,Ad,Ad])),E_ (.V_ 1 3 9 27)] (A_ [24,23,22,10,9,7,6,5] 28 [J' 1 9,C' (.d7 1 none 28),J' 2 9,C' (.d7 1 none 30),B_ (.build [Ad,Ad] [(0,1,29),(1,1,31)]),G_ 10 (B_ (.e_ 2 [Ad,Ad])),E_ (.V_ 2 2 10 32)] (.seq [24,23,22,7,6,5] (A_ [34,24,23,22,10,7,6,5] 33 [J' 0 9,J_ 1 33] (.block 2 (A_ [35,34,24,23,22,10,7,6,5] 36 [Nm 34 AL,G_ 35 (C_ 36)] (.cond 35 (.regionU [om 0 37 6,oa 1 38 (.d7 0 (some 2) 5),on 2 39 7,ob 4 41 (.d7 2 (some 2) 10),⟨5,some 42,.a false (.d5 2 1 [Ad,Ad] [(0,2,41)]) (some (.cons (.int .i64) (.one (.int .i64)))),none,[4]⟩,xA 3 40 (.appN 2 (.c .b_) 39) [2],xA 6 43 (.app 2 40 42) [2,3,4,5],xF 7 44 Ii [38,43] [1,2,3,4,5,6],⟨8,some 45,.a false (.d5 2 1 [Ad,.b_] [(0,2,44)]) (some (.cons (.int .i64) (.one (.sl (.one (.int .i64)))))),none,[1,2,3,4,5,6,7]⟩,xA 9 46 (.app 2 37 45) (rg 9),xA 10 6 (.mv 46) (rg 10)]) (A_ [47,34,24,23,22,10,7,6,5] 48 [Nm 34 AA,G_ 47 (C_ 48)] (.cond 47 (At 49 [C_ 7,C' (.d7 2 (some 2) 10),Q' (.cons (.int .i64) (.one (.int .i64))) (.d5 2 1 [Ad,Ad] [(0,2,50)]),I_ (.aw [(0,2)] false (.app 2 49 51) none),G_ 7 (I_ (.aw [(0,2)] false (.mv 52) none))]) (A_ [53,24,23,22,10,7,6,5] 54 [Nm 34 (.c (.int .i64 2)),G_ 53 (C_ 54)] (.cond 53 (A_ [24,23,22,11,7,6,5] 55 [D_ 7,K_ 2 2 10,I' Iw [55,56],G_ 11 (C_ 57)] (At 58 [D_ 7,C_ 11,G' (rg 2) (B_ (.slice 2 58 none (some 59))),D_ 7,C_ 11,G' [4] (M_ 62 AA),G' [3,4,5] (B_ (.slice 2 61 (some 63) none)),G' [0,1,2,3,4,5,6] (I_ (.aw [(0,2)] false (.app 2 60 64) none)),G_ 7 (G' [0,1,2,3,4,5,6,7] (I_ (.aw [(0,2)] false (.mv 65) none)))])) .skip)))))))) (At 66 [C_ 6,K_ 0 2 5,D_ 7,I' Ii [67,68],Q' (.cons (.int .i64) (.one (.sl (.one (.int .i64))))) (.d5 2 1 [Ad,.b_] [(0,2,69)]),B_ (.app 2 66 70),G_ 6 (C_ 71)]))))) (At 72 [M_ 24 AA,G_ 24 (C_ 72)]))))))) (A_ [4] 73 [C_ 6,G_ 4 (C_ 73)] .ret)))))))
def J5:Fn:=⟨⟨2,74,3,false,[.tmp 4],qz⟩,[.one .Z' (.sl AU),.one .Z' (.sl AQ)],.one (.one .own (.sl (.cons (.int .i64) (.one (.sl (.one (.int .i64)))))))⟩
theorem qm:J5.A:=AM ⟨Vw,gA,Zb,fL,gX,fL,trivial⟩
def QV:JU->List BE:=J5.V
def QR:JU->Prop:=J5.O
theorem qv:J5.B:=AO ⟨Vy,gK,Zf,fO,gY,fO,trivial⟩ (by kernel_rfl) (λx=>by kernel_rfl)
end
section
set_option maxRecDepth 100000
def Us(x:FZ)(x0:Ar):Bool:=(c_ x0.1 (U_ x.2))
def Um(x:FZ)(x0:Ar):Ar:=((V' .i64 x0.1 1),(iOr .i64 x0.2 (So x.2 (R_ x0.1) (0,0,0,0,0)).2.2.2.1))
def O3(x0:EM):Bool:=(iLe x0.2 56)
def L4(x:FZ)(b:Na):Bool:=(c_ b.2 (U_ x.2))
def L7(x:FZ)(x0:EM)(b:Na):Na:=((w_ b.1 (g9 (So x.2 (R_ b.2) (0,0,0,0,0)).2.2.1 x0.2)),(V' .i64 b.2 1))
def Jm(x:FZ)(b:Na):Bool:=(c_ b.2 (U_ (CF x.1).2))
def Jl(x:FZ)(x0:EM)(b:Na):Na:=((w_ b.1 (g9 (So (CF x.1).2 (R_ b.2) 0) x0.2)),(V' .i64 b.2 1))
def QY(x:FZ)(x0:EM):EM:=((Y_ (Al (L4 x) (L7 x x0) ((Al (Jm x) (Jl x x0) (false,0)).1,0)).1 (i9 x0.1 [x0.2]) x0.1),(V' .i64 x0.2 1))
def YJ(x:FZ)(x0:Ar):Prop:=(((c_ x0.1 (U_ x.2))=true->((((0:Int)<=x0.1)/\(x0.1<(((List.length x.2):Int))))/\((R_ x0.1)<(List.length x.2))))/\((c_ x0.1 (U_ x.2))=false->True))
def Ur(x:FZ)(b:Na):Prop:=(((c_ b.2 (U_ (CF x.1).2))=true->((b.1=true->True)/\(b.1=false->((((0:Int)<=b.2)/\(b.2<(((List.length (CF x.1).2):Int))))/\((R_ b.2)<(List.length (CF x.1).2))))))/\((c_ b.2 (U_ (CF x.1).2))=false->True))
def Ug(x:FZ)(b:Na):Prop:=(((c_ b.2 (U_ x.2))=true->((b.1=true->True)/\(b.1=false->((((0:Int)<=b.2)/\(b.2<(((List.length x.2):Int))))/\((R_ b.2)<(List.length x.2))))))/\((c_ b.2 (U_ x.2))=false->True))
def fB(x:FZ)(x0:EM):Prop:=(((iLe x0.2 56)=true->((Z_ (Jm x) (Jl x x0) (Ur x) (false,0))/\((Z_ (L4 x) (L7 x x0) (Ug x) ((Al (Jm x) (Jl x x0) (false,0)).1,0))/\(((Al (L4 x) (L7 x x0) ((Al (Jm x) (Jl x x0) (false,0)).1,0)).1=true->(AD (((List.length x0.1)+(List.length [x0.2]))*1)))/\((Al (L4 x) (L7 x x0) ((Al (Jm x) (Jl x x0) (false,0)).1,0)).1=false->True)))))/\((iLe x0.2 56)=false->True))
theorem uw(x):Fg x=((Al (Us x) (Um x) (0,(CF x.1).1)).2,(Al O3 (QY x) ([],1)).1):=(Il.v x).trans (by kernel_rfl)
theorem vR(x):Pm x=(Pj x.1/\Z_ (Us x) (Um x) (YJ x) (0,(CF x.1).1)/\Z_ O3 (QY x) (fB x) ([],1)):=(Il.o x).trans (by kernel_rfl)
def OU(x:JU)(x0:B8×DR):Bool:=(c_ x0.2.2 (U_ x.2))
def TY(x:JU)(x0:B8×DR):(B8×DR):=((Y_ (i_ (So x.2 (R_ x0.2.2) (0,0,0)).1 1) (i9 (Y_ (i_ (So x.2 (R_ x0.2.2) (0,0,0)).1 2) (i9 x0.1 [(Fg (x.1,(i9 x0.2.1 [(0,(Be (So x.2 (R_ x0.2.2) (0,0,0))))])))]) x0.1) [(Fg (x.1,(ER ((Y_ (i_ (So x.2 (R_ x0.2.2) (0,0,0)).1 2) (i9 x0.2.1 [(0,(Be (So x.2 (R_ x0.2.2) (0,0,0))))]) x0.2.1),(CG ((Y_ (i_ (So x.2 (R_ x0.2.2) (0,0,0)).1 2) (i9 x0.2.1 [(0,(Be (So x.2 (R_ x0.2.2) (0,0,0))))]) x0.2.1),(So x.2 (R_ x0.2.2) (0,0,0))))))))]) (Y_ (i_ (So x.2 (R_ x0.2.2) (0,0,0)).1 2) (i9 x0.1 [(Fg (x.1,(i9 x0.2.1 [(0,(Be (So x.2 (R_ x0.2.2) (0,0,0))))])))]) x0.1)),(Y_ (i_ (So x.2 (R_ x0.2.2) (0,0,0)).1 1) (ER ((Y_ (i_ (So x.2 (R_ x0.2.2) (0,0,0)).1 2) (i9 x0.2.1 [(0,(Be (So x.2 (R_ x0.2.2) (0,0,0))))]) x0.2.1),(CG ((Y_ (i_ (So x.2 (R_ x0.2.2) (0,0,0)).1 2) (i9 x0.2.1 [(0,(Be (So x.2 (R_ x0.2.2) (0,0,0))))]) x0.2.1),(So x.2 (R_ x0.2.2) (0,0,0)))))) (Y_ (i_ (So x.2 (R_ x0.2.2) (0,0,0)).1 2) (i9 x0.2.1 [(0,(Be (So x.2 (R_ x0.2.2) (0,0,0))))]) x0.2.1)),(V' .i64 x0.2.2 1))
def TU(x:JU)(x0:B8×DR):Prop:=(((c_ x0.2.2 (U_ x.2))=true->((((0:Int)<=x0.2.2)/\(x0.2.2<(((List.length x.2):Int))))/\(((R_ x0.2.2)<(List.length x.2))/\((((i_ (So x.2 (R_ x0.2.2) (0,0,0)).1 2)=true->((Re (So x.2 (R_ x0.2.2) (0,0,0)))/\((AD (((List.length x0.2.1)+(List.length [(0,(Be (So x.2 (R_ x0.2.2) (0,0,0))))]))*5))/\((Pm (x.1,(i9 x0.2.1 [(0,(Be (So x.2 (R_ x0.2.2) (0,0,0))))])))/\(AD (((List.length x0.1)+(List.length [(Fg (x.1,(i9 x0.2.1 [(0,(Be (So x.2 (R_ x0.2.2) (0,0,0))))])))]))*2))))))/\((i_ (So x.2 (R_ x0.2.2) (0,0,0)).1 2)=false->True))/\(((i_ (So x.2 (R_ x0.2.2) (0,0,0)).1 1)=true->((Nu ((Y_ (i_ (So x.2 (R_ x0.2.2) (0,0,0)).1 2) (i9 x0.2.1 [(0,(Be (So x.2 (R_ x0.2.2) (0,0,0))))]) x0.2.1),(So x.2 (R_ x0.2.2) (0,0,0))))/\((O9 ((Y_ (i_ (So x.2 (R_ x0.2.2) (0,0,0)).1 2) (i9 x0.2.1 [(0,(Be (So x.2 (R_ x0.2.2) (0,0,0))))]) x0.2.1),(CG ((Y_ (i_ (So x.2 (R_ x0.2.2) (0,0,0)).1 2) (i9 x0.2.1 [(0,(Be (So x.2 (R_ x0.2.2) (0,0,0))))]) x0.2.1),(So x.2 (R_ x0.2.2) (0,0,0))))))/\((Pm (x.1,(ER ((Y_ (i_ (So x.2 (R_ x0.2.2) (0,0,0)).1 2) (i9 x0.2.1 [(0,(Be (So x.2 (R_ x0.2.2) (0,0,0))))]) x0.2.1),(CG ((Y_ (i_ (So x.2 (R_ x0.2.2) (0,0,0)).1 2) (i9 x0.2.1 [(0,(Be (So x.2 (R_ x0.2.2) (0,0,0))))]) x0.2.1),(So x.2 (R_ x0.2.2) (0,0,0))))))))/\(AD (((List.length (Y_ (i_ (So x.2 (R_ x0.2.2) (0,0,0)).1 2) (i9 x0.1 [(Fg (x.1,(i9 x0.2.1 [(0,(Be (So x.2 (R_ x0.2.2) (0,0,0))))])))]) x0.1))+(List.length [(Fg (x.1,(ER ((Y_ (i_ (So x.2 (R_ x0.2.2) (0,0,0)).1 2) (i9 x0.2.1 [(0,(Be (So x.2 (R_ x0.2.2) (0,0,0))))]) x0.2.1),(CG ((Y_ (i_ (So x.2 (R_ x0.2.2) (0,0,0)).1 2) (i9 x0.2.1 [(0,(Be (So x.2 (R_ x0.2.2) (0,0,0))))]) x0.2.1),(So x.2 (R_ x0.2.2) (0,0,0))))))))]))*2))))))/\((i_ (So x.2 (R_ x0.2.2) (0,0,0)).1 1)=false->True))))))/\((c_ x0.2.2 (U_ x.2))=false->True))
theorem qu(x):GA x=Y_ (w_ (U' (EA x.1)) (U' (GL x.2))) [] (Al (OU x) (TY x) ([],[],0)).1:=(J6.v x).trans (by kernel_rfl)
theorem qB(x):QQ x=((Nt x.1/\(U' (EA x.1)=true->True)/\(U' (EA x.1)=false->Pu x.2))/\(w_ (U' (EA x.1)) (U' (GL x.2))=true->True)/\(w_ (U' (EA x.1)) (U' (GL x.2))=false->Z_ (OU x) (TY x) (TU x) ([],[],0))):=(J6.o x).trans (by kernel_rfl)
def Ni(x:Tx)(x0:MY):Bool:=(c_ x0.2.1 (U_ x.2))
def OX(x:Tx)(x0:MY):MY:=((i9 x0.1 [(So x.2 (R_ x0.2.1) (0,0)).1]),(V' .i64 x0.2.1 1),(iOr .i64 x0.2.2 (So x.2 (R_ x0.2.1) (0,0)).2))
def Uc(x:Tx)(x0:MY):Prop:=(((c_ x0.2.1 (U_ x.2))=true->((((0:Int)<=x0.2.1)/\(x0.2.1<(((List.length x.2):Int))))/\(((R_ x0.2.1)<(List.length x.2))/\(AD (((List.length x0.1)+(List.length [(So x.2 (R_ x0.2.1) (0,0)).1]))*1)))))/\((c_ x0.2.1 (U_ x.2))=false->True))
theorem sT(x):Kv x=((Al (Ni x) (OX x) (C7 x.1.2,0,x.1.1)).2.2,Mg (Al (Ni x) (OX x) (C7 x.1.2,0,x.1.1)).1):=(Ii.v x).trans (by kernel_rfl)
theorem tY(x):O7 x=(Ri x.1.2/\Z_ (Ni x) (OX x) (Uc x) (C7 x.1.2,0,x.1.1)/\Rw (Al (Ni x) (OX x) (C7 x.1.2,0,x.1.1)).1):=(Ii.o x).trans (by kernel_rfl)
def TV(x:JU)(x0:B8×Jc):Bool:=(c_ x0.2.2 (U_ x.2))
def TW(x:JU)(x0:B8×Jc):(B8×Jc):=((i9 (Y_ (g9 (So x.2 (R_ x0.2.2) (0,0,0)).1 0) (i9 x0.1 [(Kv ((Cd x.1),(i9 x0.2.1 [(So x.2 (R_ x0.2.2) (0,0,0)).2])))]) x0.1) [(Kv ((Cd x.1),(Y_ (g9 (So x.2 (R_ x0.2.2) (0,0,0)).1 0) x0.2.1 (Y_ (g9 (So x.2 (R_ x0.2.2) (0,0,0)).1 1) (i9 x0.2.1 [(So x.2 (R_ x0.2.2) (0,0,0)).2]) (Y_ (g9 (So x.2 (R_ x0.2.2) (0,0,0)).1 2) (i9 (lTake x0.2.1 (lN (lSub x0.2.1 0 (R_ (Bp (x0.2.1,(So x.2 (R_ x0.2.2) (0,0,0)).2)))))) (lSub x0.2.1 (R_ (V' .i64 (Bp (x0.2.1,(So x.2 (R_ x0.2.2) (0,0,0)).2)) 1)) (lN x0.2.1))) x0.2.1)))))]),(Y_ (g9 (So x.2 (R_ x0.2.2) (0,0,0)).1 0) x0.2.1 (Y_ (g9 (So x.2 (R_ x0.2.2) (0,0,0)).1 1) (i9 x0.2.1 [(So x.2 (R_ x0.2.2) (0,0,0)).2]) (Y_ (g9 (So x.2 (R_ x0.2.2) (0,0,0)).1 2) (i9 (lTake x0.2.1 (lN (lSub x0.2.1 0 (R_ (Bp (x0.2.1,(So x.2 (R_ x0.2.2) (0,0,0)).2)))))) (lSub x0.2.1 (R_ (V' .i64 (Bp (x0.2.1,(So x.2 (R_ x0.2.2) (0,0,0)).2)) 1)) (lN x0.2.1))) x0.2.1))),(V' .i64 x0.2.2 1))
def TX(x:JU)(x0:B8×Jc):Prop:=(((c_ x0.2.2 (U_ x.2))=true->((((0:Int)<=x0.2.2)/\(x0.2.2<(((List.length x.2):Int))))/\(((R_ x0.2.2)<(List.length x.2))/\((((g9 (So x.2 (R_ x0.2.2) (0,0,0)).1 0)=true->((AD ((List.length x0.2.1)*2))/\((AD (((List.length x0.2.1)+(List.length [(So x.2 (R_ x0.2.2) (0,0,0)).2]))*2))/\((O7 ((Cd x.1),(i9 x0.2.1 [(So x.2 (R_ x0.2.2) (0,0,0)).2])))/\(AD (((List.length x0.1)+(List.length [(Kv ((Cd x.1),(i9 x0.2.1 [(So x.2 (R_ x0.2.2) (0,0,0)).2])))]))*2))))))/\((g9 (So x.2 (R_ x0.2.2) (0,0,0)).1 0)=false->(((g9 (So x.2 (R_ x0.2.2) (0,0,0)).1 1)=true->(AD (((List.length x0.2.1)+(List.length [(So x.2 (R_ x0.2.2) (0,0,0)).2]))*2)))/\((g9 (So x.2 (R_ x0.2.2) (0,0,0)).1 1)=false->(((g9 (So x.2 (R_ x0.2.2) (0,0,0)).1 2)=true->((Pv (x0.2.1,(So x.2 (R_ x0.2.2) (0,0,0)).2))/\((((0:Int)<=(Bp (x0.2.1,(So x.2 (R_ x0.2.2) (0,0,0)).2)))/\((0<=(R_ (Bp (x0.2.1,(So x.2 (R_ x0.2.2) (0,0,0)).2))))/\(((R_ (Bp (x0.2.1,(So x.2 (R_ x0.2.2) (0,0,0)).2)))<=(List.length x0.2.1))/\(0<(List.length x0.2.1)))))/\((((0:Int)<=(V' .i64 (Bp (x0.2.1,(So x.2 (R_ x0.2.2) (0,0,0)).2)) 1))/\(((R_ (V' .i64 (Bp (x0.2.1,(So x.2 (R_ x0.2.2) (0,0,0)).2)) 1))<=(lN x0.2.1))/\(((lN x0.2.1)<=(List.length x0.2.1))/\(0<(List.length x0.2.1)))))/\((0<(List.length x0.2.1))/\(((List.length (lSub x0.2.1 0 (R_ (Bp (x0.2.1,(So x.2 (R_ x0.2.2) (0,0,0)).2)))))<=(List.length x0.2.1))/\(AD (((List.length (lSub x0.2.1 0 (R_ (Bp (x0.2.1,(So x.2 (R_ x0.2.2) (0,0,0)).2)))))+(List.length (lSub x0.2.1 (R_ (V' .i64 (Bp (x0.2.1,(So x.2 (R_ x0.2.2) (0,0,0)).2)) 1)) (lN x0.2.1))))*2))))))))/\((g9 (So x.2 (R_ x0.2.2) (0,0,0)).1 2)=false->True))))))/\((O7 ((Cd x.1),(Y_ (g9 (So x.2 (R_ x0.2.2) (0,0,0)).1 0) x0.2.1 (Y_ (g9 (So x.2 (R_ x0.2.2) (0,0,0)).1 1) (i9 x0.2.1 [(So x.2 (R_ x0.2.2) (0,0,0)).2]) (Y_ (g9 (So x.2 (R_ x0.2.2) (0,0,0)).1 2) (i9 (lTake x0.2.1 (lN (lSub x0.2.1 0 (R_ (Bp (x0.2.1,(So x.2 (R_ x0.2.2) (0,0,0)).2)))))) (lSub x0.2.1 (R_ (V' .i64 (Bp (x0.2.1,(So x.2 (R_ x0.2.2) (0,0,0)).2)) 1)) (lN x0.2.1))) x0.2.1)))))/\(AD (((List.length (Y_ (g9 (So x.2 (R_ x0.2.2) (0,0,0)).1 0) (i9 x0.1 [(Kv ((Cd x.1),(i9 x0.2.1 [(So x.2 (R_ x0.2.2) (0,0,0)).2])))]) x0.1))+(List.length [(Kv ((Cd x.1),(Y_ (g9 (So x.2 (R_ x0.2.2) (0,0,0)).1 0) x0.2.1 (Y_ (g9 (So x.2 (R_ x0.2.2) (0,0,0)).1 1) (i9 x0.2.1 [(So x.2 (R_ x0.2.2) (0,0,0)).2]) (Y_ (g9 (So x.2 (R_ x0.2.2) (0,0,0)).1 2) (i9 (lTake x0.2.1 (lN (lSub x0.2.1 0 (R_ (Bp (x0.2.1,(So x.2 (R_ x0.2.2) (0,0,0)).2)))))) (lSub x0.2.1 (R_ (V' .i64 (Bp (x0.2.1,(So x.2 (R_ x0.2.2) (0,0,0)).2)) 1)) (lN x0.2.1))) x0.2.1)))))]))*2)))))))/\((c_ x0.2.2 (U_ x.2))=false->True))
theorem qp(x):QV x=Y_ (w_ (U' (Ct x.1)) (U' (Iq x.2))) [] (Al (TV x) (TW x) ([],[],0)).1:=(J5.v x).trans (by kernel_rfl)
theorem qD(x):QR x=((Nw x.1/\(U' (Ct x.1)=true->True)/\(U' (Ct x.1)=false->Pp x.2))/\(w_ (U' (Ct x.1)) (U' (Iq x.2))=true->True)/\(w_ (U' (Ct x.1)) (U' (Iq x.2))=false->Pf x.1/\Z_ (TV x) (TW x) (TX x) ([],[],0))):=(J5.o x).trans (by kernel_rfl)
attribute [irreducible] Fg Pm GA QQ Kv O7 QV QR
end
section
set_option maxRecDepth 8000
def sZ:d4:=(A_ [1] 1 [O' 0 4 0,Q_ As] (A_ [2] 3 [K_ 0 4 1,I' EX [3],C_ 4,F_ 5 (J' 0 1),F_ 5 (J_ 0 6),F_ 5 (Nm 7 (.c (.int .i64 6))),F_ 5 (Q_ 8),F' 9 (J' 0 1),F' 9 (J_ 0 10),F' 9 (Nm 11 (.c (.int .i64 7))),F_ 5 (L_ 9 AV 12),L_ 5 13 As,G_ 2 (C_ 14)] .ret))
def Ig:Fn:=⟨⟨1,15,1,true,[.tmp 2],sZ⟩,[.agg [Au,Au,Au,Au]],.one (.one .own (.bool))⟩
theorem fS:Ig.A:=AM ⟨U8,trivial⟩
def Rf:Cw->Bool:=Ig.V
def UA:Cw->Prop:=Ig.O
theorem fR:Ig.B:=AO ⟨U1,trivial⟩ (by kernel_rfl) (λx=>by kernel_rfl)
def Zaw:d4:=(A_ [2,1] 1 [O' 0 4 0,B_ (.e_ 1 [Ad,Ad,Ad,Ad])] (.seq [2,1] (A_ [5,2,1] 3 [K_ 0 4 1,I' Ig [3],P' 4] (.cond 5 (A_ [2] 6 [C' (.d7 0 (some 4) 1),E_ (.V_ 1 4 2 6)] .ret) .skip)) (A_ [2] 7 [J' 1 1,C' (.d7 0 none 7),B_ (.build [Ad,Ad,Ad,Ad] [(0,1,(.c (.int .i64 2))),(1,1,8)]),E_ (.V_ 1 4 2 9)] .ret)))
def Lc:Fn:=⟨⟨1,10,2,true,[.cell 2 (some 4)],Zaw⟩,[.agg [Au,Au,Au,Au]],.one (.agg [AN,AN,AN,AN])⟩
theorem ZaV:Lc.A:=AM ⟨fS,trivial⟩
def V1:Cw->Int×Int×Int×Int:=Lc.V
def VV:Cw->Prop:=Lc.O
theorem ZaB:Lc.B:=AO ⟨fR,trivial⟩ (by kernel_rfl) (λx=>by kernel_rfl)
def zU:d4:=(A_ [2,1] 1 [O' 0 4 0,B_ (.e_ 1 [Ad,Ad,Ad,Ad])] (.seq [2,1] (.block 0 (A_ [3,2,1] 4 [K_ 0 4 1,I' Ig [4],P' 5,G_ 3 (C_ 6)] (.cond 3 (A_ [2] 7 [C' (.d7 0 (some 4) 1),E_ (.V_ 1 4 2 7)] .ret) (A_ [8,2,1] 9 [J' 0 1,J_ 0 9,Nm 10 (.c (.int .i64 6)),G_ 8 (C_ 11)] (.cond 8 (A_ [2] 12 [J' 2 1,C' (.d7 0 none 12),B_ (.build [Ad,Ad,Ad,Ad] [(0,1,(.c (.int .i64 2))),(2,1,13)]),E_ (.V_ 1 4 2 14)] .ret) .skip))))) (A_ [2] 15 [J' 3 1,C' (.d7 0 none 15),B_ (.build [Ad,Ad,Ad,Ad] [(0,1,(.c (.int .i64 3))),(3,1,16)]),E_ (.V_ 1 4 2 17)] .ret)))
def K8:Fn:=⟨⟨1,18,2,true,[.cell 2 (some 4)],zU⟩,[.agg [Au,Au,Au,Au]],.one (.agg [AN,AN,AN,AN])⟩
theorem Zad:K8.A:=AM ⟨fS,trivial⟩
def VP:Cw->Int×Int×Int×Int:=K8.V
def Vx:Cw->Prop:=K8.O
theorem y4:K8.B:=AO ⟨fR,trivial⟩ (by kernel_rfl) (λx=>by kernel_rfl)
def zz:d4:=(A_ [2,1] 1 [O' 0 4 0,B_ (.e_ 1 [Ad,Ad,Ad,Ad])] (.seq [2,1] (A_ [5,2,1] 3 [K_ 0 4 1,I' FC [3],P' 4] (.cond 5 (A_ [2] 6 [C' (.d7 0 (some 4) 1),E_ (.V_ 1 4 2 6)] .ret) .skip)) (.seq [2,1] (A_ [9,2,1] 7 [J' 0 1,J_ 0 7,Nm 8 (.c (.int .i64 6))] (.cond 9 (A_ [2] 10 [J' 2 1,C' (.d7 0 none 10),B_ (.build [Ad,Ad,Ad,Ad] [(0,1,(.c (.int .i64 2))),(2,1,11)]),E_ (.V_ 1 4 2 12)] .ret) .skip)) (A_ [2] 13 [J' 3 1,C' (.d7 0 none 13),B_ (.build [Ad,Ad,Ad,Ad] [(0,1,(.c (.int .i64 3))),(3,1,14)]),E_ (.V_ 1 4 2 15)] .ret))))
def Lb:Fn:=⟨⟨1,16,2,true,[.cell 2 (some 4)],zz⟩,[.agg [Au,Au,Au,Au]],.one (.agg [AN,AN,AN,AN])⟩
theorem yC:Lb.A:=AM ⟨YU,trivial⟩
def DE:Cw->Int×Int×Int×Int:=Lb.V
def Vu:Cw->Prop:=Lb.O
theorem zl:Lb.B:=AO ⟨YQ,trivial⟩ (by kernel_rfl) (λx=>by kernel_rfl)
def Zax:d4:=(A_ [2,1] 1 [O' 0 4 0,B_ (.e_ 1 [Ad,Ad,Ad,Ad])] (.seq [2,1] (A_ [5,2,1] 3 [K_ 0 4 1,I' FC [3],P' 4] (.cond 5 (A_ [2] 6 [C' (.d7 0 (some 4) 1),E_ (.V_ 1 4 2 6)] .ret) .skip)) (A_ [2] 7 [J' 1 1,C' (.d7 0 none 7),B_ (.build [Ad,Ad,Ad,Ad] [(0,1,(.c (.int .i64 2))),(1,1,8)]),E_ (.V_ 1 4 2 9)] .ret)))
def Le:Fn:=⟨⟨1,10,2,true,[.cell 2 (some 4)],Zax⟩,[.agg [Au,Au,Au,Au]],.one (.agg [AN,AN,AN,AN])⟩
theorem Zal:Le.A:=AM ⟨YU,trivial⟩
def DF:Cw->Int×Int×Int×Int:=Le.V
def VU:Cw->Prop:=Le.O
theorem Zay:Le.B:=AO ⟨YQ,trivial⟩ (by kernel_rfl) (λx=>by kernel_rfl)
end
section
set_option maxRecDepth 100000
theorem ug(x):Rf x=W_ (B4 x) (w_ (g9 x.1 6) (g9 x.1 7)):=(Ig.v x).trans (by kernel_rfl)
theorem tP(x):UA x=Np x:=(Ig.o x).trans (by kernel_rfl)
theorem Zaz(x):V1 x=Y_ (U' (Rf x)) x (2,x.2.1,0,0):=(Lc.v x).trans (by kernel_rfl)
theorem Zan(x):VV x=UA x:=(Lc.o x).trans (by kernel_rfl)
theorem yK(x):VP x=Y_ (U' (Rf x)) x (Y_ (g9 x.1 6) (2,0,x.2.2.1,0) (3,0,0,x.2.2.2)):=(K8.v x).trans (by kernel_rfl)
theorem zB(x):Vx x=UA x:=(K8.o x).trans (by kernel_rfl)
theorem gP(x):DE x=Y_ (U' (Kw x)) x (Y_ (g9 x.1 6) (2,0,x.2.2.1,0) (3,0,0,x.2.2.2)):=(Lb.v x).trans (by kernel_rfl)
theorem zk(x):Vu x=O8 x:=(Lb.o x).trans (by kernel_rfl)
theorem il(x):DF x=Y_ (U' (Kw x)) x (2,x.2.1,0,0):=(Le.v x).trans (by kernel_rfl)
theorem ZaN(x):VU x=O8 x:=(Le.o x).trans (by kernel_rfl)
attribute [irreducible] Rf UA V1 VV VP Vx DE Vu DF VU
end
section
set_option maxRecDepth 8000
def fb:ACode:=(.seq (.region [⟨0,some 2,.boxB 0 2 (.t 0),none,[]⟩,⟨1,some 4,.mv (.c .b_),none,[]⟩]) (.seq (.region [⟨0,some 5,.mv (.c .b_),none,[]⟩]) (.seq (.seq (.region [⟨0,some 8,.mv (.t 1),none,[]⟩,⟨1,some 9,.len (.t 8),none,[]⟩,⟨2,some 10,.mv (.c (.int .i64 0)),none,[]⟩]) (.block 0 (.loop [2,5,8,9,10] (.seq (.region [⟨0,some 11,.bin .lss (.t 10) (.t 9),none,[]⟩]) (.seq (.cond (.t 11) .skip (.exit 0)) (.seq (.block 1 (.seq (.region [⟨0,some 12,.p_ 2 (.t 8) (.t 10),none,[]⟩,⟨1,some 13,.i5 (some 2) (.t 12),none,[]⟩,⟨2,some 7,.e_ 1 [(.int .i64 0),.b_],none,[]⟩,⟨3,none,.V_ 1 2 (.t 7) (.t 13),none,[]⟩]) (.seq (.seq (.region [⟨0,some 14,.d7 0 (some 2) (.t 2),none,[]⟩,⟨1,some 15,.d7 1 (some 2) (.t 7),none,[]⟩,⟨2,some 16,.call Hp.S [(.t 14),(.t 15)],none,[]⟩,⟨3,some 17,.un .not (.t 16),none,[]⟩]) (.cond (.t 17) (.region [⟨0,some 18,.mv (.t 5),none,[]⟩,⟨1,some 19,.d7 1 (some 2) (.t 7),none,[]⟩,⟨2,some 20,.d5 2 1 [(.int .i64 0),.b_] [(0,2,(.t 19))],none,[]⟩,⟨3,some 21,.app 2 (.t 18) (.t 20),none,[]⟩,⟨4,some 5,.mv (.t 21),none,[]⟩]) .skip)) (.region [⟨0,some 22,.d7 1 (some 2) (.t 7),none,[]⟩,⟨1,none,.V_ 0 2 (.t 2) (.t 22),none,[]⟩])))) (.region [⟨0,some 23,.bin .add (.t 10) (.c (.int .i64 1)),none,[]⟩,⟨1,some 10,.mv (.t 23),none,[]⟩]))))))) (.seq (.region [⟨0,some 24,.mv (.t 5),none,[]⟩,⟨1,some 4,.mv (.t 24),none,[]⟩]) .ret))))
def YA:AFun:=⟨2,25,2,false,[.tmp 4],fb⟩
@[irreducible] def Ng:Bc:=EG YA
def Ds:List BE->Int×List Int->Nat->List Nat
 |[],_,_=>[]|r::t,p,k=>if p=r then Ds t r (k+1)else k::Ds t r (k+1)
def Dh:List BE->Int×List Int->Int×List Int
 |[],p=>p|r::t,_=>Dh t r
theorem ai:∀(l:B8) (r p:BE) (k:Nat),Ds (l++[r]) p k=Ds l p k++(if Dh l p=r then []else [k+l.length])
 |[],r,p,k=>by by_cases h:p=r<;>simp[Ds,Dh,h]
 | a::t,r,p,k=>by
   simp only[Dn,Ds,Dh,ai t r a (k+1),A0];rw[show k+1+t.length=k+(t.length+1) by omega];split<;>rfl
theorem jQ:∀(l:B8) (r p:BE),Dh (l++[r]) p=r
 |[],_,_=>rfl
 |a::t,r,p=>jQ t r a
theorem WR:∀(l:B8) (p:BE) (k:Nat),(Ds l p k).Pairwise (· < ·)/\∀i∈Ds l p k,k<=i/\i<k+l.length
 |[],_,_=>⟨.nil,λ_ h=>by cases h⟩
 | r :: t,p,k=>by
   obtain⟨h1,b⟩:=WR t r (k+1);simp only[Ds,A0];split
   ·exact⟨h1,λi hi=>by have:=b i hi;omega⟩
   refine⟨List.pairwise_cons.2 ⟨λi hi=>by have:=b i hi;omega,h1⟩,λi hi=>?_⟩;rcases Cu.1 hi with rfl|hi
   ·omega
   have:=b i hi;omega
def CS(h:Ab):Nat->W:=λl=>if l<h.length then .Z' else .none
def Hj(l:B3):List (List PV):=l.map λz=>[.fl (.int .i64 z)]
def E9(r:BE):PV:=.agg [.fl (.int .i64 r.1),.sl .Z' (Hj r.2)]
structure RdR (h:Ab) (r:BE) (u:V):Prop where
 rc:∀p,RC h (CS h) (.at (.s 0) p) ((E9 r).S_ p) (u.S_ p)
 sh:A6 (E9 r) u
def Ext(h h':Ab):Prop:=h.length<=h'.length/\∀l,l<h.length->h'[l]?=h[l]?
theorem Ext.refl(h:Ab):Ext h h:=⟨BH _,λ_ _=>rfl⟩
theorem Ext.trans{a b c:Ab}(x:Ext a b)(y:Ext b c):Ext a c:=⟨CV x.1 y.1,λl g=>(y.2 l (HJ g x.1)).trans (x.2 l g)⟩
theorem Ext.push(h:Ab)(b:Blk):Ext h (h++[b]):=⟨by simp,λl g=>Bi g⟩
theorem lW{h:Ab}{l:Nat}(e:CS h l= .Z'):l<h.length:=by
 unfold CS at e;split at e
 ·assumption
 cases e
theorem Sm{h:Ab}{l:Nat}{hd:Hd}{p:List Nat}(e:CS h l= .own hd p):False:=by unfold CS at e;split at e<;>cases e
theorem WT{h:Ab}{l i:Nat}(e:CS h l= .ptr i):False:=by unfold CS at e;split at e<;>cases e
theorem oI(r:BE)(p:List Nat):((E9 r).S_ p).q=none\/((E9 r).S_ p).q=some .Z':=by
 unfold E9
 match p with
 |[0]=>exact .inl rfl
 |[1]=>exact .inr rfl
 |[]=>exact .inl rfl
 |[_+2]=>exact .inl rfl
 |_::_::_=>exact .inl rfl
theorem mO(r:BE)(p:List Nat):((E9 r).S_ p).qo=false:=by
 unfold E9
 match p with
 |[0]=>rfl
 |[1]=>rfl
 |[]=>rfl
 |[_+2]=>rfl
 |_::_::_=>rfl
theorem RdR.ext{h h':Ab}{r:Int×List Int}{u:V}(x:RdR h r u)(e:Ext h h'):RdR h' r u:=by
 refine⟨λp=>(x.rc p).tr0 (f:=Ren.id) (T:=λ_=>False) ⟨λl g=>?_,λl hd p g _=>(Sm g).elim⟩ (λb=>by rw[mO]at b;cases b) (λs q n b=>?_) (λl i o _ g=>(WT g).elim),x.sh⟩
 ·have j:=lW g;exact⟨by unfold CS;rw[Ac (HJ j e.1)],e.2 l j⟩
 rcases oI r p with h|h<;>rw[h]at b<;>cases b
theorem ew{h:Ab}{ω:Nat->W}{m:Md}{v:PV}{u:V}(r:RC h ω m v u)(hm:∀hd p,m≠.at hd p):RC h (CS h) .fz v u:=by
 refine r.map (S:=λm g=>(∀hd p,m≠.at hd p)/\g= .fz) ?_ ?_ ?_ (by rintro m g ⟨_,rfl⟩ e;cases e) ⟨hm,rfl⟩
 ·rintro m g q k ⟨h1,rfl⟩;refine⟨?_,by cases q<;>rfl⟩;cases m with
  |_=>first|exact absurd rfl (h1 _ _)|(cases q<;>simp[Md.sub])
 ·rintro m g q l o b ⟨_,rfl⟩ i _;refine⟨i,?_⟩;show CS h l= .Z';unfold CS;rw[Ac (Bw i)]
 rintro hd p g ⟨h1,_⟩;exact h1 hd p rfl
theorem Zh1{h:Ab}{ω:Nat->W}{hd f_:Hd}{p p':List Nat}{es:List (List PV)}{u:V}(r:RC h ω (.at hd p) (.sl .Z' es) u):RC h (CS h) (.at f_ p') (.sl .Z' es) u:=by
 cases r with
 |nil=>exact .nil _ _
 | sl _ _ _ l o n b hb hk hc f9 hn hw hle hr=>
   refine .sl _ _ _ l o n b hb hk ?_ (λ_ e=>by simp at e) hn hw hle λk g=>ew (hr k g) (by intro _ _ e;cases e);show CS h l= .Z';unfold CS;rw[Ac (Bw hb)]
theorem Zjm{h:Ab}{f_:Hd}{p':List Nat}{q:Ql}{es:List (List PV)}{u:V}(r:RC h (CS h) .fz (.sl q es) u):RC h (CS h) (.at f_ p') (.sl .Z' es) u:=by
 cases r with
 |nil=>exact .nil _ _
 |sl _ _ _ l o n b y t x z s i g j=>exact .sl _ _ _ l o n b y t x (λ_ e=>by simp at e) s i g j
theorem oR{h:Ab}{m:Int}{g:List Int}{b:V}(h1:RC h (CS h) (.at (.s 0) [1]) (.sl .Z' (Hj g)) b):RdR h (m,g) (.agg [.int .i64 m,b]):=by
 refine⟨λp=>?_,⟨_,rfl,rfl⟩⟩
 match p with
 |[0]=>exact .v _ _ rfl
 |[1]=>exact h1
 |[]=>exact .undef _ _
 |[_+2]=>exact .undef _ _
 |_::_::_=>exact .undef _ _
theorem RdR.form{h:Ab}{r:Int×List Int}{u:V}(x:RdR h r u):∃g,u= .agg [.int .i64 r.1,g]/\RC h (CS h) (.at (.s 0) [1]) (.sl .Z' (Hj r.2)) g/\g.cell=true/\g.cells=[g]/\g.ok1=true/\∀i,g.isBox i=false:=by
 obtain⟨us,rfl,j⟩:=x.sh
 match us,j with
 | [a,b],_=>
   have h0:RC h (CS h) (.at (.s 0) [0]) (.fl (.int .i64 r.1)) a:=x.rc [0];have h1:RC h (CS h) (.at (.s 0) [1]) (.sl .Z' (Hj r.2)) b:=x.rc [1];have n:a= .int .i64 r.1:=(by cases h0;rfl);subst n;refine⟨b,rfl,h1,?_⟩;generalize Hj r.2=es at h1;cases h1<;>exact⟨rfl,rfl,rfl,λ_=>rfl⟩
theorem kg{h:Ab}{j g:V}{a b:Int×List Int}(J:RdR h a j)(I:RdR h b g)(O:Nj (a,b)){K:V->Ab->Prop}(N:∀h',Ext h h'->K (.bool (F7 (a,b))) h'):Hp.S [j,g] h K:=by
 have D:∀l,CS h l= .Z'\/CS h l= .none:=λl=>by unfold CS;split<;>simp
 have n:∀hd p,(∃z u,Aj (λi=>i) ⟨[E9 a,E9 b],[],[]⟩ ⟨[j,g],[],h⟩ X0 hd p=((E9 z).S_ p,u)/\RC h (CS h) (.at (.s 0) p) ((E9 z).S_ p) u)\/(Aj (λi=>i) ⟨[E9 a,E9 b],[],[]⟩ ⟨[j,g],[],h⟩ X0 hd p).1= .fl .undef:=by
  intro hd p;cases hd with
  | s t=>
    match t with
    |0=>exact .inl ⟨a,_,rfl,J.rc p⟩
    |1=>exact .inl ⟨b,_,rfl,I.rc p⟩
    |t+2=>exact .inr (Ba p)
  |b i=>right;simp only[Aj];unfold Bh;split<;>rfl
  |h i=>right;simp only[Aj];unfold Bh;split<;>rfl
  |x i=>exact .inr (Ba p)
 have R:RS h (CS h) (CS h) (λi=>i) ⟨[E9 a,E9 b],[],[]⟩ ⟨[j,g],[],h⟩ X0:=by
  refine⟨⟨λhd p=>?_,λl l' hd p e=>(Sm e).elim,λl l' i e=>(WT e).elim,λl e=>?_,λl e=>lW e⟩,λt=>?_,λi=>Bf _,rfl,rfl,λi=>rfl,λi c=>rfl,λi c=>rfl,λi hi=>by simp at hi,λl i e=>(WT e).elim,λl i p e=>(Sm e).elim,⟨BH _,λl F _=>⟨rfl,rfl⟩,(λl F e y=>by rw[e]at y;cases y),λl i e=>e⟩,λhd p i Y U=>?_⟩
  ·rcases n hd p with⟨z,u,G,y⟩|e
   ·rw[G];exact y.any (mO z p)
   rw[e];exact .undef _ _
  ·rcases e with⟨_,_,e⟩|⟨_,e⟩
   ·exact(Sm e).elim
   exact(WT e).elim
  ·match t with
   |0=>exact J.sh
   |1=>exact I.sh
   |t+2=>exact Bf _
  rcases n hd p with⟨z,u,G,y⟩|e
  ·rw[G];rcases oI z p with h|h<;>rw[h]<;>simp
  rw[e];simp[PV.q]
 refine sv h (CS h) _ _ _ [] (λr _=>r= .fl (.bool (F7 (a,b)))) K R (λl hd p e=>(Sm e).elim) ?_ λu h' r Z ω' ρ' M C _=>?_
 ·exact sI (Et Hp.h (a,b)) (.p (Nj (a,b))) (Hp.q.dv (F7 (a,b))) _ (by kernel_rfl) O (λ_=>rfl)
 subst M;have A:=C.core.rc (.x 0) [0];have hs:(∀us,u≠.agg us)/\∀us,u≠.f7 us:=C.shx 0;have A:RC h' ω' (.at (.x 0) [0]) (.fl (.bool (F7 (a,b)))) (u.S_ [0]):=A;rw[FK hs.1 hs.2]at A;have L:u= .bool (F7 (a,b)):=by cases A;rfl
 subst L;exact N h' ⟨C.fr.len,λl F=>(C.fr.old l F (D l)).1⟩
theorem Zf3{cs:List V}{k:Nat}(h:k+2<=cs.length):(cs.drop k).take 2=[get cs k,get cs (k+1)]:=by
 have g:∀j (b:j<cs.length),get cs j=cs[j]:=λj b=>by rw[CP,A9 b];rfl
 rw[Qr (show k<cs.length by omega),Qr (show k+1<cs.length by omega),g k (by omega),g (k+1) (by omega)];rfl
def Gvn(h:Ab)(cs0:List V)(h1:Ab)(g:V)(idx:List Nat):Prop:=
 idx=[]/\g= .b_\/idx≠[]/\∃l' b,h.length<=l'/\h1[l']?=some b/\b.k= .own/\b.w=2/\g= .slice l' 0 idx.length/\b.cs.length=idx.length*2 /\
  ∀k c,k<idx.length->c<2->get b.cs (k*2+c)=get cs0 (idx.getD k 0*2+c)
theorem kX:∀(l:B8) (p:BE) (k:Nat),(Ds l p k).length<=l.length
 |[],_,_=>BH _
 | r::t,p,k=>by
   have:=kX t r (k+1);simp only[Ds];split<;>simp only[A0]<;>omega
theorem Gvn.ext{h h1 j:Ab}{cs0:List V}{i:V}{idx:List Nat}(g:Gvn h cs0 h1 i idx)(e:Ext h1 j):Gvn h cs0 j i idx:=by
 rcases g with g|⟨t,l',b,s,n,q⟩
 ·exact .inl g
 exact .inr ⟨t,l',b,s,by rw[e.2 l' (Bw n)];exact n,q⟩
theorem Zhr{h j:Ab}{cs0:List V}{u:V}{idx:List Nat}{i:Nat}{bx:List (List V)}(g:Gvn h cs0 j u idx)(N:h.length<=j.length)(M:idx.length<=2097152):∃n y,To bx (j++[⟨.own,2,[get cs0 (i*2),get cs0 (i*2+1)]⟩]) 2 u (.slice j.length 0 1)=some (n,bx,y)/\(∀l,l<h.length->y[l]?=j[l]?)/\h.length<=y.length/\Gvn h cs0 y n (idx++[i]):=by
 have q:DJ (j++[(⟨.own,2,[get cs0 (i*2),get cs0 (i*2+1)]⟩:Blk)]) 2 (.slice j.length 0 1)=some ([get cs0 (i*2),get cs0 (i*2+1)],1):=by
  simp[DJ,rd]
 have t:∀c,c<2->get [get cs0 (i*2),get cs0 (i*2+1)] c=get cs0 (i*2+c):=λc s=>by
  match c,s with
  |0,_=>rfl
  |1,_=>rfl
 rcases g with⟨rfl,rfl⟩|⟨Y,l',b,U,F,L,J,rfl,R,I⟩
 ·refine⟨_,_,by simp only[To,app,q];rw[Ac (by omega),Ae (by omega),Ac (by unfold AD;omega)];rfl,λl z=>?_,?_,.inr ⟨by simp,j.length+1,_,by omega,by simp;rfl,rfl,rfl,by simp,rfl,λk c D s=>?_⟩⟩
  ·rw[Bi (by simp;omega),Bi (by omega)]
  ·simp;omega
  have C:k=0:=(by simpa using D);subst C;rw[Ln,BF];exact t c s
 have G:(j++[(⟨.own,2,[get cs0 (i*2),get cs0 (i*2+1)]⟩:Blk)])[l']?=some b:=by rw[Bi (Bw F)];exact F
 have O:=Bw F;refine⟨_,_,by simp only[To,app,q,G];rw[Ac (by omega),Ae (by omega),Ac ⟨L,J,trivial,by omega,by unfold AD;omega⟩];rfl,λl z=>?_,?_,.inr ⟨by simp,j.length+1,_,by omega,by simp;rfl,rfl,rfl,by simp,?_,λk c D s=>?_⟩⟩
 ·rw[Bi (by simp;omega),List.getElem?_set_ne (by omega),Bi (by omega)]
 ·simp;omega
 ·simp only[CO,Db,A0,A8];omega
 simp only[CO,A0,A8]at D;have ht:(b.cs.take (idx.length*2)).length=idx.length*2:=by rw[Db];omega
 by_cases x:k<idx.length
 ·rw[CP,Bi (by rw[ht];omega),Oo (by omega),<- CP,I k c x s];simp only[CQ,Bi x]
 have A:k=idx.length:=by omega
 subst A;rw[CP,Da (by rw[ht];omega),ht,show idx.length*2+c-idx.length*2=c by omega,<- CP,t c s];simp[CQ]
theorem p5 {h:Ab} {p:Int×List Int} {l:List BE} {ua A:V} {cs0:List V} (ha:RdR h p ua) (g:Oy A=some (.int .i64 l.length)) (hl:l.length<=2097152)
 (he:∀i (hi:i<l.length),RdR h l[i] (.agg [get cs0 (i*2),get cs0 (i*2+1)])/\∃l0 b,A= .slice l0 0 l.length/\h[l0]?=some b/\b.k≠.dead/\b.w=2/\b.cs=cs0/\l.length*2<=cs0.length)
 (d8:∀i,i<l.length->Nj (Dh (l.take i) p,l.getD i (0,[]))/\F7 (Dh (l.take i) p,l.getD i (0,[]))=decide (Dh (l.take i) p=l.getD i (0,[])))
 {Q:V->Ab->Prop} (hQ:∀r H,Ext h H->Gvn h cs0 H r (Ds l p 0)->Q r H):Ng [ua,A] h Q:=by
 unfold Ng;refine Jy rfl ?_;unfold fb;obtain⟨ka,rfl,ra,a1,a2,a3,a4⟩:=ha.form;have F:∀i,A.isBox i=false:=by
  intro i;cases A<;>first|rfl|(simp[Oy]at g)
 have e1:A.cell=true:=by
  cases A<;>first|rfl|(simp[Oy]at g)
 simp only[go_sem,reduceIte,reduceCtorEq,Nat.reduceAdd,Nat.reduceBEq,Int.reduceLT,Int.reduceLE,Int.reduceGT,Int.reduceGE,Int.reduceBEq,Int.reduceBNe,Nat.reduceEqDiff,Nat.reduceLeDiff,Nat.reduceLT,g,a1,a2,a3,a4,F];refine MA l.length (λi st=>∃h1 s kv bx1,st=⟨[.undef,.undef,.box 0 0,.undef,.undef,s,.undef,.undef,A,.int .i64 (l.length:Int),.int .i64 (i:Int)]++Es 14,[[.int .i64 (Dh (l.take i) p).1,kv],bx1],h1⟩/\Ext h h1/\Gvn h cs0 h1 s (Ds (l.take i) p 0)/\RdR h1 (Dh (l.take i) p) (.agg [.int .i64 (Dh (l.take i) p).1,kv])) ?_ ?_
 ·exact⟨h,.b_,ka,[],rfl,Ext.refl h,.inl ⟨rfl,rfl⟩,ha⟩
 rintro i st next hi ⟨h1,s,kv,bx1,rfl,hE,t,hR⟩ hnx
 have G:∀i,s.isBox i=false:=by
  intro i;rcases t with⟨_,rfl⟩|⟨_,l',b,_,_,_,_,rfl,_⟩<;>rfl
 have o1:s.ok1=true:=by
  rcases t with⟨_,rfl⟩|⟨_,l',b,_,_,_,_,rfl,_⟩<;>rfl
 by_cases D:i<l.length
 ·have hc:decide ((i:Int)<(l.length:Int))=true:=Gj (by omega);have hw:IntKind.i64.wrap ((i:Int)+1)=((i+1:Nat):Int):=(by rw[LM (by omega)];omega);obtain⟨L,l0,b0,rfl,hb0,hk0,hw0,hcs,hcl⟩:=he i D;obtain⟨r,hr⟩:∃r,l[i]=r:=⟨_,rfl⟩;have hgd:l.getD i (0,[])=r:=(by rw[CQ,A9 D,<- hr];rfl);rw[hr]at L;have n:=L.ext hE;obtain⟨x,q,rr,r1,r2,Z,Y⟩:=n.form;rw[q]at n;obtain⟨kv',ekv,rv,U,R,O,N⟩:=hR.form;cases ekv;obtain⟨q1,q2⟩:=d8 i D;rw[hgd]at q1 q2;have hb1:h1[l0]?=some b0:=(by rw[hE.2 l0 (Bw hb0)];exact hb0);have hx:=ME (b:=l0) (w:=2) D (k:=.i64);have j:Lq h1 (some 2) (.ptr l0 (i*2))=some (.agg [.int .i64 r.1,x]):=by
   have e2:rd h1 l0 (i*2) 2=some [get cs0 (i*2),get cs0 (i*2+1)]:=by
    unfold rd;rw[hb1];simp only;rw[Ac ⟨hk0,by rw[hcs];omega⟩,hcs,Zf3 (by omega)]
   simp only[V.agg.injEq]at q;simp only[Lq,IF,e2,q,II,CC]
  repeat' (first|(simp only[go_sem,reduceIte,reduceCtorEq,Nat.reduceAdd,Nat.reduceBEq,Int.reduceLT,Int.reduceLE,Int.reduceGT,Int.reduceGE,Int.reduceBEq,Int.reduceBNe,Nat.reduceEqDiff,Nat.reduceLeDiff,Nat.reduceLT,g,hc,hw,hx,j,F,G,r1,r2,Z,Y,U,R,O,N])|(refine LO (kg hR n q1 λh2 u=>?_) ?_)|(refine ZeM rfl (λC=>?_) (λC=>?_)<;>simp only[C,go_sem,reduceIte,reduceCtorEq,Nat.reduceAdd,Nat.reduceBEq,Int.reduceLT,Int.reduceLE,Int.reduceGT,Int.reduceGE,Int.reduceBEq,Int.reduceBNe,Nat.reduceEqDiff,Nat.reduceLeDiff,Nat.reduceLT,g,hc,hw,hx,j,F,G,r1,r2,Z,Y,U,R,O,N])|(refine ZfH rfl (λC=>?_) (λC=>?_)<;>simp only[C,go_sem,reduceIte,reduceCtorEq,Nat.reduceAdd,Nat.reduceBEq,Int.reduceLT,Int.reduceLE,Int.reduceGT,Int.reduceGE,Int.reduceBEq,Int.reduceBNe,Nat.reduceEqDiff,Nat.reduceLeDiff,Nat.reduceLT,g,hc,hw,hx,j,F,G,r1,r2,Z,Y,U,R,O,N])|(refine ZaE rfl (λC=>?_) (λC=>?_)<;>simp only[C,go_sem,reduceIte,reduceCtorEq,Nat.reduceAdd,Nat.reduceBEq,Int.reduceLT,Int.reduceLE,Int.reduceGT,Int.reduceGE,Int.reduceBEq,Int.reduceBNe,Nat.reduceEqDiff,Nat.reduceLeDiff,Nat.reduceLT,g,hc,hw,hx,j,F,G,r1,r2,Z,Y,U,R,O,N]))
  refine LO (kg hR n q1 λh2 u=>?_);have y:Dh (l.take (i+1)) p=r:=(by rw[List.take_succ_eq_append_getElem D,jQ,hr]);have z:Ds (l.take (i+1)) p 0=Ds (l.take i) p 0++(if Dh (l.take i) p=r then []else [i]):=by
   rw[List.take_succ_eq_append_getElem D,ai,hr,Db,BF,Nat.min_eq_left (by omega)]
  have M:=hE.trans u;by_cases hd:Dh (l.take i) p=r
  ·have I:F7 (Dh (l.take i) p,r)=true:=(by rw[q2,Gj hd]);rw[Ac hd,Qy]at z;simp only[go_sem,reduceIte,reduceCtorEq,Nat.reduceAdd,Nat.reduceBEq,Int.reduceLT,Int.reduceLE,Int.reduceGT,Int.reduceGE,Int.reduceBEq,Int.reduceBNe,Nat.reduceEqDiff,Nat.reduceLeDiff,Nat.reduceLT,I,hw,F,G,r1,r2,Z,Y,U,R,O,N];refine hnx _ D ⟨h2,s,x,[.int .i64 r.1,x],?_,M,?_,?_⟩
   ·rw[y];rfl
   ·rw[z];exact t.ext u
   rw[y];exact n.ext u
  have I:F7 (Dh (l.take i) p,r)=false:=(by rw[q2,Dl hd]);rw[Ae hd]at z;have J:=kX (l.take i) p 0;rw[Db]at J;simp only[V.agg.injEq,Gq,HD]at q;obtain⟨out',h3,x1,x2,x3,x4⟩:=Zhr (i:=i) (bx:=[[.int .i64 (Dh (l.take i) p).1,kv],[.int .i64 r.1,x]]) (t.ext u) M.1 (by omega);rw[q.1,q.2]at x1;have x5:Wn [[.int .i64 (Dh (l.take i) p).1,kv],[.int .i64 r.1,x]] h2 2 1 [.int .i64 0,.b_] (some [.int .i64 r.1,x])=some (.slice h2.length 0 1,[[.int .i64 (Dh (l.take i) p).1,kv],[.int .i64 r.1,x]],h2++[⟨.own,2,[.int .i64 r.1,x]⟩]):=by
   simp[Wn,V.cell]
  simp only[go_sem,reduceIte,reduceCtorEq,Nat.reduceAdd,Nat.reduceBEq,Int.reduceLT,Int.reduceLE,Int.reduceGT,Int.reduceGE,Int.reduceBEq,Int.reduceBNe,Nat.reduceEqDiff,Nat.reduceLeDiff,Nat.reduceLT,I,hw,F,G,r1,r2,Z,Y,U,R,O,N,x5,x1];have hE3:Ext h h3:=⟨x3,λl hl=>(x2 l hl).trans (M.2 l hl)⟩;refine hnx _ D ⟨h3,out',x,[.int .i64 r.1,x],?_,hE3,?_,?_⟩
  ·rw[y];rfl
  ·rw[z];exact x4
  rw[y];have:=L.ext hE3;rw[q.1,q.2]at this;exact this
 have hc:decide ((i:Int)<(l.length:Int))=false:=Dl (by omega);have J:i=l.length:=by omega
 subst J;simp only[go_sem,reduceIte,reduceCtorEq,Nat.reduceAdd,Nat.reduceBEq,Int.reduceLT,Int.reduceLE,Int.reduceGT,Int.reduceGE,Int.reduceBEq,Int.reduceBNe,Nat.reduceEqDiff,Nat.reduceLeDiff,Nat.reduceLT,g,hc,F,G,o1];rw[FQ]at t;exact hQ s h1 hE t
def HV:RT:=.cons (.int .i64) (.one (.sl (.one (.int .i64))))
def Yl(p:BE)(l:B8):List BE:=(Ds l p 0).map λi=>l.getD i (0,[])
@[irreducible] def OV(p:BE)(l:B8):List BE:=(shut λ(q:OA)=>Yl q.1 q.2).1 (p,l)
def eN(p:BE)(l:B8):Prop:=l.length<=2097152/\∀i,i<l.length->Nj (Dh (l.take i) p,l.getD i (0,[]))/\F7 (Dh (l.take i) p,l.getD i (0,[]))=decide (Dh (l.take i) p=l.getD i (0,[]))
@[irreducible] def OT(p:BE)(l:B8):Prop:=(shut λ(q:OA)=>eN q.1 q.2).1 (p,l)
theorem fa(p:BE)(l:B8):OV p l=Yl p l:=by unfold OV;exact congrFun (shut _).2 (p,l)
theorem e9(p:BE)(l:B8):OT p l=eN p l:=by unfold OT;exact congrFun (shut _).2 (p,l)
theorem Zg4(p:BE)(l:B8):(Ds l p 0).Pairwise (· < ·)/\(∀i∈Ds l p 0,i<l.length)/\OV p l=(Ds l p 0).map λi=>l.getD i (0,[]):=⟨(WR l p 0).1,λi hi=>by have:=((WR l p 0).2 i hi).2;omega,by rw[fa];rfl⟩
def Yz:DTk:=⟨HV,HV,OT,λp l=>Ds l p 0,OV,λp l _=>Zg4 p l⟩
theorem kM:∀l:List Int,PV.ownrE (Hj l)=Hj l
 |[]=>rfl
 | z::l=>by
   have:=kM l;show PV.ownrE ([.fl (.int .i64 z)]::Hj l)=_;simp only[PV.ownrE,PV.ownrL,PV.ownr,this];rfl
theorem ZfL(p:BE):((PV.agg (RT.enc HV p)).fz).nrm=E9 p:=by
 show PV.agg [.fl (.int .i64 p.1),.sl .Z' (PV.ownrE (Hj p.2))]=_;rw[kM];rfl
theorem qj:df Ng (DTk.P Yz):=by
 rintro h ω ω' hd a es ua ue K Q ha hsa q ⟨p,l,rfl,rfl,I,M⟩ hQ;obtain⟨p,rfl⟩:∃p':Int×List Int,p'=p:=⟨p,rfl⟩;obtain⟨l,rfl⟩:∃l':List BE,l'=l:=⟨l,rfl⟩;have I:eN p l:=by
  have:OT p l:=I;rwa [e9]at this
 have M:K (Ds l p 0):=M;have hrow:∀r:Int×List Int,RT.enc HV r=[.fl (.int .i64 r.1),.sl .own (Hj r.2)]:=λr=>rfl;rw[show ((PV.agg ((DTk.ra Yz).enc p)).fz).nrm=E9 p from ZfL p]at ha hsa;have C:RdR h p ua:=by
  obtain⟨us,rfl,O⟩:=hsa
  match us,O with
  | [c,d],_=>
    have h0:RC h ω (.at (.s 0) [0]) (.fl (.int .i64 p.1)) c:=ha [0];have h1:RC h ω (.at (.s 0) [1]) (.sl .Z' (Hj p.2)) d:=ha [1];have ec:c= .int .i64 p.1:=(by cases h0;rfl);subst ec;exact oR (Zh1 h1)
 have q:RC h ω' (.at hd [0]) (.sl .own (l.map (RT.enc HV))) ue:=q;have j:(l.map (RT.enc HV)).length=l.length:=Bd ..;obtain⟨O,I⟩:=I;by_cases G:l=[]
 ·subst G;have N:ue= .b_:=by
   cases q with
   |nil=>rfl
   |sl _ _ _ l0 o n b R J L G=>exact absurd rfl (G rfl (.inl rfl))
  subst N;refine p5 (l:=([]:List BE)) (cs0:=[]) C rfl (EE _) (λi hi=>absurd hi (Oc i)) (λi hi=>absurd hi (Oc i)) λr H F y=>?_;rcases y with⟨_,rfl⟩|⟨h1,_⟩
  ·exact hQ [] .b_ H M F.1 F.2 (.inl ⟨rfl,rfl⟩)
  exact absurd rfl h1
 generalize z:l.map (RT.enc HV)=es at q j;cases q with
 |nil=>exact absurd (Df j.symm) G
 | sl _ _ _ l0 o n b R J L hne2 hn hw hle hr=>
   obtain⟨c1,rfl,c3⟩:=L;subst hn;have g:b.w=2:=by
    cases l with
    |nil=>exact absurd rfl G
    |cons r t=>rw[<- hw (RT.enc HV r) (by rw[<- z];exact List.mem_map.2 ⟨r,G6 ..,rfl⟩)];rfl
   rw[j];rw[g,j]at hle;refine p5 (cs0:=b.cs) C rfl O (λi hi=>⟨?_,l0,b,rfl,R,J,g,rfl,by omega⟩) I λr H F y=>?_
   ·have x:i<es.length:=(by rw[j];exact hi);have hW:∀e∈es,e.length=2:=λe q=>(by rw[<- g];exact hw e q);have A:Bo es i=[.fl (.int .i64 l[i].1),.sl .own (Hj l[i].2)]:=by
     have y:(List.getD (α:=HV.D) l i HV.dflt)=l[i]:=by
      show l.getD i ((0:Int),([]:List Int))=l[i];rw[CQ,A9 hi];rfl
     rw[<- z,Lp HV l i hi];exact congrArg (RT.enc HV) y
    have Z:=hr (i*2) (by rw[g];omega);have Y:=hr (i*2+1) (by rw[g];omega);have f0:=SQ hW (k:=i) (c:=0) x (by omega);have f1:=SQ hW (k:=i) (c:=1) x (by omega);rw[E1,A]at f0;rw[A]at f1;rw[f0,BF]at Z;rw[f1,BF]at Y;have y0:RC h (CS h) .fz (.fl (.int .i64 l[i].1)) (get b.cs (i*2)):=ew Z (by intro _ _ e;cases e);have y1:RC h (CS h) .fz (.sl .own (Hj l[i].2)) (get b.cs (i*2+1)):=ew Y (by intro _ _ e;cases e);have e0:get b.cs (i*2)= .int .i64 l[i].1:=by
     generalize get b.cs (i*2)=u at y0;cases y0;rfl
    rw[e0];exact oR (Zjm y1)
   refine hQ (Ds l p 0) r H M F.1 F.2 ?_;rcases y with⟨U,rfl⟩|⟨U,l',b',g2,g3,g4,g5,rfl,g7,g8⟩
   ·exact .inl ⟨U,rfl⟩
   refine .inr ⟨U,l',b',l0,_,rfl,g2,g3,g4,g5,rfl,?_,λk c J L=>?_⟩
   ·show _*2<=_;omega
   have:A4 h l0=b.cs:=(by simp only[A4,R]);rw[this];exact g8 k c J L
end
section
set_option maxRecDepth 8000
def zo:d4:=(A_ [2,1] 1 [O' 0 2 0,B_ (.e_ 1 [Ad,.b_])] (.seq [2] (.region [oa 0 3 (.f5 0 1),xB 1 4 (.d7 0 none 3) (rg 1),oa 3 6 (.f5 1 1),xA 4 7 (.d7 0 none 6) [3],⟨2,some 5,.a false (.d5 1 0 [] []) (some (.one (.int .i64))),none,[]⟩,xA 5 8 (.app 1 5 7) [2,3,4],xA 6 9 (.build [Ad,.b_] [(0,1,4),(1,1,8)]) (rg 6),xS 7 (.V_ 1 2 2 9) (rg 7)]) .ret))
def K3:Fn:=⟨⟨1,10,2,false,[.cell 2 (some 2)],zo⟩,[.agg [Au,(.Z',.sl (.one (.int .i64)))]],.one (.agg [AN,(.own,.sl (.one (.int .i64)))])⟩
theorem zC:K3.A:=AM trivial
def RD:BE->Int×List (Int):=K3.V
def Zq:BE->Prop:=K3.O
theorem yP:K3.B:=AO trivial (by kernel_rfl) (λx=>by kernel_rfl)
def tC:d4:=(A_ [2,1] 2 [O' 0 2 0,G_ 4 (Q_ (.c .b_))] (A_ [5,2,1] 7 [Q' (.cons (.int .i64) (.one (.sl (.one (.int .i64))))) (.d5 2 0 [] []),G_ 5 (C_ 7)] (.seq [5] (A_ [6,5,2,1] 6 [E' 0] (.block 0 (.loop [1,2,5,6] 1 (.seq [6,5,2,1] (A_ [11,6,5,2,1] 8 [C_ 6,D_ 1,L' 9,M' 8 10] (.cond 11 .skip (.exit 0))) (.seq [6,5,2,1] (.block 1 (.seq [6,5,2,1] (A_ [20,6,5,2,1] 14 [K_ 0 2 2,D_ 1,C_ 6,G' [1,2] (N_ 2 15 16),G' [1,2,3] (B_ (.i5 (some 2) 17)),G' (rg 5) (I' Kc [14,18]),G' (rg 6) (P' 19)] (.cond 20 (At 21 [C_ 5,D_ 1,C_ 6,N_ 2 22 23,B_ (.i5 (some 2) 24),I' K3 [25],Q' (.cons (.int .i64) (.one (.sl (.one (.int .i64))))) (.d5 2 1 [Ad,.b_] [(0,2,26)]),B_ (.app 2 21 27),G_ 5 (C_ 28)]) .skip)) (At 29 [D_ 1,C_ 6,N_ 2 29 30,C' (.i5 (some 2) 31),E_ (.V_ 0 2 2 32)]))) (At 12 [C_ 6,M_ 12 AA,G_ 6 (C_ 13)])))))) (A_ [4] 33 [C_ 5,G_ 4 (C_ 33)] .ret))))
def Ks:Fn:=⟨⟨2,34,1,false,[.tmp 4],tC⟩,[.agg [Au,(.Z',.sl (.one (.int .i64)))],.one .Z' (.sl (.cons (.int .i64) (.one (.sl (.one (.int .i64))))))],.one (.one .own (.sl (.cons (.int .i64) (.one (.sl (.one (.int .i64)))))))⟩
theorem tK:Ks.A:=AM ⟨rV,zC,trivial⟩
def U4:OA->List BE:=Ks.V
def Uy:OA->Prop:=Ks.O
theorem uf:Ks.B:=AO ⟨sN,yP,trivial⟩ (by kernel_rfl) (λx=>by kernel_rfl)
def sE:d4:=(A_ [2,1] 1 [O' 0 7 0,B_ (.e_ 1 [Ad,.b_,.b_,Ad,.b_,Ad,EO])] (A_ [2,1] 3 [J' 0 1,K_ 0 2 3,I' Ke [4],J' 0 1,E_ (.V_ 0 2 6 5)] (A_ [2,1] 7 [J' 2 1,J_ 0 7,I' Kh [8],J' 2 1,E_ (.V_ 0 1 10 9)] (A_ [2,1] 11 [J' 4 1,J_ 0 11,B_ (.app 5 (.c .b_) 12),J' 4 1,E_ (.V_ 0 1 14 13)] (A_ [2] 15 [C' (.d7 0 (some 7) 1),E_ (.V_ 1 7 2 15)] .ret)))))
def Kk:Fn:=⟨⟨1,16,2,false,[.cell 2 (some 7)],sE⟩,[.agg [Au,(.Z',.sl (.one (.sl AB))),(.Z',.sl (.one (.sl AQ))),Au,(.Z',.sl AU),Au,(.Z',.bool)]],.one (.agg [AN,(.own,.sl (.one (.sl AB))),(.own,.sl (.one (.sl AQ))),AN,(.own,.sl AU),AN,(.own,.bool)])⟩
theorem sA:Kk.A:=AM ⟨sd,rF,trivial⟩
def Q4:BS->Int×Cv×CA×Int×Bg×Int×Bool:=Kk.V
def Ux:BS->Prop:=Kk.O
theorem sL:Kk.B:=AO ⟨rI,rK,trivial⟩ (by kernel_rfl) (λx=>by kernel_rfl)
end
section
set_option maxRecDepth 100000
theorem zD(x):RD x=(x.1,i9 [] x.2):=(K3.v x).trans (by kernel_rfl)
theorem zF(x):Zq x=AD ((List.length ([]:List Int)+List.length x.2)*1):=(K3.o x).trans (by kernel_rfl)
def Ud(x:OA)(x0:B8×Ye):Bool:=(c_ x0.2.1 (U_ x.2))
def Ua(x:OA)(x0:B8×Ye):(B8×Ye):=((Y_ (U' (Pa (x0.2.2,(So x.2 (R_ x0.2.1) (0,[]))))) (i9 x0.1 [(RD (So x.2 (R_ x0.2.1) (0,[])))]) x0.1),(V' .i64 x0.2.1 1),(So x.2 (R_ x0.2.1) (0,[])))
def YD(x:OA)(x0:B8×Ye):Prop:=(((c_ x0.2.1 (U_ x.2))=true->(((((0:Int)<=x0.2.1)/\(x0.2.1<(((List.length x.2):Int))))/\(((R_ x0.2.1)<(List.length x.2))/\((Ui (x0.2.2,(So x.2 (R_ x0.2.1) (0,[]))))/\(((U' (Pa (x0.2.2,(So x.2 (R_ x0.2.1) (0,[])))))=true->((((0:Int)<=x0.2.1)/\(x0.2.1<(((List.length x.2):Int))))/\(((R_ x0.2.1)<(List.length x.2))/\((Zq (So x.2 (R_ x0.2.1) (0,[])))/\(AD (((List.length x0.1)+(List.length [(RD (So x.2 (R_ x0.2.1) (0,[])))]))*2))))))/\((U' (Pa (x0.2.2,(So x.2 (R_ x0.2.1) (0,[])))))=false->True)))))/\((((0:Int)<=x0.2.1)/\(x0.2.1<(((List.length x.2):Int))))/\((R_ x0.2.1)<(List.length x.2)))))/\((c_ x0.2.1 (U_ x.2))=false->True))
theorem sY(x):U4 x=(Al (Ud x) (Ua x) ([],0,x.1)).1:=(Ks.v x).trans (by kernel_rfl)
theorem tQ(x):Uy x=Z_ (Ud x) (Ua x) (YD x) ([],0,x.1):=(Ks.o x).trans (by kernel_rfl)
theorem rY(x):Q4 x=((Q3 (x.1,x.2.1)).1,(Q3 (x.1,x.2.1)).2,UH x.2.2.1,x.2.2.2):=(Kk.v x).trans (by kernel_rfl)
theorem sk(x):Ux x=(Ut (x.1,x.2.1)/\Un x.2.2.1/\AD (List.length x.2.2.2.2.1*5)):=(Kk.o x).trans (by kernel_rfl)
attribute [irreducible] RD Zq U4 Uy Q4 Ux
end
section
set_option maxRecDepth 8000
def uk:d4:=(A_ [1,0] 4 [Q_ As] (.seq [1,0] (A_ [10,1,0] 6 [D_ 0,L' 6,D_ 1,L' 8,N' 7 9] (.cond 10 (A_ [4] 4 [Q_ As] .ret) .skip)) (.seq [] (A_ [5,1,0] 5 [E' 0] (.block 0 (.loop [0,1,5] 1 (.seq [5,1,0] (A_ [14,5,1,0] 11 [C_ 5,D_ 0,L' 12,M' 11 13] (.cond 14 .skip (.exit 0))) (.seq [5,1,0] (.block 1 (A_ [26,5,1,0] 17 [D_ 0,C_ 5,G' (rg 2) (N_ 2 17 18),G' (rg 3) (B_ (.i5 (some 2) 19)),D_ 1,C_ 5,G' [4,5] (N_ 2 21 22),G' [4,5,6] (B_ (.i5 (some 2) 23)),G' (rg 8) (I' Ky [20,24]),G' (rg 9) (P' 25)] (.cond 26 (A_ [4] 4 [Q_ As] .ret) .skip))) (At 15 [C_ 5,M_ 15 AA,G_ 5 (C_ 16)])))))) (A_ [4] 4 [Q_ AV] .ret))))
def Ee:Fn:=⟨⟨2,27,0,true,[.tmp 4],uk⟩,[.one .Z' (.sl (.cons (.int .i64) (.one (.sl (.one (.int .i64)))))),.one .Z' (.sl (.cons (.int .i64) (.one (.sl (.one (.int .i64))))))],.one (.one .own (.bool))⟩
theorem YS:Ee.A:=AM ⟨u9,trivial⟩
def Hq:pz->Bool:=Ee.V
def Pb:pz->Prop:=Ee.O
theorem YR:Ee.B:=AO ⟨wY,trivial⟩ (by kernel_rfl) (λx=>by kernel_rfl)
def fD:ACode:=(.seq (.region [⟨0,some 4,.mv (.c (.int .i64 0)),none,[]⟩]) (.seq (.seq (.region [⟨0,some 5,.mv (.c (.int .i64 0)),none,[]⟩]) (.block 0 (.loop [0,1,5] (.seq (.seq (.region [⟨0,some 6,.mv (.t 5),none,[]⟩,⟨1,some 7,.mv (.t 0),none,[]⟩,⟨2,some 8,.len (.t 7),none,[]⟩,⟨3,some 9,.bin .lss (.t 6) (.t 8),none,[]⟩]) (.cond (.t 9) .skip (.exit 0))) (.seq (.block 1 (.seq (.region [⟨0,some 12,.mv (.t 0),none,[]⟩,⟨1,some 13,.mv (.t 5),none,[]⟩,⟨2,some 14,.mv (.t 1),none,[]⟩,⟨3,some 15,.p_ 2 (.t 12) (.t 13),none,[]⟩,⟨4,some 16,.f5 0 (.t 15),none,[]⟩,⟨5,none,.f8 1 (.t 16) (.t 14),none,[]⟩]) (.seq (.region [⟨0,some 17,.mv (.t 1),none,[]⟩,⟨1,some 18,.bin .add (.t 17) (.c (.int .i64 1)),none,[]⟩,⟨2,some 1,.mv (.t 18),none,[]⟩]) (.region [⟨0,some 19,.mv (.t 0),none,[]⟩,⟨1,some 20,.mv (.t 5),none,[]⟩,⟨2,some 21,.p_ 2 (.t 19) (.t 20),none,[]⟩,⟨3,some 22,.f5 1 (.t 21),none,[]⟩,⟨4,some 23,.i5 none (.t 22),none,[]⟩,⟨5,some 24,.mv (.t 1),none,[]⟩,⟨6,some 25,.call Pr [(.t 23),(.t 24)],none,[]⟩,⟨7,some 1,.mv (.t 25),none,[]⟩])))) (.region [⟨0,some 10,.mv (.t 5),none,[]⟩,⟨1,some 11,.bin .add (.t 10) (.c (.int .i64 1)),none,[]⟩,⟨2,some 5,.mv (.t 11),none,[]⟩])))))) (.seq (.region [⟨0,some 26,.mv (.t 1),none,[]⟩,⟨1,some 4,.mv (.t 26),none,[]⟩]) .ret)))
def YL:AFun:=⟨2,27,0,false,[.tmp 4],fD⟩
@[irreducible] def L5:Bc:=EG YL
@[irreducible] def De(x:B8)(m:Int):B8×Int:=(shut λ(x:B8) (m:Int)=>AW (RT.mkI (.cons (.int .i64) (.one (.sl (.one (.int .i64)))))) x m).1 x m
@[irreducible] def OW(x:B8):Prop:=(shut λ(x:B8)=>CT.wl (.sl (.cons (.int .i64) (.one (.sl (.one (.int .i64)))))) x).1 x
theorem fk:De=λx m=>AW (RT.mkI (.cons (.int .i64) (.one (.sl (.one (.int .i64)))))) x m:=by unfold De;exact(shut _).2
theorem fj:OW=λx=>CT.wl (.sl (.cons (.int .i64) (.one (.sl (.one (.int .i64)))))) x:=by unfold OW;exact(shut _).2
theorem qQ:SlC L5 (.cons (.int .i64) (.one (.sl (.one (.int .i64))))):=by
 rintro h ω hd p l u m Q d8 hinj hM hQ;have C:=hM.len;have hlb:l.length<=9223372036854775807:=d8.1;unfold L5;refine Jy rfl ?_;unfold fD;simp only[go_sem,reduceIte,reduceCtorEq,Nat.reduceAdd,Nat.reduceBEq,Int.reduceLT,Int.reduceLE,Int.reduceGT,Int.reduceGE,Int.reduceBEq,Int.reduceBNe,Nat.reduceEqDiff,Nat.reduceLeDiff,Nat.reduceLT,C];refine MA l.length (λi st=>∃h',st=⟨[u,.int .i64 (Bb (RT.mkI (.cons (.int .i64) (.one (.sl (.one (.int .i64)))))) l m i).2,.undef,.undef,.undef,.int .i64 (i:Int)]++Es 21,[],h'⟩/\x_ (Gv ω hd p) h h'/\MS h' ω hd p (.cons (.int .i64) (.one (.sl (.one (.int .i64))))) (Bb (RT.mkI (.cons (.int .i64) (.one (.sl (.one (.int .i64)))))) l m i).1 u) ?_ ?_
 ·refine⟨h,?_,x_.refl _ _,hM⟩;simp only[Mo,keep,MN];rfl
 rintro i st next hi ⟨h1,rfl,U,x⟩ I
 by_cases G:i<l.length
 ·have F:decide ((i:Int)<(l.length:Int))=true:=Gj (by omega);have R:IntKind.i64.wrap ((i:Int)+1)=((i+1:Nat):Int):=(by rw[LM (by omega)];omega);obtain⟨b,t⟩:=x.slice (by rw[Fk];omega);rw[Fk]at t;subst t;cases Y:Bb (RT.mkI (.cons (.int .i64) (.one (.sl (.one (.int .i64)))))) l m i with
  |mk L q=>
  rw[Y]at x;obtain⟨hLl,hs,g⟩:=NF G Y;have n:i<L.length:=(by omega);have j:=On d8 G;rw[<- g]at j;have R0:=MS.frame x n;clear g;generalize g:List.getD L i (RT.dflt (.cons (.int .i64) (.one (.sl (.one (.int .i64))))))=x0 at R0 hs j;clear g;have O:=ME (b:=b) (w:=2) G (k:=.i64);simp only;obtain⟨M,A,o0,R1⟩:=MS.st R0 n (off:=0) (by decide) (v:=(.int .i64 q)) rfl rfl (y:=((q,x0.2):RT.D (.cons (.int .i64) (.one (.sl (.one (.int .i64))))))) rfl hinj [];replace A:Ek [] h1 1 (.ptr b (i*2)) (.int .i64 q)=some (.undef,[],M):=A;obtain⟨N,z,M1,f1⟩:=MS.sb R1 n (off:=1) (by decide) (r':=(.one (.int .i64))) (l':=x0.2) rfl;replace z:Lq M none (.ptr b (i*2+1))=some N:=z;have s:=(MS.ok1 M1).1;simp only[go_sem,reduceIte,reduceCtorEq,Nat.reduceAdd,Nat.reduceBEq,Int.reduceLT,Int.reduceLE,Int.reduceGT,Int.reduceGE,Int.reduceBEq,Int.reduceBNe,Nat.reduceEqDiff,Nat.reduceLeDiff,Nat.reduceLT,C,F,R,O,A,z,s];refine LO (w8 M ω hd _ x0.2 N (IntKind.i64.wrap (q+1)) _ j.2 hinj M1 λZ O1 N1=>?_);obtain⟨o1,R2⟩:=f1 Z _ ((q,(AW (RT.mkI (.one (.int .i64))) x0.2 (IntKind.i64.wrap (q+1))).1):RT.D (.cons (.int .i64) (.one (.sl (.one (.int .i64)))))) O1 N1 rfl;simp only[go_sem,reduceIte,reduceCtorEq,Nat.reduceAdd,Nat.reduceBEq,Int.reduceLT,Int.reduceLE,Int.reduceGT,Int.reduceGE,Int.reduceBEq,Int.reduceBNe,Nat.reduceEqDiff,Nat.reduceLeDiff,Nat.reduceLT,C,F,R,O,A,z,s];exact I _ G ⟨Z,by rw[hs];rfl,(x_.trans (x_.trans U o0) o1),by rw[hs];exact R2⟩
 have F:decide ((i:Int)<(l.length:Int))=false:=Dl (by omega);have J:i=l.length:=by omega
 subst J;simp only[go_sem,reduceIte,reduceCtorEq,Nat.reduceAdd,Nat.reduceBEq,Int.reduceLT,Int.reduceLE,Int.reduceGT,Int.reduceGE,Int.reduceBEq,Int.reduceBNe,Nat.reduceEqDiff,Nat.reduceLeDiff,Nat.reduceLT,C,F];have e:=IC (RT.mkI (.cons (.int .i64) (.one (.sl (.one (.int .i64)))))) l m;rw[e]at x ⊢;exact hQ h1 U x
theorem q8:Lz L5 (p6 (.cons (.int .i64) (.one (.sl (.one (.int .i64)))))).P:=SlC.sound qQ
def YM:DMk:=⟨.one (.sl (.cons (.int .i64) (.one (.sl (.one (.int .i64)))))),false,OW,De,false⟩
theorem qC:Lz L5 (DMk.P YM):=by unfold YM;rw[fj,fk];exact q8
def qS:d4:=(A_ [1,0] 4 [E' 0] (.seq [1] (A_ [5,1,0] 5 [E' 0] (.block 0 (.loop [0,1,5] 1 (.seq [5,1,0] (A_ [9,5,1,0] 6 [C_ 5,D_ 0,L' 7,M' 6 8] (.cond 9 .skip (.exit 0))) (.seq [5,1,0] (.block 1 (.seq [5,1,0] (A_ [18,5,1,0] 12 [D_ 0,C_ 5,N_ 2 12 13,J' 0 14,O_ 15,C_ 1,N' 16 17] (.cond 18 (A_ [4] 4 [E' (-1)] .ret) .skip)) (A_ [5,1,0] 19 [C_ 1,M_ 19 AA,G_ 1 (C_ 20)] (A_ [5,1,0] 21 [D_ 0,C_ 5,N_ 2 21 22,J' 1 23,O_ 24,C_ 1,I' KD [25,26],G_ 1 (C_ 27)] (A_ [29,5,1,0] 28 [C_ 1,M' 28 AL] (.cond 29 (A_ [4] 4 [E' (-1)] .ret) .skip)))))) (At 10 [C_ 5,M_ 10 AA,G_ 5 (C_ 11)])))))) (A_ [4] 30 [C_ 1,G_ 4 (C_ 30)] .ret)))
def H9:Fn:=⟨⟨2,31,0,true,[.tmp 4],qS⟩,[.one .Z' (.sl (.cons (.int .i64) (.one (.sl (.one (.int .i64)))))),.one .Z' (.int .i64)],.one (.one .own (.int .i64))⟩
theorem fv:H9.A:=AM ⟨xd,trivial⟩
def H8:pc->Int:=H9.V
def QW:pc->Prop:=H9.O
theorem ft:H9.B:=AO ⟨uC,trivial⟩ (by kernel_rfl) (λx=>by kernel_rfl)
end
section
set_option maxRecDepth 100000
theorem ZmB(x:pz)(b)(_:b=U_ x.1)(c)(_:c=λ(x0:Int)=>So x.1 (R_ x0) (0,[]))(d)(_:d=λ(x0:Int)=>So x.2 (R_ x0) (0,[]))(a)(_:a=(λ(x0:Int)=>W_ (c_ x0 b) (U' (U' (KN (((c x0).1,(c x0).2),(d x0).1,(d x0).2))))))(e)(_:e=i_ b (U_ x.2))(f)(_:f=(λ(x0:Int)=>V' .i64 x0 1))(g)(_:g=List.length x.1)(h)(_:h=List.length x.2):Hq x=W_ (U' e) (U' (c_ (Al a f 0) b))/\Pb x=((e=true->True)/\(e=false->Z_ a f (λ(x0:Int)=>(c_ x0 b=true->((0:Int)<=x0/\x0<(g:Int))/\R_ x0<g/\((0:Int)<=x0/\x0<(h:Int))/\R_ x0<h/\Rg (((c x0).1,(c x0).2),(d x0).1,(d x0).2))/\(c_ x0 b=false->True)) 0)):=by subst_vars;exact⟨(Ee.v x).trans (by kernel_rfl),(Ee.o x).trans (by kernel_rfl)⟩
abbrev ui:=λx=>(ZmB x _ rfl _ rfl _ rfl _ rfl _ rfl _ rfl _ rfl _ rfl).1
abbrev uo:=λx=>(ZmB x _ rfl _ rfl _ rfl _ rfl _ rfl _ rfl _ rfl _ rfl).2
theorem ZmE(x:pc)(b)(_:b=λ(x0:Ar)=>So x.1 (R_ x0.2) (0,[]))(f)(_:f=U_ x.1)(c)(_:c=(λ(x0:Ar)=>W_ (c_ x0.2 f) (W_ (U' (i_ (b x0).1 x0.1)) (U' (c_ (EU ((b x0).2,V' .i64 x0.1 1)) 0)))))(d)(_:d=(λ(x0:Ar)=>(EU ((b x0).2,V' .i64 x0.1 1),V' .i64 x0.2 1)))(a)(_:a=Al c d (x.2,0))(e)(_:e=List.length x.1):H8 x=Y_ (c_ a.2 f) (Y_ (i_ (So x.1 (R_ a.2) (0,[])).1 a.1) (-1) (-1)) a.1/\QW x=Z_ c d (λ(x0:Ar)=>(c_ x0.2 f=true->((0:Int)<=x0.2/\x0.2<(e:Int))/\R_ x0.2<e/\(i_ (b x0).1 x0.1=true->True)/\(i_ (b x0).1 x0.1=false->((0:Int)<=x0.2/\x0.2<(e:Int))/\R_ x0.2<e/\Rb ((b x0).2,V' .i64 x0.1 1)))/\(c_ x0.2 f=false->True)) (x.2,0):=by subst_vars;exact⟨(H9.v x).trans (by kernel_rfl),(H9.o x).trans (by kernel_rfl)⟩
abbrev qM:=λx=>(ZmE x _ rfl _ rfl _ rfl _ rfl _ rfl _ rfl).1
abbrev qT:=λx=>(ZmE x _ rfl _ rfl _ rfl _ rfl _ rfl _ rfl).2
attribute [irreducible] Hq Pb H8 QW
end
theorem Aw(a:Bool):U' a=!a:=by simp only[Qt]
theorem Az(a b:Bool):W_ a b=(a&&b):=by simp only[de]
theorem Bl(a b:Bool):w_ a b=(a||b):=by simp only[o9]
theorem EF(a b:Bool):bIff a b=(a == b):=by simp only[oh]
theorem BN{α:Type}(c:Bool)(x y:α):Y_ c x y=if c=true then x else y:=by cases c<;>simp[CL,CH]
theorem BD(a b:Int):g9 a b=decide (a=b):=by
 rw[Yb];by_cases h:a=b<;>simp[h]
theorem Bj(a b:Int):i_ a b=!decide (a=b):=by
 rw[pn];by_cases h:a=b<;>simp[h]
theorem Am(a b:Int):c_ a b=decide (a<b):=by simp only[pr]
theorem E2(a b:Int):iLe a b=decide (a<=b):=by simp only[pe]
theorem D3(a b:Int):iGt a b=decide (b<a):=by simp only[pT]
theorem CK(a b:Int):iGe a b=decide (b<=a):=by simp only[pI]
theorem oN(a b:JW):sEq a b=(a == b):=by simp only[pC]
theorem oZ(a b:JW):sNe a b=!(a == b):=by simp only[ph]
section
variable {α:Type}
theorem Ak(l:List α):U_ l=(l.length:Int):=by simp only[oz]
theorem LF(l:List α):lN l=l.length:=by simp only[Yu]
theorem AJ(l:List α)(j:Nat)(d:α):So l j d=l.getD j d:=by simp only[cL]
theorem Hx(l:List α)(j:Nat)(x:α):lSet l j x=l.set j x:=by simp only[dH]
theorem Lo(l:List α)(a b:Nat):lSub l a b=(l.drop a).take (b-a):=by simp only[ow]
theorem aY(l:List α)(n:Nat):lTake l n=l.take n:=by simp only[cu]
theorem B6(l m:List α):i9 l m=l++m:=by simp only[Od]
theorem cx(n:Int)(x:α):lRep n x=List.replicate n.toNat x:=by simp only[nW]
theorem Ax(a:Int):R_ a=a.toNat:=by simp only[dR]
theorem nt(a b:JW):sAdd a b=a++b:=by simp only[oc]
end
def Br(n:Int):Prop:=-9223372036854775808<=n/\n<=9223372036854775807
theorem wrap_i64{n:Int}(h:Br n):IntKind.i64.wrap n=n:=by
 obtain⟨h1,b⟩:=h;show (if decide (n % 18446744073709551616>=9223372036854775808)=true then n % 18446744073709551616-18446744073709551616 else n % 18446744073709551616)=n;simp only[Av];split<;>omega
theorem Cp{a b:Int}(h:Br (a+b)):V' .i64 a b=a+b:=by rw[dO];exact wrap_i64 h
theorem Fl{a b:Int}(h:Br (a-b)):iSub .i64 a b=a-b:=by rw[oP];exact wrap_i64 h
theorem ni{a b:Int}(g:0<=a):iRem a b=a % b:=by rw[dg];exact Int.tmod_eq_emod_of_nonneg g
section
variable {X:Type} {c:X->Bool} {f:X->X} {p:X->Prop}
theorem Mu(I:X->Prop)(m:X->Nat)(h:∀x,I x->p x/\(c x=true->I (f x)/\m (f x)<m x)){x0:X}(h0:I x0):Z_ c f p x0/\I (Al c f x0)/\c (Al c f x0)=false:=by
 have go:∀(n:Nat) (x:X),m x<n->I x->∃y,LoopTo c f p x y/\I y/\c y=false:=by
  intro n;induction n with
  |zero=>intro x hm;exact absurd hm (Oc _)
  | succ n ih=>
    intro x hm j;obtain⟨h1,i⟩:=h x j;cases b:c x with
    |false=>exact⟨x,.stop h1 b,j,b⟩
    | true=>
      obtain⟨g,u⟩:=i b;obtain⟨y,t,s,q⟩:=ih (f x) (by omega) g;exact⟨y,.go h1 b t,s,q⟩
 obtain⟨y,h1,i,g⟩:=go _ x0 (S0 _) h0;rw[h1.val];exact⟨⟨y,h1⟩,i,g⟩
theorem NC(I:X->Prop)(m:X->Nat)(h:∀x,I x->c x=true->I (f x)/\m (f x)<m x){x0:X}(h0:I x0):I (Al c f x0)/\c (Al c f x0)=false:=(Mu (p:=λ_=>True) I m (λx b=>⟨trivial,h x b⟩) h0).2
theorem JC(n:Nat)(st:Nat->X){x0:X}(h0:st 0=x0)(hs:∀k,k<n->p (st k)/\c (st k)=true/\f (st k)=st (k+1))(b:p (st n)/\c (st n)=false):Z_ c f p x0/\Al c f x0=st n:=by
 have go:∀k,k<=n->LoopTo c f p (st (n-k)) (st n):=by
  intro k;induction k with
  |zero=>intro _;exact .stop b.1 b.2
  | succ k ih=>
    intro j;obtain⟨h1,i,g⟩:=hs (n-(k+1)) (by omega);refine .go h1 i ?_;rw[g,show n-(k+1)+1=n-k by omega];exact ih (by omega)
 have:=go n (BH _);rw[XQ,h0]at this;exact⟨⟨_,this⟩,this.val⟩
end
def C0(t:Nat->Bool):Nat->Nat->Nat
 |0,i=>i|k+1,i=>if t i then i else C0 t k (i+1)
theorem Jw(t:Nat->Bool):∀k i,i<=C0 t k i/\C0 t k i<=i+k
 |0,i=>⟨BH _,BH _⟩
 | k+1,i=>by
   unfold C0;split
   ·omega
   have:=Jw t k (i+1);omega
theorem PJ(t:Nat->Bool):∀k i,C0 t k i<i+k->t (C0 t k i)=true
 |0,i,h=>by unfold C0 at h;omega
 | k + 1,i,h=>by
   unfold C0 at h ⊢;split
   ·rename_i ht;exact ht
   rename_i ht;rw[Ae ht]at h;exact PJ t k (i+1) (by omega)
theorem RZ(t:Nat->Bool):∀k i j,i<=j->j<C0 t k i->t j=false
 |0,i,j,h,h'=>by unfold C0 at h';omega
 | k + 1,i,j,h,h'=>by
   unfold C0 at h';split at h'
   ·omega
   rename_i ht;by_cases b:j=i
   ·subst b;simpa using ht
   exact RZ t k (i+1) j (by omega) h'
theorem j7{c:Int->Bool}{f:Int->Int}{p:Int->Prop}(n:Nat)(t:Nat->Bool)(u:(n:Int)<=9223372036854775806)(g:∀i:Nat,i<=n->c i=(decide (i<n)&&!t i))(s:∀i:Nat,i<n->f i=V' .i64 i 1)(hp:∀i:Nat,i<=n->p i):Z_ c f p 0/\Al c f 0=(C0 t n 0:Nat):=by
 have j:=Jw t n 0;refine JC (C0 t n 0) (λk=>(k:Int)) rfl (λk q=>?_) ⟨hp _ (by omega),?_⟩
 ·have b:k<n:=(by omega);refine⟨hp k (by omega),?_,?_⟩
  ·rw[g k (by omega),RZ t n 0 k (by omega) q];simp[b]
  rw[s k b,Cp (by unfold Br;omega)];omega
 rw[g _ (by omega)];by_cases h:C0 t n 0<n
 ·rw[PJ t n 0 (by omega)];simp
 simp[h]
theorem PI{t:Nat->Bool}{n:Nat}:C0 t n 0=n↔∀i,i<n->t i=false:=by
 constructor
 ·intro h i hi;exact RZ t n 0 i (by omega) (by omega)
 intro h;have b:=Jw t n 0;rcases Bx (C0 t n 0) n with h1|h1
 ·have:=PJ t n 0 (by omega);rw[h _ h1]at this;cases this
 omega
section
variable {α:Type}
theorem Zgc(x:List α)(k:Nat)(b:k<x.length)(d:α)(l:List α)(g:l.length=x.length)(h:l.take k=x.take k):(l.set k (x.getD k d)).take (k+1)=x.take (k+1):=by
 rw[XO,XO,List.take_set];have:(l.take k).set k (x.getD k d)=l.take k:=by
  apply List.set_eq_of_length_le;rw[Db];exact Nat.min_le_left _ _
 rw[this,h];congr 1;rw[dK (by omega),CQ,A9 b];simp
end
theorem nO{α:Type}{c:Int->Bool}{f:Int->Int}{p:Int->Prop}(a b:List α)(d:α)(g:Nat->Bool)(x:a.length=b.length)(s:∀i,i<a.length->(g i=false↔a.getD i d=b.getD i d))(t:(a.length:Int)<=9223372036854775806)(z:∀i:Nat,i<=a.length->c i=(decide (i<a.length)&&!g i))(y:∀i:Nat,i<a.length->f i=V' .i64 i 1)(hp:∀i:Nat,i<=a.length->p i):Z_ c f p 0/\(Al c f 0<(a.length:Int)↔a≠b):=by
 obtain⟨h1,C⟩:=j7 a.length g t z y hp;refine⟨h1,?_⟩;rw[C];have u:=Jw g a.length 0;constructor
 ·intro h n;subst n;have:=PJ g a.length 0 (by omega);rw[(s _ (by omega)).2 rfl]at this;cases this
 intro h;rcases Bx (C0 g a.length 0) a.length with A|A
 ·omega
 exfalso;apply h;have q:C0 g a.length 0=a.length:=by omega
 rw[PI]at q;refine XX x λi hi j=>?_;have:=(s i hi).1 (q i hi);rw[CQ,CQ,A9 hi,A9 j]at this;simpa using this
theorem Xx{c:Int->Bool}{f:Int->Int}(n:Nat)(t:Nat->Bool)(b:(n:Int)<=9223372036854775806)(j:∀i:Nat,i<=n->c i=(decide (i<n)&&!t i))(g:∀i:Nat,i<n->f i=V' .i64 i 1):Al c f 0=(C0 t n 0:Nat):=(j7 (p:=λ_=>True) n t b j g (λ_ _=>trivial)).2
theorem Ox{α:Type}{c:Int->Bool}{f:Int->Int}{p:Int->Prop}(a b:List α)(d:α)(g:Nat->Bool)(n:a.length=b.length)(t:∀i,i<a.length->(g i=false↔a.getD i d=b.getD i d))(j:(a.length:Int)<=9223372036854775806)(s:∀i:Nat,i<=a.length->c i=(decide (i<a.length)&&!g i))(q:∀i:Nat,i<a.length->f i=V' .i64 i 1)(hp:∀i:Nat,i<=a.length->p i):Z_ c f p 0:=(nO a b d g n t j s q hp).1
theorem OE{α:Type}{c:Int->Bool}{f:Int->Int}(a b:List α)(d:α)(g:Nat->Bool)(n:a.length=b.length)(t:∀i,i<a.length->(g i=false↔a.getD i d=b.getD i d))(j:(a.length:Int)<=9223372036854775806)(s:∀i:Nat,i<=a.length->c i=(decide (i<a.length)&&!g i))(q:∀i:Nat,i<a.length->f i=V' .i64 i 1):Al c f 0<(a.length:Int)↔a≠b:=(nO (p:=λ_=>True) a b d g n t j s q (λ_ _=>trivial)).2
theorem jH {α:Type} {c:List α×Int->Bool} {f:List α×Int->List α×Int} {p:List α×Int->Prop} (x:List α) (z d:α) (C:x.length<=1048576)
 (s:∀st,c st=c_ st.2 (U_ x)) (u:∀(l:List α) (i:Nat),i<x.length->f (l,(i:Int))=(l.set i (x.getD i d),V' .i64 i 1))
 (hp:∀(l:List α) (i:Nat),l.length=x.length->i<=x.length->p (l,i)):
 Z_ c f p (lRep (U_ x) z,0)/\(Al c f (lRep (U_ x) z,0)).1=x:=by
 have h:=Mu (c:=c) (f:=f) (p:=p) (λst=>st.1.length=x.length/\∃i:Nat,st.2=i/\i<=x.length/\st.1.take i=x.take i) (λst=>x.length-st.2.toNat) (λst y=>?_) (x0:=(lRep (U_ x) z,0)) ⟨by simp[cx,Ak],0,rfl,EE _,by simp⟩
 ·obtain⟨h1,⟨b,i,q,t,n⟩,A⟩:=h;refine⟨h1,?_⟩;rw[s,q,Am,Ak,Bm]at A;have:i=x.length:=(by omega);subst this;rw[FQ,<- b,FQ]at n;exact n
 obtain⟨l,j⟩:=st;obtain⟨b,i,q,t,n⟩:=y;simp only at b q n;subst q;refine⟨hp l i b t,λg=>?_⟩;rw[s,Am,Ak,Av]at g;simp only at g;have hi:i<x.length:=by omega
 rw[u l i hi];simp only[AG];rw[Cp (by unfold Br;omega)];refine⟨⟨by simp[b],i+1,by omega,by omega,Zgc x i hi d l b n⟩,by omega⟩
theorem Sv {α:Type} {c:List α×Int->Bool} {f:List α×Int->List α×Int} {p:List α×Int->Prop} (x:List α) (z d:α) (b:x.length<=1048576)
 (j:∀st,c st=c_ st.2 (U_ x)) (g:∀(l:List α) (i:Nat),i<x.length->f (l,(i:Int))=(l.set i (x.getD i d),V' .i64 i 1))
 (hp:∀(l:List α) (i:Nat),l.length=x.length->i<=x.length->p (l,i)):Z_ c f p (lRep (U_ x) z,0):=(jH x z d b j g hp).1
theorem SM {α:Type} {c:List α×Int->Bool} {f:List α×Int->List α×Int} (x:List α) (z d:α) (b:x.length<=1048576)
 (j:∀st,c st=c_ st.2 (U_ x)) (g:∀(l:List α) (i:Nat),i<x.length->f (l,(i:Int))=(l.set i (x.getD i d),V' .i64 i 1)):(Al c f (lRep (U_ x) z,0)).1=x:=(jH (p:=λ_=>True) x z d b j g (λ_ _ _ _=>trivial)).2
theorem B5{α:Type}(x:List α)(i:Nat)(d:α)(h:i<x.length):x.getD i d∈x:=by
 rw[CQ,A9 h];exact E3 h
theorem Sz{n:Int}{w:Nat}(h0:0<=n)(h:n<=1048576)(b:w<=1000):AD (n.toNat*w):=by
 show n.toNat*w<=2^40;have h1:n.toNat<=1048576:=by omega
 have:=Nat.mul_le_mul h1 b;omega
theorem nI {α:Type} {c:Int×Int->Bool} {f:Int×Int->Int×Int} {p:Int×Int->Prop} (x:List α) (d:α) (S:α->Prop) (g:α->Int->Int) (l0:Int) (h0:0<=l0) (h1:l0<=1048576) (M:x.length<=1048576)
 (D:∀i,i<x.length->∀l,0<=l->l<=1048576->g (x.getD i d) l<0\/(0<=g (x.getD i d) l/\g (x.getD i d) l<=l/\S (x.getD i d)))
 (G:∀(l:Int) (i:Nat),i<=x.length->c (l,(i:Int))=(decide (i<x.length)&&!decide (g (x.getD i d) l<0))) (F:∀(l:Int) (i:Nat),i<x.length->f (l,(i:Int))=(g (x.getD i d) l,V' .i64 i 1))
 (hp:∀(l:Int) (i:Nat),0<=l->l<=1048576->i<=x.length->p (l,i)):
 Z_ c f p (l0,0)/\((Al c f (l0,0)).2<(x.length:Int)\/(¬(Al c f (l0,0)).2<(x.length:Int)/\0<=(Al c f (l0,0)).1/\(Al c f (l0,0)).1<=l0/\∀a∈x,S a)):=by
 have h:=Mu (c:=c) (f:=f) (p:=p) (λst=>0<=st.1/\st.1<=l0/\∃i:Nat,st.2=i/\i<=x.length/\∀j,j<i->S (x.getD j d)) (λst=>x.length-st.2.toNat) (λst J=>?_) (x0:=(l0,0)) ⟨h0,Int.le_refl _,0,rfl,EE _,λj z=>by omega⟩
 ·obtain⟨n,⟨u,t,i,s,A,C⟩,L⟩:=h;refine⟨n,?_⟩;rw[s];rcases Bx i x.length with hi|hi
  ·left;omega
  right;refine⟨by omega,u,t,λa I=>?_⟩;obtain⟨j,z,rfl⟩:=IW I;have:=C j (by omega);rw[CQ,A9 z]at this;exact this
 obtain⟨l,j⟩:=st;obtain⟨n,u,i,t,s,A⟩:=J;simp only at n u t;subst t;refine⟨hp l i n (by omega) s,λb=>?_⟩;rw[G l i s]at b;simp only[Ai,Av,Bq,Bm]at b;obtain⟨hi,b⟩:=b;have q:=(D i hi l n (by omega)).resolve_left b;rw[F l i hi];simp only[AG];rw[Cp (by unfold Br;omega)];refine⟨⟨q.1,by omega,i+1,by omega,by omega,λj z=>?_⟩,by omega⟩;by_cases y:j=i
 ·subst y;exact q.2.2
 exact A j (by omega)
theorem pB {α:Type} {c:Int×Int->Bool} {f:Int×Int->Int×Int} {p:Int×Int->Prop} (x:List α) (d:α) (S:α->Prop) (g:α->Int->Int) (l0:Int) (h0:0<=l0) (h1:l0<=1048576) (b:x.length<=1048576)
 (j:∀i,i<x.length->∀l,0<=l->l<=1048576->g (x.getD i d) l<0\/(0<=g (x.getD i d) l/\g (x.getD i d) l<=l/\S (x.getD i d)))
 (q:∀(l:Int) (i:Nat),i<=x.length->c (l,(i:Int))=(decide (i<x.length)&&!decide (g (x.getD i d) l<0))) (n:∀(l:Int) (i:Nat),i<x.length->f (l,(i:Int))=(g (x.getD i d) l,V' .i64 i 1))
 (hp:∀(l:Int) (i:Nat),0<=l->l<=1048576->i<=x.length->p (l,i)):Z_ c f p (l0,0):=(nI x d S g l0 h0 h1 b j q n hp).1
theorem p9 {α:Type} {c:Int×Int->Bool} {f:Int×Int->Int×Int} (x:List α) (d:α) (S:α->Prop) (g:α->Int->Int) (l0:Int) (h0:0<=l0) (h1:l0<=1048576) (b:x.length<=1048576)
 (j:∀i,i<x.length->∀l,0<=l->l<=1048576->g (x.getD i d) l<0\/(0<=g (x.getD i d) l/\g (x.getD i d) l<=l/\S (x.getD i d)))
 (q:∀(l:Int) (i:Nat),i<=x.length->c (l,(i:Int))=(decide (i<x.length)&&!decide (g (x.getD i d) l<0))) (n:∀(l:Int) (i:Nat),i<x.length->f (l,(i:Int))=(g (x.getD i d) l,V' .i64 i 1)):
 (Al c f (l0,0)).2<(x.length:Int)\/(¬(Al c f (l0,0)).2<(x.length:Int)/\0<=(Al c f (l0,0)).1/\(Al c f (l0,0)).1<=l0/\∀a∈x,S a):=(nI (p:=λ_=>True) x d S g l0 h0 h1 b j q n (λ_ _ _ _ _=>trivial)).2
theorem oE{α:Type}{x:List α}{y:Int×Int}{l0 l:Int}{S:α->Prop}(h:l0<=l)(b:y.2<(x.length:Int)\/(¬y.2<(x.length:Int)/\0<=y.1/\y.1<=l0/\∀a∈x,S a)):Y_ (c_ y.2 (U_ x)) (-1) y.1<0\/(0<=Y_ (c_ y.2 (U_ x)) (-1) y.1/\Y_ (c_ y.2 (U_ x)) (-1) y.1<=l/\∀a∈x,S a):=by
 rw[Am,Ak];rcases b with b|⟨b,i,j,g⟩
 ·rw[Gj b,CL];left;omega
 rw[Dl b,CH];right;exact⟨i,by omega,g⟩
theorem JI{X:Type}{c:X->Bool}{f:X->X}{p:X->Prop}(b:X->Int)(n:Int)(u:n<=9223372036854775806)(q:∀x,0<=b x->b x<=n->c x=true->b x<n)(j:∀x,b (f x)=V' .i64 (b x) 1)(hp:∀x,0<=b x->b x<=n->p x){x0:X}(h0:0<=b x0)(h1:b x0<=n):Z_ c f p x0:=by
 refine(Mu (λx=>0<=b x/\b x<=n) (λx=>(n-b x).toNat) (λx g=>⟨hp x g.1 g.2,λi=>?_⟩) ⟨h0,h1⟩).1;have:=q x g.1 g.2 i;obtain⟨t,s⟩:=g;have e:=j x;rw[Cp (by unfold Br;omega)]at e;refine⟨by omega,by omega⟩
theorem mD{c:Int->Bool}{f:Int->Int}{n:Nat}(h:¬Al c f 0<(n:Int))(g:(n:Int)<=9223372036854775806)(s:∀i:Nat,i<=n->c i=true->i<n)(q:∀i:Nat,i<n->f i=V' .i64 i 1):∀i:Nat,i<n->c i=true:=by
 have b:=Xx (c:=c) (f:=f) n (λi=>!c i) g (λi hi=>by
  by_cases h1:i<n
  ·simp[h1]
  cases t:c i with
  |false=>simp[h1]
  |true=>exact absurd (s i hi t) h1) q
 rw[b]at h;have j:=Jw (λi=>!c i) n 0;have e:C0 (λi=>!c i) n 0=n:=by omega
 intro i hi;have:=PI.1 e i hi;simpa using this
def NJ(_:Int×Int×Int×Int):Prop:=True
def Wt(_:Int×Int×Int×Int):Prop:=True
theorem kc(a b:Cw)(h:NJ a):Pg (a,b)/\(Jp (a,b)=true↔a=b):=by
 obtain⟨u,t,s,q⟩:=a;obtain⟨n,j,i,g⟩:=b;rw[wK,vC];refine⟨by simp,?_⟩;simp only[Aw,Az,EF,Bj,Ai,I7,Av,An,A7];try (constructor<;>intro h<;>simp_all)
def N3(x:Dc):Prop:=NJ (x.2.1,x.2.2.1,x.2.2.2.1,x.2.2.2.2)/\True
def nA(x:Dc):Prop:=Wt (x.2.1,x.2.2.1,x.2.2.2.1,x.2.2.2.2)/\True
def Lm(x:Bg):Prop:=x.length<=1048576/\∀a∈x,N3 a
def lk(x:Bg):Prop:=x.length<=9223372036854775807/\∀a∈x,nA a
theorem Zgx(x:Bg)(b:lk x)(l:Int)(h0:0<=l)(h1:l<=1048576):Vo (x,l)/\(Mf (x,l)<0\/(0<=Mf (x,l)/\Mf (x,l)<=l/\Lm x)):=by
 rw[xk,xo];have g:x.length<=9223372036854775807:=b.1;have hs:iSub .i64 l (U_ x)=l-x.length:=by rw[Ak];exact Fl (by unfold Br;omega)
 refine⟨trivial,?_⟩;simp only[hs,Am,BN,Av];split
 ·left;omega
 right;exact⟨by omega,by omega,⟨by omega,λa _=>by simp[N3,NJ]⟩⟩
theorem kh(x:Cw)(h:NJ x):Pd x/\Ff x=x:=by
 rw[wT,wI];exact⟨trivial,rfl⟩
theorem Zhu(x:Dc)(h:N3 x):Rz x/\F8 x=x:=by
 rw[zh,yY];have b:=kh (x.2.1,x.2.2.1,x.2.2.2.1,x.2.2.2.2) (by unfold N3 at h;exact h.1);refine⟨b.1,?_⟩;simp only[b.2]
theorem Zfo(x:Bg)(h:Lm x):Vq x/\VH x=x:=by
 rw[yq,yr];obtain⟨h1,g⟩:=h;have b:∀i:Nat,i<x.length->Rz ((x.getD i (0,0,0,0,0)).1,(x.getD i (0,0,0,0,0)).2.1,(x.getD i (0,0,0,0,0)).2.2.1,(x.getD i (0,0,0,0,0)).2.2.2.1,(x.getD i (0,0,0,0,0)).2.2.2.2)/\F8 ((x.getD i (0,0,0,0,0)).1,(x.getD i (0,0,0,0,0)).2.1,(x.getD i (0,0,0,0,0)).2.2.1,(x.getD i (0,0,0,0,0)).2.2.2.1,(x.getD i (0,0,0,0,0)).2.2.2.2)=x.getD i (0,0,0,0,0):=λi hi=>Zhu _ (g _ (B5 x i (0,0,0,0,0) hi));refine⟨⟨⟨by rw[Ak];omega,Sz (by rw[Ak];omega) (by rw[Ak];omega) (by omega)⟩,Sv x (0,0,0,0,0) (0,0,0,0,0) h1 (λ_=>rfl) (λl i hi=>by simp only[Hx,AJ,Ax,AG];rw[(b i hi).2]) (λl i j hi=>?_)⟩,SM x (0,0,0,0,0) (0,0,0,0,0) h1 (λ_=>rfl) (λl i hi=>by simp only[Hx,AJ,Ax,AG];rw[(b i hi).2])⟩;simp only[Am,Ak,Ax,AJ,Av,AG];exact⟨λn=>⟨by omega,by omega,(b i (by omega)).1,by omega,by omega⟩,λ_=>trivial⟩
theorem Zhp(a b:Dc)(h:N3 a):RB (a,b)/\(K9 (a,b)=true↔a=b):=by
 obtain⟨z,x,u,t,s⟩:=a;obtain⟨y,q,n,j,i⟩:=b;have g:=kc (x,u,t,s) (q,n,j,i) (by unfold N3 at h;exact h.1);rw[yI,zf];refine⟨by simp[g.1,g.2],?_⟩;simp only[g.1,g.2,Aw,Az,EF,Bj,Ai,I7,Av,An,A7];try (constructor<;>intro h<;>simp_all)
theorem Zfs(a b:Bg)(h:Lm a):Vl (a,b)/\(Vs (a,b)=true↔a=b):=by
 rw[yb,xj];obtain⟨h1,s⟩:=h;have n:∀i:Nat,i<a.length->RB (((So a i (0,0,0,0,0)).1,(So a i (0,0,0,0,0)).2.1,(So a i (0,0,0,0,0)).2.2.1,(So a i (0,0,0,0,0)).2.2.2.1,(So a i (0,0,0,0,0)).2.2.2.2),((So b i (0,0,0,0,0)).1,(So b i (0,0,0,0,0)).2.1,(So b i (0,0,0,0,0)).2.2.1,(So b i (0,0,0,0,0)).2.2.2.1,(So b i (0,0,0,0,0)).2.2.2.2))/\(K9 (((So a i (0,0,0,0,0)).1,(So a i (0,0,0,0,0)).2.1,(So a i (0,0,0,0,0)).2.2.1,(So a i (0,0,0,0,0)).2.2.2.1,(So a i (0,0,0,0,0)).2.2.2.2),((So b i (0,0,0,0,0)).1,(So b i (0,0,0,0,0)).2.1,(So b i (0,0,0,0,0)).2.2.1,(So b i (0,0,0,0,0)).2.2.2.1,(So b i (0,0,0,0,0)).2.2.2.2))=true↔a.getD i (0,0,0,0,0)=b.getD i (0,0,0,0,0)):=λi hi=>by
  have:=Zhp (a.getD i (0,0,0,0,0)) (b.getD i (0,0,0,0,0)) (s _ (B5 a i (0,0,0,0,0) hi));rw[AJ,AJ];exact this
 by_cases j:a.length=b.length
 ·refine⟨⟨λ_=>trivial,λ_=>Ox a b (0,0,0,0,0) (λi=>U' (K9 (((So a i (0,0,0,0,0)).1,(So a i (0,0,0,0,0)).2.1,(So a i (0,0,0,0,0)).2.2.1,(So a i (0,0,0,0,0)).2.2.2.1,(So a i (0,0,0,0,0)).2.2.2.2),((So b i (0,0,0,0,0)).1,(So b i (0,0,0,0,0)).2.1,(So b i (0,0,0,0,0)).2.2.1,(So b i (0,0,0,0,0)).2.2.2.1,(So b i (0,0,0,0,0)).2.2.2.2)))) j (λi hi=>by simp only[Aw,BZ,(n i hi).2]) (by omega) (λi hi=>by simp only[Az,Am,Ak,Ax,Aw,AG,CM]) (λi hi=>rfl) (λi hi=>?_)⟩,?_⟩
  ·simp only[Am,Ak,Ax,Av,AG];exact⟨λt=>⟨by omega,by omega,by omega,by omega,(n i (by omega)).1⟩,λ_=>trivial⟩
  have q:=OE (c:=λi:Int=>W_ (c_ i (U_ a)) (U' ((λi=>U' (K9 (((So a i (0,0,0,0,0)).1,(So a i (0,0,0,0,0)).2.1,(So a i (0,0,0,0,0)).2.2.1,(So a i (0,0,0,0,0)).2.2.2.1,(So a i (0,0,0,0,0)).2.2.2.2),((So b i (0,0,0,0,0)).1,(So b i (0,0,0,0,0)).2.1,(So b i (0,0,0,0,0)).2.2.1,(So b i (0,0,0,0,0)).2.2.2.1,(So b i (0,0,0,0,0)).2.2.2.2)))) i.toNat))) (f:=λi=>V' .i64 i 1) a b (0,0,0,0,0) (λi=>U' (K9 (((So a i (0,0,0,0,0)).1,(So a i (0,0,0,0,0)).2.1,(So a i (0,0,0,0,0)).2.2.1,(So a i (0,0,0,0,0)).2.2.2.1,(So a i (0,0,0,0,0)).2.2.2.2),((So b i (0,0,0,0,0)).1,(So b i (0,0,0,0,0)).2.1,(So b i (0,0,0,0,0)).2.2.1,(So b i (0,0,0,0,0)).2.2.2.1,(So b i (0,0,0,0,0)).2.2.2.2)))) j (λi hi=>by simp only[Aw,BZ,(n i hi).2]) (by omega) (λi hi=>by simp only[Az,Am,Ak,Aw,AG,CM]) (λi hi=>rfl);have g:U' (i_ (U_ a) (U_ b))=true:=(by rw[Aw,Bj,Ak,Ak,j];simp);rw[g,Az true,HG,Aw (c_ _ (U_ a)),Am _ (U_ a)];simp only[<- Ax,Ak]at q ⊢;simp only[Bq,Bm];rw[q];simp
 have g:U' (i_ (U_ a) (U_ b))=false:=by rw[Aw,Bj,Ak,Ak];simp;omega
 refine⟨⟨λ_=>trivial,λh=>?_⟩,?_⟩
 ·rw[Aw]at g;rw[h]at g;cases g
 rw[g,Az,LP];constructor
 ·intro h;cases h
 intro e;subst e;exact absurd rfl j
def Mn(x:Dp):Prop:=x.length<=1048576/\∀a∈x,NJ a
def jy(x:Dp):Prop:=x.length<=9223372036854775807/\∀a∈x,Wt a
theorem Zcw(x:Dp)(b:jy x)(l:Int)(h0:0<=l)(h1:l<=1048576):Q8 (x,l)/\(Ew (x,l)<0\/(0<=Ew (x,l)/\Ew (x,l)<=l/\Mn x)):=by
 rw[tv,tD];have g:x.length<=9223372036854775807:=b.1;have hs:iSub .i64 l (U_ x)=l-x.length:=by rw[Ak];exact Fl (by unfold Br;omega)
 refine⟨trivial,?_⟩;simp only[hs,Am,BN,Av];split
 ·left;omega
 right;exact⟨by omega,by omega,⟨by omega,λa _=>by simp[NJ]⟩⟩
def Mi(x:Cv):Prop:=x.length<=1048576/\∀a∈x,Mn a
def jk(x:Cv):Prop:=x.length<=9223372036854775807/\∀a∈x,jy a
theorem ZbX(x:Cv)(t:jk x)(l:Int)(h0:0<=l)(h1:l<=1048576):Uj (x,l)/\(L9 (x,l)<0\/(0<=L9 (x,l)/\L9 (x,l)<=l/\Mi x)):=by
 rw[sg,sr];obtain⟨C,n⟩:=t;have hs:iSub .i64 l (U_ x)=l-x.length:=by rw[Ak];exact Fl (by unfold Br;omega)
 simp only[hs];by_cases b:l-(x.length:Int)<0
 ·have s:c_ (l-(x.length:Int)) 0=true:=(by rw[Am];simpa using b);rw[s];exact⟨⟨λ_=>trivial,λh=>(by cases h)⟩,by rw[CL];left;omega⟩
 have s:c_ (l-(x.length:Int)) 0=false:=by rw[Am];simpa using b
 rw[s];have q:∀i:Nat,i<x.length->∀m:Int,0<=m->m<=1048576->Q8 (x.getD i [],m)/\(Ew (x.getD i [],m)<0\/(0<=Ew (x.getD i [],m)/\Ew (x.getD i [],m)<=m/\Mn (x.getD i []))):=λi hi m j g=>Zcw _ (n _ (B5 x i [] hi)) m j g;refine⟨⟨λh=>(by cases h),λ_=>pB x [] Mn (λa m=>Ew (a,m)) (l-(x.length:Int)) (by omega) (by omega) (by omega) (λi hi m j g=>(q i hi m j g).2) (λm i hi=>by simp only[Az,Am,Ak,Ax,AJ,Aw,AG,CM]) (λm i hi=>by simp only[Ax,AJ,AG]) (λm i j g hi=>?_)⟩,?_⟩
 ·simp only[Am,Ak,Ax,AJ,Av,AG];exact⟨λD=>⟨by omega,by omega,(q i (by omega) m j g).1⟩,λ_=>trivial⟩
 rw[CH];have u:=p9 (c:=λst:Int×Int=>W_ (c_ st.2 (U_ x)) (U' (c_ (Ew ((So x (R_ st.2) []),st.1)) 0))) (f:=λst=>(Ew ((So x (R_ st.2) []),st.1),V' .i64 st.2 1)) x [] Mn (λa m=>Ew (a,m)) (l-(x.length:Int)) (by omega) (by omega) (by omega) (λi hi m j g=>(q i hi m j g).2) (λm i hi=>by simp only[Az,Am,Ak,Ax,AJ,Aw,AG,CM]) (λm i hi=>by simp only[Ax,AJ,AG]);rcases oE (l:=l) (by omega) u with h|⟨A,z,y⟩
 ·exact .inl h
 exact .inr ⟨A,z,(by omega),y⟩
def Ej(x:B1):Prop:=Mi x.2/\True
def WC(x:B1):Prop:=jk x.2/\True
theorem ZdX(x:B1)(i:WC x)(l:Int)(h0:0<=l)(h1:l<=1048576):U7 (x,l)/\(Fh (x,l)<0\/(0<=Fh (x,l)/\Fh (x,l)<=l/\Ej x)):=by
 rw[uV,vE];have u:=i;unfold WC at i;obtain⟨n,b⟩:=ZbX x.2 i.1 l (by omega) (by omega);generalize s:L9 (x.2,l)=z0 at b ⊢;rcases b with b|⟨b,t,g⟩
 ·have q:c_ z0 0=true:=(by rw[Am];simpa using b);refine⟨?_,?_⟩
  ·simp[n,q]
  simp only[q,CL];left;omega
 have j:c_ z0 0=false:=by rw[Am];simpa using b
 simp only[j,CH];exact⟨by simp[n],.inr ⟨by omega,by omega,g,trivial⟩⟩
theorem Zdi(x:Dp)(h:Mn x):Q2 x/\Pk x=x:=by
 rw[uc,ud];obtain⟨h1,g⟩:=h;have b:∀i:Nat,i<x.length->Pd ((x.getD i (0,0,0,0)).1,(x.getD i (0,0,0,0)).2.1,(x.getD i (0,0,0,0)).2.2.1,(x.getD i (0,0,0,0)).2.2.2)/\Ff ((x.getD i (0,0,0,0)).1,(x.getD i (0,0,0,0)).2.1,(x.getD i (0,0,0,0)).2.2.1,(x.getD i (0,0,0,0)).2.2.2)=x.getD i (0,0,0,0):=λi hi=>kh _ (g _ (B5 x i (0,0,0,0) hi));refine⟨⟨⟨by rw[Ak];omega,Sz (by rw[Ak];omega) (by rw[Ak];omega) (by omega)⟩,Sv x (0,0,0,0) (0,0,0,0) h1 (λ_=>rfl) (λl i hi=>by simp only[Hx,AJ,Ax,AG];rw[(b i hi).2]) (λl i j hi=>?_)⟩,SM x (0,0,0,0) (0,0,0,0) h1 (λ_=>rfl) (λl i hi=>by simp only[Hx,AJ,Ax,AG];rw[(b i hi).2])⟩;simp only[Am,Ak,Ax,AJ,Av,AG];exact⟨λn=>⟨by omega,by omega,(b i (by omega)).1,by omega,by omega⟩,λ_=>trivial⟩
theorem Zb2(x:Cv)(h:Mi x):Uh x/\UG x=x:=by
 rw[rX,rT];obtain⟨h1,g⟩:=h;have b:∀i:Nat,i<x.length->Q2 (x.getD i [])/\Pk (x.getD i [])=x.getD i []:=λi hi=>Zdi _ (g _ (B5 x i [] hi));refine⟨⟨⟨by rw[Ak];omega,Sz (by rw[Ak];omega) (by rw[Ak];omega) (by omega)⟩,Sv x [] [] h1 (λ_=>rfl) (λl i hi=>by simp only[Hx,AJ,Ax,AG];rw[(b i hi).2]) (λl i j hi=>?_)⟩,SM x [] [] h1 (λ_=>rfl) (λl i hi=>by simp only[Hx,AJ,Ax,AG];rw[(b i hi).2])⟩;simp only[Am,Ak,Ax,AJ,Av,AG];exact⟨λn=>⟨by omega,by omega,(b i (by omega)).1,by omega,by omega⟩,λ_=>trivial⟩
theorem ZeT(x:B1)(h:Ej x):Vc x/\Rl x=x:=by
 rw[wx,uF];have b:=Zb2 x.2 (by unfold Ej at h;exact h.1);refine⟨b.1,?_⟩;simp only[b.2]
theorem Zc1(a b:Dp)(h:Mn a):Q6 (a,b)/\(Ku (a,b)=true↔a=b):=by
 rw[tE,tH];obtain⟨h1,s⟩:=h;have n:∀i:Nat,i<a.length->Pg (((So a i (0,0,0,0)).1,(So a i (0,0,0,0)).2.1,(So a i (0,0,0,0)).2.2.1,(So a i (0,0,0,0)).2.2.2),((So b i (0,0,0,0)).1,(So b i (0,0,0,0)).2.1,(So b i (0,0,0,0)).2.2.1,(So b i (0,0,0,0)).2.2.2))/\(Jp (((So a i (0,0,0,0)).1,(So a i (0,0,0,0)).2.1,(So a i (0,0,0,0)).2.2.1,(So a i (0,0,0,0)).2.2.2),((So b i (0,0,0,0)).1,(So b i (0,0,0,0)).2.1,(So b i (0,0,0,0)).2.2.1,(So b i (0,0,0,0)).2.2.2))=true↔a.getD i (0,0,0,0)=b.getD i (0,0,0,0)):=λi hi=>by
  have:=kc (a.getD i (0,0,0,0)) (b.getD i (0,0,0,0)) (s _ (B5 a i (0,0,0,0) hi));rw[AJ,AJ];exact this
 by_cases j:a.length=b.length
 ·refine⟨⟨λ_=>trivial,λ_=>Ox a b (0,0,0,0) (λi=>U' (Jp (((So a i (0,0,0,0)).1,(So a i (0,0,0,0)).2.1,(So a i (0,0,0,0)).2.2.1,(So a i (0,0,0,0)).2.2.2),((So b i (0,0,0,0)).1,(So b i (0,0,0,0)).2.1,(So b i (0,0,0,0)).2.2.1,(So b i (0,0,0,0)).2.2.2)))) j (λi hi=>by simp only[Aw,BZ,(n i hi).2]) (by omega) (λi hi=>by simp only[Az,Am,Ak,Ax,Aw,AG,CM]) (λi hi=>rfl) (λi hi=>?_)⟩,?_⟩
  ·simp only[Am,Ak,Ax,Av,AG];exact⟨λt=>⟨by omega,by omega,by omega,by omega,(n i (by omega)).1⟩,λ_=>trivial⟩
  have q:=OE (c:=λi:Int=>W_ (c_ i (U_ a)) (U' ((λi=>U' (Jp (((So a i (0,0,0,0)).1,(So a i (0,0,0,0)).2.1,(So a i (0,0,0,0)).2.2.1,(So a i (0,0,0,0)).2.2.2),((So b i (0,0,0,0)).1,(So b i (0,0,0,0)).2.1,(So b i (0,0,0,0)).2.2.1,(So b i (0,0,0,0)).2.2.2)))) i.toNat))) (f:=λi=>V' .i64 i 1) a b (0,0,0,0) (λi=>U' (Jp (((So a i (0,0,0,0)).1,(So a i (0,0,0,0)).2.1,(So a i (0,0,0,0)).2.2.1,(So a i (0,0,0,0)).2.2.2),((So b i (0,0,0,0)).1,(So b i (0,0,0,0)).2.1,(So b i (0,0,0,0)).2.2.1,(So b i (0,0,0,0)).2.2.2)))) j (λi hi=>by simp only[Aw,BZ,(n i hi).2]) (by omega) (λi hi=>by simp only[Az,Am,Ak,Aw,AG,CM]) (λi hi=>rfl);have g:U' (i_ (U_ a) (U_ b))=true:=(by rw[Aw,Bj,Ak,Ak,j];simp);rw[g,Az true,HG,Aw (c_ _ (U_ a)),Am _ (U_ a)];simp only[<- Ax,Ak]at q ⊢;simp only[Bq,Bm];rw[q];simp
 have g:U' (i_ (U_ a) (U_ b))=false:=by rw[Aw,Bj,Ak,Ak];simp;omega
 refine⟨⟨λ_=>trivial,λh=>?_⟩,?_⟩
 ·rw[Aw]at g;rw[h]at g;cases g
 rw[g,Az,LP];constructor
 ·intro h;cases h
 intro e;subst e;exact absurd rfl j
theorem Zb9(a b:Cv)(h:Mi a):Uf (a,b)/\(Uz (a,b)=true↔a=b):=by
 rw[rN,sy];obtain⟨h1,s⟩:=h;have n:∀i:Nat,i<a.length->Q6 ((So a i []),(So b i []))/\(Ku ((So a i []),(So b i []))=true↔a.getD i []=b.getD i []):=λi hi=>by
  have:=Zc1 (a.getD i []) (b.getD i []) (s _ (B5 a i [] hi));rw[AJ,AJ];exact this
 by_cases j:a.length=b.length
 ·refine⟨⟨λ_=>trivial,λ_=>Ox a b [] (λi=>U' (Ku ((So a i []),(So b i [])))) j (λi hi=>by simp only[Aw,BZ,(n i hi).2]) (by omega) (λi hi=>by simp only[Az,Am,Ak,Ax,Aw,AG,CM]) (λi hi=>rfl) (λi hi=>?_)⟩,?_⟩
  ·simp only[Am,Ak,Ax,Av,AG];exact⟨λt=>⟨by omega,by omega,by omega,by omega,(n i (by omega)).1⟩,λ_=>trivial⟩
  have q:=OE (c:=λi:Int=>W_ (c_ i (U_ a)) (U' ((λi=>U' (Ku ((So a i []),(So b i [])))) i.toNat))) (f:=λi=>V' .i64 i 1) a b [] (λi=>U' (Ku ((So a i []),(So b i [])))) j (λi hi=>by simp only[Aw,BZ,(n i hi).2]) (by omega) (λi hi=>by simp only[Az,Am,Ak,Aw,AG,CM]) (λi hi=>rfl);have g:U' (i_ (U_ a) (U_ b))=true:=(by rw[Aw,Bj,Ak,Ak,j];simp);rw[g,Az true,HG,Aw (c_ _ (U_ a)),Am _ (U_ a)];simp only[<- Ax,Ak]at q ⊢;simp only[Bq,Bm];rw[q];simp
 have g:U' (i_ (U_ a) (U_ b))=false:=by rw[Aw,Bj,Ak,Ak];simp;omega
 refine⟨⟨λ_=>trivial,λh=>?_⟩,?_⟩
 ·rw[Aw]at g;rw[h]at g;cases g
 rw[g,Az,LP];constructor
 ·intro h;cases h
 intro e;subst e;exact absurd rfl j
theorem Zd3(a b:B1)(h:Ej a):UM (a,b)/\(Pt (a,b)=true↔a=b):=by
 obtain⟨q,j⟩:=a;obtain⟨n,i⟩:=b;have g:=Zb9 j i (by unfold Ej at h;exact h.1);rw[wA,vB];refine⟨by simp[g.1,g.2],?_⟩;simp only[g.1,g.2,Aw,Az,EF,Bj,Ai,I7,Av,An,A7];try (constructor<;>intro h<;>simp_all)
def Xe(_:Int×Int×Int):Prop:=True
def nN(_:Int×Int×Int):Prop:=True
def My(x:Cj):Prop:=x.length<=1048576/\∀a∈x,Xe a
def lL(x:Cj):Prop:=x.length<=9223372036854775807/\∀a∈x,nN a
theorem ZfP(x:Cj)(b:lL x)(l:Int)(h0:0<=l)(h1:l<=1048576):Rt (x,l)/\(Ez (x,l)<0\/(0<=Ez (x,l)/\Ez (x,l)<=l/\My x)):=by
 rw[xy,xf];have g:x.length<=9223372036854775807:=b.1;have hs:iSub .i64 l (U_ x)=l-x.length:=by rw[Ak];exact Fl (by unfold Br;omega)
 refine⟨trivial,?_⟩;simp only[hs,Am,BN,Av];split
 ·left;omega
 right;exact⟨by omega,by omega,⟨by omega,λa _=>by simp[Xe]⟩⟩
def JA(x:CA):Prop:=x.length<=1048576/\∀a∈x,My a
def aG(x:CA):Prop:=x.length<=9223372036854775807/\∀a∈x,lL a
theorem Zej(x:CA)(t:aG x)(l:Int)(h0:0<=l)(h1:l<=1048576):UW (x,l)/\(Hr (x,l)<0\/(0<=Hr (x,l)/\Hr (x,l)<=l/\JA x)):=by
 rw[wu,wZ];obtain⟨C,n⟩:=t;have hs:iSub .i64 l (U_ x)=l-x.length:=by rw[Ak];exact Fl (by unfold Br;omega)
 simp only[hs];by_cases b:l-(x.length:Int)<0
 ·have s:c_ (l-(x.length:Int)) 0=true:=(by rw[Am];simpa using b);rw[s];exact⟨⟨λ_=>trivial,λh=>(by cases h)⟩,by rw[CL];left;omega⟩
 have s:c_ (l-(x.length:Int)) 0=false:=by rw[Am];simpa using b
 rw[s];have q:∀i:Nat,i<x.length->∀m:Int,0<=m->m<=1048576->Rt (x.getD i [],m)/\(Ez (x.getD i [],m)<0\/(0<=Ez (x.getD i [],m)/\Ez (x.getD i [],m)<=m/\My (x.getD i []))):=λi hi m j g=>ZfP _ (n _ (B5 x i [] hi)) m j g;refine⟨⟨λh=>(by cases h),λ_=>pB x [] My (λa m=>Ez (a,m)) (l-(x.length:Int)) (by omega) (by omega) (by omega) (λi hi m j g=>(q i hi m j g).2) (λm i hi=>by simp only[Az,Am,Ak,Ax,AJ,Aw,AG,CM]) (λm i hi=>by simp only[Ax,AJ,AG]) (λm i j g hi=>?_)⟩,?_⟩
 ·simp only[Am,Ak,Ax,AJ,Av,AG];exact⟨λD=>⟨by omega,by omega,(q i (by omega) m j g).1⟩,λ_=>trivial⟩
 rw[CH];have u:=p9 (c:=λst:Int×Int=>W_ (c_ st.2 (U_ x)) (U' (c_ (Ez ((So x (R_ st.2) []),st.1)) 0))) (f:=λst=>(Ez ((So x (R_ st.2) []),st.1),V' .i64 st.2 1)) x [] My (λa m=>Ez (a,m)) (l-(x.length:Int)) (by omega) (by omega) (by omega) (λi hi m j g=>(q i hi m j g).2) (λm i hi=>by simp only[Az,Am,Ak,Ax,AJ,Aw,AG,CM]) (λm i hi=>by simp only[Ax,AJ,AG]);rcases oE (l:=l) (by omega) u with h|⟨A,z,y⟩
 ·exact .inl h
 exact .inr ⟨A,z,(by omega),y⟩
def DG(x:BS):Prop:=Ej (x.1,x.2.1)/\JA x.2.2.1/\Lm x.2.2.2.2.1/\True
def aH(x:BS):Prop:=WC (x.1,x.2.1)/\aG x.2.2.1/\lk x.2.2.2.2.1/\True
theorem ZdC(x:BS)(n:aH x)(l:Int)(h0:0<=l)(h1:l<=1048576):UY (x,l)/\(Jr (x,l)<0\/(0<=Jr (x,l)/\Jr (x,l)<=l/\DG x)):=by
 rw[vo,vX];have N:=n;unfold aH at n;obtain⟨u,j⟩:=ZdX (x.1,x.2.1) n.1 l (by omega) (by omega);generalize I:Fh ((x.1,x.2.1),l)=z0 at j ⊢;rcases j with j|⟨j,M,t⟩
 ·have b:c_ z0 0=true:=(by rw[Am];simpa using j);refine⟨?_,?_⟩
  ·simp[u,b]
  simp only[b,CL];left;omega
 have C:c_ z0 0=false:=by rw[Am];simpa using j
 simp only[C,CH];obtain⟨y,i⟩:=Zej x.2.2.1 n.2.1 z0 (by omega) (by omega);generalize G:Hr (x.2.2.1,z0)=z1 at i ⊢;rcases i with i|⟨i,L,s⟩
 ·have b:c_ z1 0=true:=(by rw[Am];simpa using i);refine⟨?_,?_⟩
  ·simp[u,y,b]
  simp only[b,CL];left;omega
 have A:c_ z1 0=false:=by rw[Am];simpa using i
 simp only[A,CH];obtain⟨D,g⟩:=Zgx x.2.2.2.2.1 n.2.2.1 z1 (by omega) (by omega);generalize F:Mf (x.2.2.2.2.1,z1)=z2 at g ⊢;rcases g with g|⟨g,J,q⟩
 ·have b:c_ z2 0=true:=(by rw[Am];simpa using g);refine⟨?_,?_⟩
  ·simp[u,y,D,b]
  simp only[b,CL];left;omega
 have z:c_ z2 0=false:=by rw[Am];simpa using g
 simp only[z,CH];exact⟨by simp[u,y,D],.inr ⟨by omega,by omega,t,s,q,trivial⟩⟩
theorem Zhv(x:Dr)(h:Xe x):Ry x/\Jt x=x:=by
 rw[y5,yQ];exact⟨trivial,rfl⟩
theorem ZfE(x:Cj)(h:My x):Rv x/\Pw x=x:=by
 rw[xg,yt];obtain⟨h1,g⟩:=h;have b:∀i:Nat,i<x.length->Ry ((x.getD i (0,0,0)).1,(x.getD i (0,0,0)).2.1,(x.getD i (0,0,0)).2.2)/\Jt ((x.getD i (0,0,0)).1,(x.getD i (0,0,0)).2.1,(x.getD i (0,0,0)).2.2)=x.getD i (0,0,0):=λi hi=>Zhv _ (g _ (B5 x i (0,0,0) hi));refine⟨⟨⟨by rw[Ak];omega,Sz (by rw[Ak];omega) (by rw[Ak];omega) (by omega)⟩,Sv x (0,0,0) (0,0,0) h1 (λ_=>rfl) (λl i hi=>by simp only[Hx,AJ,Ax,AG];rw[(b i hi).2]) (λl i j hi=>?_)⟩,SM x (0,0,0) (0,0,0) h1 (λ_=>rfl) (λl i hi=>by simp only[Hx,AJ,Ax,AG];rw[(b i hi).2])⟩;simp only[Am,Ak,Ax,AJ,Av,AG];exact⟨λn=>⟨by omega,by omega,(b i (by omega)).1,by omega,by omega⟩,λ_=>trivial⟩
theorem ZeE(x:CA)(h:JA x):UK x/\Vg x=x:=by
 rw[vn,vg];obtain⟨h1,g⟩:=h;have b:∀i:Nat,i<x.length->Rv (x.getD i [])/\Pw (x.getD i [])=x.getD i []:=λi hi=>ZfE _ (g _ (B5 x i [] hi));refine⟨⟨⟨by rw[Ak];omega,Sz (by rw[Ak];omega) (by rw[Ak];omega) (by omega)⟩,Sv x [] [] h1 (λ_=>rfl) (λl i hi=>by simp only[Hx,AJ,Ax,AG];rw[(b i hi).2]) (λl i j hi=>?_)⟩,SM x [] [] h1 (λ_=>rfl) (λl i hi=>by simp only[Hx,AJ,Ax,AG];rw[(b i hi).2])⟩;simp only[Am,Ak,Ax,AJ,Av,AG];exact⟨λn=>⟨by omega,by omega,(b i (by omega)).1,by omega,by omega⟩,λ_=>trivial⟩
theorem Zdp(x:BS)(h:DG x):Nq x/\Ah x=x:=by
 rw[vk,wy];have i:=ZeT (x.1,x.2.1) (by unfold DG at h;exact h.1);have g:=ZeE x.2.2.1 (by unfold DG at h;exact h.2.1);have b:=Zfo x.2.2.2.2.1 (by unfold DG at h;exact h.2.2.1);refine⟨⟨i.1,g.1,b.1⟩,?_⟩;simp only[i.2,g.2,b.2]
theorem ZgV(a b:Dr)(h:Xe a):RA (a,b)/\(K6 (a,b)=true↔a=b):=by
 obtain⟨s,q,n⟩:=a;obtain⟨j,i,g⟩:=b;rw[zj,yN];refine⟨by simp,?_⟩;simp only[Aw,Az,EF,Bj,Ai,I7,Av,An,A7];try (constructor<;>intro h<;>simp_all)
theorem Zfj(a b:Cj)(h:My a):Rs (a,b)/\(KR (a,b)=true↔a=b):=by
 rw[xU,xV];obtain⟨h1,s⟩:=h;have n:∀i:Nat,i<a.length->RA (((So a i (0,0,0)).1,(So a i (0,0,0)).2.1,(So a i (0,0,0)).2.2),((So b i (0,0,0)).1,(So b i (0,0,0)).2.1,(So b i (0,0,0)).2.2))/\(K6 (((So a i (0,0,0)).1,(So a i (0,0,0)).2.1,(So a i (0,0,0)).2.2),((So b i (0,0,0)).1,(So b i (0,0,0)).2.1,(So b i (0,0,0)).2.2))=true↔a.getD i (0,0,0)=b.getD i (0,0,0)):=λi hi=>by
  have:=ZgV (a.getD i (0,0,0)) (b.getD i (0,0,0)) (s _ (B5 a i (0,0,0) hi));rw[AJ,AJ];exact this
 by_cases j:a.length=b.length
 ·refine⟨⟨λ_=>trivial,λ_=>Ox a b (0,0,0) (λi=>U' (K6 (((So a i (0,0,0)).1,(So a i (0,0,0)).2.1,(So a i (0,0,0)).2.2),((So b i (0,0,0)).1,(So b i (0,0,0)).2.1,(So b i (0,0,0)).2.2)))) j (λi hi=>by simp only[Aw,BZ,(n i hi).2]) (by omega) (λi hi=>by simp only[Az,Am,Ak,Ax,Aw,AG,CM]) (λi hi=>rfl) (λi hi=>?_)⟩,?_⟩
  ·simp only[Am,Ak,Ax,Av,AG];exact⟨λt=>⟨by omega,by omega,by omega,by omega,(n i (by omega)).1⟩,λ_=>trivial⟩
  have q:=OE (c:=λi:Int=>W_ (c_ i (U_ a)) (U' ((λi=>U' (K6 (((So a i (0,0,0)).1,(So a i (0,0,0)).2.1,(So a i (0,0,0)).2.2),((So b i (0,0,0)).1,(So b i (0,0,0)).2.1,(So b i (0,0,0)).2.2)))) i.toNat))) (f:=λi=>V' .i64 i 1) a b (0,0,0) (λi=>U' (K6 (((So a i (0,0,0)).1,(So a i (0,0,0)).2.1,(So a i (0,0,0)).2.2),((So b i (0,0,0)).1,(So b i (0,0,0)).2.1,(So b i (0,0,0)).2.2)))) j (λi hi=>by simp only[Aw,BZ,(n i hi).2]) (by omega) (λi hi=>by simp only[Az,Am,Ak,Aw,AG,CM]) (λi hi=>rfl);have g:U' (i_ (U_ a) (U_ b))=true:=(by rw[Aw,Bj,Ak,Ak,j];simp);rw[g,Az true,HG,Aw (c_ _ (U_ a)),Am _ (U_ a)];simp only[<- Ax,Ak]at q ⊢;simp only[Bq,Bm];rw[q];simp
 have g:U' (i_ (U_ a) (U_ b))=false:=by rw[Aw,Bj,Ak,Ak];simp;omega
 refine⟨⟨λ_=>trivial,λh=>?_⟩,?_⟩
 ·rw[Aw]at g;rw[h]at g;cases g
 rw[g,Az,LP];constructor
 ·intro h;cases h
 intro e;subst e;exact absurd rfl j
theorem ZeP(a b:CA)(h:JA a):UJ (a,b)/\(Ps (a,b)=true↔a=b):=by
 rw[uL,wJ];obtain⟨h1,s⟩:=h;have n:∀i:Nat,i<a.length->Rs ((So a i []),(So b i []))/\(KR ((So a i []),(So b i []))=true↔a.getD i []=b.getD i []):=λi hi=>by
  have:=Zfj (a.getD i []) (b.getD i []) (s _ (B5 a i [] hi));rw[AJ,AJ];exact this
 by_cases j:a.length=b.length
 ·refine⟨⟨λ_=>trivial,λ_=>Ox a b [] (λi=>U' (KR ((So a i []),(So b i [])))) j (λi hi=>by simp only[Aw,BZ,(n i hi).2]) (by omega) (λi hi=>by simp only[Az,Am,Ak,Ax,Aw,AG,CM]) (λi hi=>rfl) (λi hi=>?_)⟩,?_⟩
  ·simp only[Am,Ak,Ax,Av,AG];exact⟨λt=>⟨by omega,by omega,by omega,by omega,(n i (by omega)).1⟩,λ_=>trivial⟩
  have q:=OE (c:=λi:Int=>W_ (c_ i (U_ a)) (U' ((λi=>U' (KR ((So a i []),(So b i [])))) i.toNat))) (f:=λi=>V' .i64 i 1) a b [] (λi=>U' (KR ((So a i []),(So b i [])))) j (λi hi=>by simp only[Aw,BZ,(n i hi).2]) (by omega) (λi hi=>by simp only[Az,Am,Ak,Aw,AG,CM]) (λi hi=>rfl);have g:U' (i_ (U_ a) (U_ b))=true:=(by rw[Aw,Bj,Ak,Ak,j];simp);rw[g,Az true,HG,Aw (c_ _ (U_ a)),Am _ (U_ a)];simp only[<- Ax,Ak]at q ⊢;simp only[Bq,Bm];rw[q];simp
 have g:U' (i_ (U_ a) (U_ b))=false:=by rw[Aw,Bj,Ak,Ak];simp;omega
 refine⟨⟨λ_=>trivial,λh=>?_⟩,?_⟩
 ·rw[Aw]at g;rw[h]at g;cases g
 rw[g,Az,LP];constructor
 ·intro h;cases h
 intro e;subst e;exact absurd rfl j
theorem kz(a b:BS)(h:DG a):Ns (a,b)/\(DZ (a,b)=true↔a=b):=by
 obtain⟨z,y,x,I,u,G,F⟩:=a;obtain⟨t,s,q,D,n,C,A⟩:=b;have j:=Zd3 (z,y) (t,s) (by unfold DG at h;exact h.1);have i:=ZeP x q (by unfold DG at h;exact h.2.1);have g:=Zfs u n (by unfold DG at h;exact h.2.2.1);rw[vK,vN];refine⟨by simp[j.1,j.2,i.1,i.2,g.1,g.2],?_⟩;simp only[j.1,j.2,i.1,i.2,g.1,g.2,Aw,Az,EF,Bj,Ai,I7,Av,An,A7];try (constructor<;>intro h<;>simp_all)
def bT(x:B3):Prop:=x.length<=1048576
def az(x:BE):Prop:=bT x.2/\True
theorem ZhN(a b:B3)(h:bT a):VI (a,b)/\(VM (a,b)=true↔a=b):=by
 rw[yM,zV];have h1:a.length<=1048576:=h;by_cases j:a.length=b.length
 ·refine⟨⟨λ_=>trivial,λ_=>Ox a b 0 (λi=>i_ (So a i 0) (So b i 0)) j (λi hi=>by simp[Bj,AJ]) (by omega) (λi hi=>by simp only[Az,Am,Ak,Ax,Aw,AG,CM]) (λi hi=>rfl) (λi hi=>?_)⟩,?_⟩
  ·simp only[Am,Ak,Ax,Av,AG];exact⟨λq=>(by omega),λ_=>trivial⟩
  have n:=OE (c:=λi:Int=>W_ (c_ i (U_ a)) (U' ((λi=>i_ (So a i 0) (So b i 0)) i.toNat))) (f:=λi=>V' .i64 i 1) a b 0 (λi=>i_ (So a i 0) (So b i 0)) j (λi hi=>by simp[Bj,AJ]) (by omega) (λi hi=>by simp only[Az,Am,Ak,Aw,AG,CM]) (λi hi=>rfl);have g:U' (i_ (U_ a) (U_ b))=true:=(by rw[Aw,Bj,Ak,Ak,j];simp);rw[g,Az true,HG,Aw (c_ _ (U_ a)),Am _ (U_ a)];simp only[<- Ax,Ak]at n ⊢;simp only[Bq,Bm];rw[n];simp
 have g:U' (i_ (U_ a) (U_ b))=false:=by rw[Aw,Bj,Ak,Ak];simp;omega
 refine⟨⟨λ_=>trivial,λh=>?_⟩,?_⟩
 ·rw[Aw]at g;rw[h]at g;cases g
 rw[g,Az,LP];constructor
 ·intro h;cases h
 intro e;subst e;exact absurd rfl j
theorem Zdy(a b:BE)(h:az a):Rg (a,b)/\(KN (a,b)=true↔a=b):=by
 obtain⟨q,j⟩:=a;obtain⟨n,i⟩:=b;have g:=ZhN j i (by unfold az at h;exact h.1);rw[wi,vU];refine⟨by simp[g.1,g.2],?_⟩;simp only[g.1,g.2,Aw,Az,EF,Bj,Ai,I7,Av,An,A7];try (constructor<;>intro h<;>simp_all)
theorem NQ(a:Int):V' .i64 a 1=IntKind.i64.wrap (a+1):=by simp only[dO]
theorem NN(k:IntKind)(a:Int):iConv k a=k.wrap a:=by simp only[mX]
theorem NU(a b:Int):iRem a b=a.tmod b:=by simp only[dg]
section
variable {α:Type} {f:α->Int->α×Int} {l:List α} {c:Nat} {m:Int}
def L0(f:α->Int->α×Int)(l:List α)(c:Nat):Prop:=∀a∈l,∀m:Int,0<=m->m+c<=2305843009213693952->m<=(f a m).2/\(f a m).2<=m+c
theorem Mz(g:L0 f l c)(h0:0<=m)(h1:m+(l.length*c:Nat)<=2305843009213693952)(d:α):∀i,i<=l.length->m<=(Bb f l m i).2/\(Bb f l m i).2<=m+(i*c:Nat):=by
 intro i;induction i with
 |zero=>intro _;rw[Mo];simp
 | succ i ih=>
   intro hi;obtain⟨s,q⟩:=ih (by omega);rw[RW f l m (by omega) d];have hm:l.getD i d∈l:=B5 l i d (by omega);have b:(i+1)*c<=l.length*c:=G4 _ (by omega);rw[DP,Fo]at b ⊢;obtain⟨n,j⟩:=g _ hm (Bb f l m i).2 (by omega) (by omega);exact⟨by omega,by simp only;omega⟩
theorem Oi(b:L0 f l c)(h0:0<=m)(h1:m+(l.length*c:Nat)<=2305843009213693952):m<=(AW f l m).2/\(AW f l m).2<=m+(l.length*c:Nat):=by
 cases l with
 |nil=>simp[AW]
 | cons a r=>
   have:=Mz b h0 h1 a (a::r).length (BH _);rw[IC]at this;exact this
theorem NY(f:α->Int->α×Int)(l:List α)(m:Int){i:Nat}(hi:i<l.length)(d:α):(AW f l m).1.getD i d=(f (l.getD i d) (Bb f l m i).2).1:=by
 have h1:=RW f l m hi d;have g:(Bb f l m (i+1)).1.getD i d=(f (l.getD i d) (Bb f l m i).2).1:=by
  rw[h1];simp only;rw[CQ,dK (by rw[Fk];exact hi)];rfl
 rw[<- g,<- IC f l m];have:∀k,i<k->k<=l.length->(Bb f l m k).1.getD i d=(Bb f l m (i+1)).1.getD i d:=by
  intro k;induction k with
  |zero=>intro h;omega
  | succ k ih=>
    intro h h';by_cases b:k=i
    ·rw[b]
    rw[<- ih (by omega) (by omega),RW f l m (by omega) d];simp only[CQ];rw[List.getElem?_set_ne b]
 exact this _ hi (BH _)
theorem NK {C:Int×Int->Bool} {F:Int×Int->Int×Int} {p:Int×Int->Prop} (q:l.length<=1048576) (d:α)
 (hs:∀i,i<l.length->p ((Bb f l m i).2,(i:Int))/\C ((Bb f l m i).2,(i:Int))=true/\F ((Bb f l m i).2,(i:Int))=((f (l.getD i d) (Bb f l m i).2).2,V' .i64 (i:Int) 1))
 (g:p ((AW f l m).2,(l.length:Int))/\C ((AW f l m).2,(l.length:Int))=false):Z_ C F p (m,0)/\Al C F (m,0)=((AW f l m).2,(l.length:Int)):=by
 have:=JC (p:=p) (c:=C) (f:=F) l.length (λi=>((Bb f l m i).2,(i:Int))) (x0:=(m,0)) rfl (λk b=>by
  obtain⟨h1,n,j⟩:=hs k b;refine⟨h1,n,?_⟩;rw[j,RW f l m b d,Cp (by unfold Br;omega)];simp) (by rw[IC];exact g)
 simp only[IC]at this;exact this
end
theorem NX{i n c:Nat}(h:i<n):i*c+c<=n*c:=by
 have:=G4 c (show i+1<=n from h);rw[DP,Fo]at this;exact this
theorem NZ{n m c B:Nat}(h:n<=m)(e:m*c=B):n*c<=B:=e▸G4 c h
theorem CW{m:Int}(h0:0<=m)(h1:m<=2305843009213693960):IntKind.i64.wrap (m+1)=m+1:=LM (by omega)
section
set_option maxRecDepth 20000
def G1(a:Int)(k:Int):(Int)×Int:=(k,(IntKind.i64.wrap (k+1)))
theorem m8(x:B3)(h:bT x)(m:Int)(h0:0<=m)(h1:m+1048576<=2305843009213693952):UB x/\(m<=(GG x m).2/\(GG x m).2<=m+1048576)/\Rb ((GG x m).1,m)/\EU ((GG x m).1,m)=(GG x m).2:=by
 have u:x.length<=1048576:=h;have z:L0 G1 x 1:=by
  intro a q k M J;have t:IntKind.i64.wrap (k+1)=k+1:=CW (by omega) (by omega);have D:(G1 a k).2=(k+1):=(by simp only[G1,t]);rw[D];omega
 have N:x.length*1<=1048576:=NZ u (by decide);have A:=Oi (m:=m) z h0 (by omega);have j:GG x m=AW G1 x m:=by unfold G1;rw[fP];rfl
 rw[j];have s:=G2 G1 x m;have y:∀i,i<x.length->(AW G1 x m).1.getD i 0=(G1 (x.getD i 0) (Bb G1 x m i).2).1:=λi hi=>NY _ _ _ hi _;have F:UB x:=by rw[tg];exact⟨CV h (by decide),λa q=>trivial⟩
 rw[vx,vp];dsimp only;generalize (AW G1 x m).1=L at s y ⊢;have b:Z_ (λ(x0:Ar)=>(W_ (c_ x0.2 (U_ L)) (U' (i_ (So L (R_ x0.2) 0) x0.1)))) (λ(x0:Ar)=>((V' .i64 x0.1 1),(V' .i64 x0.2 1))) (λ(x0:Ar)=>(((c_ x0.2 (U_ L))=true->((((0:Int)<=x0.2)/\(x0.2<(((List.length L):Int))))/\((R_ x0.2)<(List.length L))))/\((c_ x0.2 (U_ L))=false->True))) (m,0)/\Al (λ(x0:Ar)=>(W_ (c_ x0.2 (U_ L)) (U' (i_ (So L (R_ x0.2) 0) x0.1)))) (λ(x0:Ar)=>((V' .i64 x0.1 1),(V' .i64 x0.2 1))) (m,0)=((AW G1 x m).2,(x.length:Int)):=by
  refine NK u 0 (λi hi=>?_) ?_
  ·obtain⟨I,G⟩:=Mz (m:=m) z h0 (by omega) 0 i (by omega);have O:i*1+1<=x.length*1:=NX hi;have g:=y i hi;have C:(i:Int)<(L.length:Int):=(by omega);have n:i<L.length:=(by omega);have q:=B5 x i 0 hi;generalize (Bb G1 x m i).2=k at I G g ⊢;generalize x.getD i 0=a at g q ⊢;have t:IntKind.i64.wrap (k+1)=k+1:=CW (by omega) (by omega);simp only[AJ,Ax,Ak,AG,NQ,NN,Bj,Am,BD,NU,Az,Aw,EF,g,G1,t];simp[C,n]
  simp[Am,Ak,s,Az]
 refine⟨F,⟨A.1,by omega⟩,b.1,?_⟩;simp only[b.2];simp[BN,Am,Ak,s]
end
section
set_option maxRecDepth 20000
def GQ(a:Cw)(k:Int):Cw×Int:=((k,(IntKind.i64.wrap (k+1)),(IntKind.i64.wrap ((IntKind.i64.wrap (k+1))+1)),(IntKind.i64.wrap ((IntKind.i64.wrap ((IntKind.i64.wrap (k+1))+1))+1))),(IntKind.i64.wrap ((IntKind.i64.wrap ((IntKind.i64.wrap ((IntKind.i64.wrap (k+1))+1))+1))+1)))
theorem jU(x:Dp)(h:Mn x)(m:Int)(h0:0<=m)(h1:m+4194304<=2305843009213693952):T1 x/\(m<=(GB x m).2/\(GB x m).2<=m+4194304)/\QS ((GB x m).1,m)/\GC ((GB x m).1,m)=(GB x m).2:=by
 have A:x.length<=1048576:=h.1;have D:L0 GQ x 4:=by
  intro a q k R O;have z:IntKind.i64.wrap (k+1)=k+1:=CW (by omega) (by omega);have y:IntKind.i64.wrap ((k+1)+1)=(k+1)+1:=CW (by omega) (by omega);have u:IntKind.i64.wrap (((k+1)+1)+1)=((k+1)+1)+1:=CW (by omega) (by omega);have t:IntKind.i64.wrap ((((k+1)+1)+1)+1)=(((k+1)+1)+1)+1:=CW (by omega) (by omega);have I:(GQ a k).2=((((k+1)+1)+1)+1):=(by simp only[GQ,z,y,u,t]);rw[I];omega
 have U:x.length*4<=4194304:=NZ A (by decide);have F:=Oi (m:=m) D h0 (by omega);have j:GB x m=AW GQ x m:=by unfold GQ;rw[fg];rfl
 rw[j];have s:=G2 GQ x m;have C:∀i,i<x.length->(AW GQ x m).1.getD i (0,0,0,0)=(GQ (x.getD i (0,0,0,0)) (Bb GQ x m i).2).1:=λi hi=>NY _ _ _ hi _;have J:T1 x:=by rw[qw];exact⟨CV h.1 (by decide),λa q=>⟨trivial,trivial,trivial,trivial⟩⟩
 rw[qY,qZ];dsimp only;generalize (AW GQ x m).1=L at s C ⊢;have b:Z_ (λ(x0:Ar)=>(W_ (c_ x0.2 (U_ L)) (W_ (U' (i_ (So L (R_ x0.2) (0,0,0,0)).1 x0.1)) (W_ (U' (i_ (So L (R_ x0.2) (0,0,0,0)).2.1 (V' .i64 x0.1 1))) (W_ (U' (i_ (So L (R_ x0.2) (0,0,0,0)).2.2.1 (V' .i64 (V' .i64 x0.1 1) 1))) (U' (i_ (So L (R_ x0.2) (0,0,0,0)).2.2.2 (V' .i64 (V' .i64 (V' .i64 x0.1 1) 1) 1)))))))) (λ(x0:Ar)=>((V' .i64 (V' .i64 (V' .i64 (V' .i64 x0.1 1) 1) 1) 1),(V' .i64 x0.2 1))) (λ(x0:Ar)=>(((c_ x0.2 (U_ L))=true->((((0:Int)<=x0.2)/\(x0.2<(((List.length L):Int))))/\(((R_ x0.2)<(List.length L))/\(((i_ (So L (R_ x0.2) (0,0,0,0)).1 x0.1)=true->True)/\((i_ (So L (R_ x0.2) (0,0,0,0)).1 x0.1)=false->((((0:Int)<=x0.2)/\(x0.2<(((List.length L):Int))))/\(((R_ x0.2)<(List.length L))/\(((i_ (So L (R_ x0.2) (0,0,0,0)).2.1 (V' .i64 x0.1 1))=true->True)/\((i_ (So L (R_ x0.2) (0,0,0,0)).2.1 (V' .i64 x0.1 1))=false->((((0:Int)<=x0.2)/\(x0.2<(((List.length L):Int))))/\(((R_ x0.2)<(List.length L))/\(((i_ (So L (R_ x0.2) (0,0,0,0)).2.2.1 (V' .i64 (V' .i64 x0.1 1) 1))=true->True)/\((i_ (So L (R_ x0.2) (0,0,0,0)).2.2.1 (V' .i64 (V' .i64 x0.1 1) 1))=false->((((0:Int)<=x0.2)/\(x0.2<(((List.length L):Int))))/\((R_ x0.2)<(List.length L))))))))))))))))/\((c_ x0.2 (U_ L))=false->True))) (m,0)/\Al (λ(x0:Ar)=>(W_ (c_ x0.2 (U_ L)) (W_ (U' (i_ (So L (R_ x0.2) (0,0,0,0)).1 x0.1)) (W_ (U' (i_ (So L (R_ x0.2) (0,0,0,0)).2.1 (V' .i64 x0.1 1))) (W_ (U' (i_ (So L (R_ x0.2) (0,0,0,0)).2.2.1 (V' .i64 (V' .i64 x0.1 1) 1))) (U' (i_ (So L (R_ x0.2) (0,0,0,0)).2.2.2 (V' .i64 (V' .i64 (V' .i64 x0.1 1) 1) 1)))))))) (λ(x0:Ar)=>((V' .i64 (V' .i64 (V' .i64 (V' .i64 x0.1 1) 1) 1) 1),(V' .i64 x0.2 1))) (m,0)=((AW GQ x m).2,(x.length:Int)):=by
  refine NK A (0,0,0,0) (λi hi=>?_) ?_
  ·obtain⟨N,M⟩:=Mz (m:=m) D h0 (by omega) (0,0,0,0) i (by omega);have Y:i*4+4<=x.length*4:=NX hi;have g:=C i hi;have G:(i:Int)<(L.length:Int):=(by omega);have n:i<L.length:=(by omega);have q:=B5 x i (0,0,0,0) hi;generalize (Bb GQ x m i).2=k at N M g ⊢;generalize x.getD i (0,0,0,0)=a at g q ⊢;have z:IntKind.i64.wrap (k+1)=k+1:=CW (by omega) (by omega);have y:IntKind.i64.wrap ((k+1)+1)=(k+1)+1:=CW (by omega) (by omega);have u:IntKind.i64.wrap (((k+1)+1)+1)=((k+1)+1)+1:=CW (by omega) (by omega);have t:IntKind.i64.wrap ((((k+1)+1)+1)+1)=(((k+1)+1)+1)+1:=CW (by omega) (by omega);simp only[AJ,Ax,Ak,AG,NQ,NN,Bj,Am,BD,NU,Az,Aw,EF,g,GQ,z,y,u,t];simp[G,n]
  simp[Am,Ak,s,Az]
 refine⟨J,⟨F.1,by omega⟩,b.1,?_⟩;simp only[b.2];simp[BN,Am,Ak,s]
def GO(a:Dp)(k:Int):Dp×Int:=((GB a k).1,(GB a k).2)
theorem Zcf(x:Cv)(h:Mi x)(m:Int)(h0:0<=m)(h1:m+4398046511104<=2305843009213693952):TZ x/\(m<=(H6 x m).2/\(H6 x m).2<=m+4398046511104)/\T5 ((H6 x m).1,m)/\QU ((H6 x m).1,m)=(H6 x m).2:=by
 have u:x.length<=1048576:=h.1;have z:L0 GO x 4194304:=by
  intro a b k N M;obtain⟨_,⟨p0,C⟩,y0,n⟩:=jU a (h.2 a b) k (by omega) (by omega);have t0:¬(GB a k).2<0:=(by omega);have F:(GO a k).2=(GB a k).2:=(by simp only[GO]);rw[F];omega
 have O:x.length*4194304<=4398046511104:=NZ u (by decide);have A:=Oi (m:=m) z h0 (by omega);have q:H6 x m=AW GO x m:=by unfold GO;rw[fe,fg];rfl
 rw[q];have t:=G2 GO x m;have y:∀i,i<x.length->(AW GO x m).1.getD i []=(GO (x.getD i []) (Bb GO x m i).2).1:=λi hi=>NY _ _ _ hi _;have G:TZ x:=by rw[qk];exact⟨CV h.1 (by decide),λa b=>⟨CV (h.2 a b).1 (by decide),λa b=>⟨trivial,trivial,trivial,trivial⟩⟩⟩
 rw[qq,qE];dsimp only;generalize (AW GO x m).1=L at t y ⊢;have j:Z_ (λ(x0:Ar)=>(W_ (c_ x0.2 (U_ L)) (U' (c_ (GC ((So L (R_ x0.2) []),x0.1)) 0)))) (λ(x0:Ar)=>((GC ((So L (R_ x0.2) []),x0.1)),(V' .i64 x0.2 1))) (λ(x0:Ar)=>(((c_ x0.2 (U_ L))=true->((((0:Int)<=x0.2)/\(x0.2<(((List.length L):Int))))/\(((R_ x0.2)<(List.length L))/\(QS ((So L (R_ x0.2) []),x0.1)))))/\((c_ x0.2 (U_ L))=false->True))) (m,0)/\Al (λ(x0:Ar)=>(W_ (c_ x0.2 (U_ L)) (U' (c_ (GC ((So L (R_ x0.2) []),x0.1)) 0)))) (λ(x0:Ar)=>((GC ((So L (R_ x0.2) []),x0.1)),(V' .i64 x0.2 1))) (m,0)=((AW GO x m).2,(x.length:Int)):=by
  refine NK u [] (λi hi=>?_) ?_
  ·obtain⟨J,I⟩:=Mz (m:=m) z h0 (by omega) [] i (by omega);have R:i*4194304+4194304<=x.length*4194304:=NX hi;have g:=y i hi;have D:(i:Int)<(L.length:Int):=(by omega);have s:i<L.length:=(by omega);have b:=B5 x i [] hi;generalize (Bb GO x m i).2=k at J I g ⊢;generalize x.getD i []=a at g b ⊢;obtain⟨_,⟨p0,C⟩,y0,n⟩:=jU a (h.2 a b) k (by omega) (by omega);have t0:¬(GB a k).2<0:=(by omega);simp only[AJ,Ax,Ak,AG,NQ,NN,Bj,Am,BD,NU,Az,Aw,EF,g,GO,y0,n,t0];simp[D,s,y0,n,t0]
  simp[Am,Ak,t,Az]
 refine⟨G,⟨A.1,by omega⟩,j.1,?_⟩;simp only[j.2];simp[BN,Am,Ak,t]
theorem Zel(x:B1)(h:Ej x)(m:Int)(h0:0<=m)(h1:m+4398046511104<=2305843009213693952):Ub x/\(m<=(EP x m).2/\(EP x m).2<=m+4398046511104)/\Ul ((x.1,(EP x m).1.2),m)/\GF ((x.1,(EP x m).1.2),m)=(EP x m).2:=by
 unfold Ej at h;obtain⟨n,⟨p0,j⟩,y0,b⟩:=Zcf x.2 h.1 m (by omega) (by omega);have t0:¬(H6 x.2 m).2<0:=by omega
 have e:EP x m=((x.1,(H6 x.2 m).1),(H6 x.2 m).2):=by rw[fw,fe];rfl
 have i:Ub x:=by rw[qL];exact⟨trivial,⟨CV h.1.1 (by decide),λa g=>⟨CV (h.1.2 a g).1 (by decide),λa g=>⟨trivial,trivial,trivial,trivial⟩⟩⟩⟩
 rw[e];refine⟨i,⟨by simp only;omega,by simp only;omega⟩,?_,?_⟩
 ·rw[sq];simp[Am,BN,y0,b,t0]
 rw[se];simp[Am,BN,y0,b,t0]
end
section
set_option maxRecDepth 20000
def GX(a:Dr)(k:Int):Dr×Int:=((k,(IntKind.i64.wrap (k+1)),(IntKind.i64.wrap ((IntKind.i64.wrap (k+1))+1))),(IntKind.i64.wrap ((IntKind.i64.wrap ((IntKind.i64.wrap (k+1))+1))+1)))
theorem l7(x:Cj)(h:My x)(m:Int)(h0:0<=m)(h1:m+3145728<=2305843009213693952):Uk x/\(m<=(GD x m).2/\(GD x m).2<=m+3145728)/\Q7 ((GD x m).1,m)/\GH ((GD x m).1,m)=(GD x m).2:=by
 have z:x.length<=1048576:=h.1;have C:L0 GX x 3:=by
  intro a q k O N;have y:IntKind.i64.wrap (k+1)=k+1:=CW (by omega) (by omega);have u:IntKind.i64.wrap ((k+1)+1)=(k+1)+1:=CW (by omega) (by omega);have t:IntKind.i64.wrap (((k+1)+1)+1)=((k+1)+1)+1:=CW (by omega) (by omega);have G:(GX a k).2=(((k+1)+1)+1):=(by simp only[GX,y,u,t]);rw[G];omega
 have R:x.length*3<=3145728:=NZ z (by decide);have D:=Oi (m:=m) C h0 (by omega);have j:GD x m=AW GX x m:=by unfold GX;rw[fG];rfl
 rw[j];have s:=G2 GX x m;have A:∀i,i<x.length->(AW GX x m).1.getD i (0,0,0)=(GX (x.getD i (0,0,0)) (Bb GX x m i).2).1:=λi hi=>NY _ _ _ hi _;have I:Uk x:=by rw[so];exact⟨CV h.1 (by decide),λa q=>⟨trivial,trivial,trivial⟩⟩
 rw[th,tq];dsimp only;generalize (AW GX x m).1=L at s A ⊢;have b:Z_ (λ(x0:Ar)=>(W_ (c_ x0.2 (U_ L)) (W_ (U' (i_ (So L (R_ x0.2) (0,0,0)).1 x0.1)) (W_ (U' (i_ (So L (R_ x0.2) (0,0,0)).2.1 (V' .i64 x0.1 1))) (U' (i_ (So L (R_ x0.2) (0,0,0)).2.2 (V' .i64 (V' .i64 x0.1 1) 1))))))) (λ(x0:Ar)=>((V' .i64 (V' .i64 (V' .i64 x0.1 1) 1) 1),(V' .i64 x0.2 1))) (λ(x0:Ar)=>(((c_ x0.2 (U_ L))=true->((((0:Int)<=x0.2)/\(x0.2<(((List.length L):Int))))/\(((R_ x0.2)<(List.length L))/\(((i_ (So L (R_ x0.2) (0,0,0)).1 x0.1)=true->True)/\((i_ (So L (R_ x0.2) (0,0,0)).1 x0.1)=false->((((0:Int)<=x0.2)/\(x0.2<(((List.length L):Int))))/\(((R_ x0.2)<(List.length L))/\(((i_ (So L (R_ x0.2) (0,0,0)).2.1 (V' .i64 x0.1 1))=true->True)/\((i_ (So L (R_ x0.2) (0,0,0)).2.1 (V' .i64 x0.1 1))=false->((((0:Int)<=x0.2)/\(x0.2<(((List.length L):Int))))/\((R_ x0.2)<(List.length L))))))))))))/\((c_ x0.2 (U_ L))=false->True))) (m,0)/\Al (λ(x0:Ar)=>(W_ (c_ x0.2 (U_ L)) (W_ (U' (i_ (So L (R_ x0.2) (0,0,0)).1 x0.1)) (W_ (U' (i_ (So L (R_ x0.2) (0,0,0)).2.1 (V' .i64 x0.1 1))) (U' (i_ (So L (R_ x0.2) (0,0,0)).2.2 (V' .i64 (V' .i64 x0.1 1) 1))))))) (λ(x0:Ar)=>((V' .i64 (V' .i64 (V' .i64 x0.1 1) 1) 1),(V' .i64 x0.2 1))) (m,0)=((AW GX x m).2,(x.length:Int)):=by
  refine NK z (0,0,0) (λi hi=>?_) ?_
  ·obtain⟨M,J⟩:=Mz (m:=m) C h0 (by omega) (0,0,0) i (by omega);have U:i*3+3<=x.length*3:=NX hi;have g:=A i hi;have F:(i:Int)<(L.length:Int):=(by omega);have n:i<L.length:=(by omega);have q:=B5 x i (0,0,0) hi;generalize (Bb GX x m i).2=k at M J g ⊢;generalize x.getD i (0,0,0)=a at g q ⊢;have y:IntKind.i64.wrap (k+1)=k+1:=CW (by omega) (by omega);have u:IntKind.i64.wrap ((k+1)+1)=(k+1)+1:=CW (by omega) (by omega);have t:IntKind.i64.wrap (((k+1)+1)+1)=((k+1)+1)+1:=CW (by omega) (by omega);simp only[AJ,Ax,Ak,AG,NQ,NN,Bj,Am,BD,NU,Az,Aw,EF,g,GX,y,u,t];simp[F,n]
  simp[Am,Ak,s,Az]
 refine⟨I,⟨D.1,by omega⟩,b.1,?_⟩;simp only[b.2];simp[BN,Am,Ak,s]
def GV(a:Cj)(k:Int):Cj×Int:=((GD a k).1,(GD a k).2)
theorem Ze9(x:CA)(h:JA x)(m:Int)(h0:0<=m)(h1:m+3298534883328<=2305843009213693952):T9 x/\(m<=(F6 x m).2/\(F6 x m).2<=m+3298534883328)/\Uo ((F6 x m).1,m)/\Kd ((F6 x m).1,m)=(F6 x m).2:=by
 have u:x.length<=1048576:=h.1;have z:L0 GV x 3145728:=by
  intro a b k N M;obtain⟨_,⟨p0,C⟩,y0,n⟩:=l7 a (h.2 a b) k (by omega) (by omega);have t0:¬(GD a k).2<0:=(by omega);have F:(GV a k).2=(GD a k).2:=(by simp only[GV]);rw[F];omega
 have O:x.length*3145728<=3298534883328:=NZ u (by decide);have A:=Oi (m:=m) z h0 (by omega);have q:F6 x m=AW GV x m:=by unfold GV;rw[fm,fG];rfl
 rw[q];have t:=G2 GV x m;have y:∀i,i<x.length->(AW GV x m).1.getD i []=(GV (x.getD i []) (Bb GV x m i).2).1:=λi hi=>NY _ _ _ hi _;have G:T9 x:=by rw[q6];exact⟨CV h.1 (by decide),λa b=>⟨CV (h.2 a b).1 (by decide),λa b=>⟨trivial,trivial,trivial⟩⟩⟩
 rw[rA,rU];dsimp only;generalize (AW GV x m).1=L at t y ⊢;have j:Z_ (λ(x0:Ar)=>(W_ (c_ x0.2 (U_ L)) (U' (c_ (GH ((So L (R_ x0.2) []),x0.1)) 0)))) (λ(x0:Ar)=>((GH ((So L (R_ x0.2) []),x0.1)),(V' .i64 x0.2 1))) (λ(x0:Ar)=>(((c_ x0.2 (U_ L))=true->((((0:Int)<=x0.2)/\(x0.2<(((List.length L):Int))))/\(((R_ x0.2)<(List.length L))/\(Q7 ((So L (R_ x0.2) []),x0.1)))))/\((c_ x0.2 (U_ L))=false->True))) (m,0)/\Al (λ(x0:Ar)=>(W_ (c_ x0.2 (U_ L)) (U' (c_ (GH ((So L (R_ x0.2) []),x0.1)) 0)))) (λ(x0:Ar)=>((GH ((So L (R_ x0.2) []),x0.1)),(V' .i64 x0.2 1))) (m,0)=((AW GV x m).2,(x.length:Int)):=by
  refine NK u [] (λi hi=>?_) ?_
  ·obtain⟨J,I⟩:=Mz (m:=m) z h0 (by omega) [] i (by omega);have R:i*3145728+3145728<=x.length*3145728:=NX hi;have g:=y i hi;have D:(i:Int)<(L.length:Int):=(by omega);have s:i<L.length:=(by omega);have b:=B5 x i [] hi;generalize (Bb GV x m i).2=k at J I g ⊢;generalize x.getD i []=a at g b ⊢;obtain⟨_,⟨p0,C⟩,y0,n⟩:=l7 a (h.2 a b) k (by omega) (by omega);have t0:¬(GD a k).2<0:=(by omega);simp only[AJ,Ax,Ak,AG,NQ,NN,Bj,Am,BD,NU,Az,Aw,EF,g,GV,y0,n,t0];simp[D,s,y0,n,t0]
  simp[Am,Ak,t,Az]
 refine⟨G,⟨A.1,by omega⟩,j.1,?_⟩;simp only[j.2];simp[BN,Am,Ak,t]
def GY(a:Dc)(k:Int):Dc×Int:=((k,(IntKind.i64.wrap (k+1)),(IntKind.i64.wrap ((IntKind.i64.wrap (k+1))+1)),(IntKind.i64.wrap ((IntKind.i64.wrap ((IntKind.i64.wrap (k+1))+1))+1)),(IntKind.i64.wrap ((IntKind.i64.wrap ((IntKind.i64.wrap ((IntKind.i64.wrap (k+1))+1))+1))+1))),(IntKind.i64.wrap ((IntKind.i64.wrap ((IntKind.i64.wrap ((IntKind.i64.wrap ((IntKind.i64.wrap (k+1))+1))+1))+1))+1)))
theorem ZfD(x:Bg)(h:Lm x)(m:Int)(h0:0<=m)(h1:m+5242880<=2305843009213693952):Uq x/\(m<=(Ic x m).2/\(Ic x m).2<=m+5242880)/\UD ((Ic x m).1,m)/\Ra ((Ic x m).1,m)=(Ic x m).2:=by
 have C:x.length<=1048576:=h.1;have F:L0 GY x 5:=by
  intro a q k U R;have A:IntKind.i64.wrap (k+1)=k+1:=CW (by omega) (by omega);have z:IntKind.i64.wrap ((k+1)+1)=(k+1)+1:=CW (by omega) (by omega);have y:IntKind.i64.wrap (((k+1)+1)+1)=((k+1)+1)+1:=CW (by omega) (by omega);have u:IntKind.i64.wrap ((((k+1)+1)+1)+1)=(((k+1)+1)+1)+1:=CW (by omega) (by omega);have t:IntKind.i64.wrap (((((k+1)+1)+1)+1)+1)=((((k+1)+1)+1)+1)+1:=CW (by omega) (by omega);have J:(GY a k).2=(((((k+1)+1)+1)+1)+1):=(by simp only[GY,A,z,y,u,t]);rw[J];omega
 have Y:x.length*5<=5242880:=NZ C (by decide);have G:=Oi (m:=m) F h0 (by omega);have j:Ic x m=AW GY x m:=by unfold GY;rw[fA];rfl
 rw[j];have s:=G2 GY x m;have D:∀i,i<x.length->(AW GY x m).1.getD i (0,0,0,0,0)=(GY (x.getD i (0,0,0,0,0)) (Bb GY x m i).2).1:=λi hi=>NY _ _ _ hi _;have M:Uq x:=by rw[rQ];exact⟨CV h.1 (by decide),λa q=>⟨trivial,trivial,trivial,trivial,trivial⟩⟩
 rw[sW,tO];dsimp only;generalize (AW GY x m).1=L at s D ⊢;have b:Z_ (λ(x0:Ar)=>(W_ (c_ x0.2 (U_ L)) (W_ (U' (i_ (So L (R_ x0.2) (0,0,0,0,0)).1 x0.1)) (W_ (U' (i_ (So L (R_ x0.2) (0,0,0,0,0)).2.1 (V' .i64 x0.1 1))) (W_ (U' (i_ (So L (R_ x0.2) (0,0,0,0,0)).2.2.1 (V' .i64 (V' .i64 x0.1 1) 1))) (W_ (U' (i_ (So L (R_ x0.2) (0,0,0,0,0)).2.2.2.1 (V' .i64 (V' .i64 (V' .i64 x0.1 1) 1) 1))) (U' (i_ (So L (R_ x0.2) (0,0,0,0,0)).2.2.2.2 (V' .i64 (V' .i64 (V' .i64 (V' .i64 x0.1 1) 1) 1) 1))))))))) (λ(x0:Ar)=>((V' .i64 (V' .i64 (V' .i64 (V' .i64 (V' .i64 x0.1 1) 1) 1) 1) 1),(V' .i64 x0.2 1))) (λ(x0:Ar)=>(((c_ x0.2 (U_ L))=true->((((0:Int)<=x0.2)/\(x0.2<(((List.length L):Int))))/\(((R_ x0.2)<(List.length L))/\(((i_ (So L (R_ x0.2) (0,0,0,0,0)).1 x0.1)=true->True)/\((i_ (So L (R_ x0.2) (0,0,0,0,0)).1 x0.1)=false->((((0:Int)<=x0.2)/\(x0.2<(((List.length L):Int))))/\(((R_ x0.2)<(List.length L))/\(((i_ (So L (R_ x0.2) (0,0,0,0,0)).2.1 (V' .i64 x0.1 1))=true->True)/\((i_ (So L (R_ x0.2) (0,0,0,0,0)).2.1 (V' .i64 x0.1 1))=false->((((0:Int)<=x0.2)/\(x0.2<(((List.length L):Int))))/\(((R_ x0.2)<(List.length L))/\(((i_ (So L (R_ x0.2) (0,0,0,0,0)).2.2.1 (V' .i64 (V' .i64 x0.1 1) 1))=true->True)/\((i_ (So L (R_ x0.2) (0,0,0,0,0)).2.2.1 (V' .i64 (V' .i64 x0.1 1) 1))=false->((((0:Int)<=x0.2)/\(x0.2<(((List.length L):Int))))/\(((R_ x0.2)<(List.length L))/\(((i_ (So L (R_ x0.2) (0,0,0,0,0)).2.2.2.1 (V' .i64 (V' .i64 (V' .i64 x0.1 1) 1) 1))=true->True)/\((i_ (So L (R_ x0.2) (0,0,0,0,0)).2.2.2.1 (V' .i64 (V' .i64 (V' .i64 x0.1 1) 1) 1))=false->((((0:Int)<=x0.2)/\(x0.2<(((List.length L):Int))))/\((R_ x0.2)<(List.length L))))))))))))))))))))/\((c_ x0.2 (U_ L))=false->True))) (m,0)/\Al (λ(x0:Ar)=>(W_ (c_ x0.2 (U_ L)) (W_ (U' (i_ (So L (R_ x0.2) (0,0,0,0,0)).1 x0.1)) (W_ (U' (i_ (So L (R_ x0.2) (0,0,0,0,0)).2.1 (V' .i64 x0.1 1))) (W_ (U' (i_ (So L (R_ x0.2) (0,0,0,0,0)).2.2.1 (V' .i64 (V' .i64 x0.1 1) 1))) (W_ (U' (i_ (So L (R_ x0.2) (0,0,0,0,0)).2.2.2.1 (V' .i64 (V' .i64 (V' .i64 x0.1 1) 1) 1))) (U' (i_ (So L (R_ x0.2) (0,0,0,0,0)).2.2.2.2 (V' .i64 (V' .i64 (V' .i64 (V' .i64 x0.1 1) 1) 1) 1))))))))) (λ(x0:Ar)=>((V' .i64 (V' .i64 (V' .i64 (V' .i64 (V' .i64 x0.1 1) 1) 1) 1) 1),(V' .i64 x0.2 1))) (m,0)=((AW GY x m).2,(x.length:Int)):=by
  refine NK C (0,0,0,0,0) (λi hi=>?_) ?_
  ·obtain⟨O,N⟩:=Mz (m:=m) F h0 (by omega) (0,0,0,0,0) i (by omega);have Z:i*5+5<=x.length*5:=NX hi;have g:=D i hi;have I:(i:Int)<(L.length:Int):=(by omega);have n:i<L.length:=(by omega);have q:=B5 x i (0,0,0,0,0) hi;generalize (Bb GY x m i).2=k at O N g ⊢;generalize x.getD i (0,0,0,0,0)=a at g q ⊢;have A:IntKind.i64.wrap (k+1)=k+1:=CW (by omega) (by omega);have z:IntKind.i64.wrap ((k+1)+1)=(k+1)+1:=CW (by omega) (by omega);have y:IntKind.i64.wrap (((k+1)+1)+1)=((k+1)+1)+1:=CW (by omega) (by omega);have u:IntKind.i64.wrap ((((k+1)+1)+1)+1)=(((k+1)+1)+1)+1:=CW (by omega) (by omega);have t:IntKind.i64.wrap (((((k+1)+1)+1)+1)+1)=((((k+1)+1)+1)+1)+1:=CW (by omega) (by omega);simp only[AJ,Ax,Ak,AG,NQ,NN,Bj,Am,BD,NU,Az,Aw,EF,g,GY,A,z,y,u,t];simp[I,n]
  simp[Am,Ak,s,Az]
 refine⟨M,⟨G.1,by omega⟩,b.1,?_⟩;simp only[b.2];simp[BN,Am,Ak,s]
theorem ko(x:BS)(h:DG x)(m:Int)(h0:0<=m)(h1:m+7696586637312<=2305843009213693952):Nh x/\(m<=(AP x m).2/\(AP x m).2<=m+7696586637312)/\QZ ((x.1,(AP x m).1.2.1,(AP x m).1.2.2.1,x.2.2.2.1,(AP x m).1.2.2.2.2.1,x.2.2.2.2.2),m)/\Ed ((x.1,(AP x m).1.2.1,(AP x m).1.2.2.1,x.2.2.2.1,(AP x m).1.2.2.2.2.1,x.2.2.2.2.2),m)=(AP x m).2:=by
 unfold DG at h;obtain⟨G,⟨p0,z⟩,y0,j⟩:=Zel (x.1,x.2.1) h.1 m (by omega) (by omega);have t0:¬(EP (x.1,x.2.1) m).2<0:=by omega
 obtain⟨F,⟨C,y⟩,q,i⟩:=Ze9 x.2.2.1 h.2.1 (EP (x.1,x.2.1) m).2 (by omega) (by omega);have t1:¬(F6 x.2.2.1 (EP (x.1,x.2.1) m).2).2<0:=by omega
 obtain⟨D,⟨A,u⟩,n,g⟩:=ZfD x.2.2.2.2.1 h.2.2.1 (F6 x.2.2.1 (EP (x.1,x.2.1) m).2).2 (by omega) (by omega);have s:¬(Ic x.2.2.2.2.1 (F6 x.2.2.1 (EP (x.1,x.2.1) m).2).2).2<0:=by omega
 have e:AP x m=((x.1,(EP (x.1,x.2.1) m).1.2,(F6 x.2.2.1 (EP (x.1,x.2.1) m).2).1,x.2.2.2.1,(Ic x.2.2.2.2.1 (F6 x.2.2.1 (EP (x.1,x.2.1) m).2).2).1,x.2.2.2.2.2.1,x.2.2.2.2.2.2),(Ic x.2.2.2.2.1 (F6 x.2.2.1 (EP (x.1,x.2.1) m).2).2).2):=by rw[fu,fA,fw,fm];rfl
 have t:Nh x:=by rw[fo];exact⟨trivial,⟨CV h.1.1.1 (by decide),λa b=>⟨CV (h.1.1.2 a b).1 (by decide),λa b=>⟨trivial,trivial,trivial,trivial⟩⟩⟩,⟨CV h.2.1.1 (by decide),λa b=>⟨CV (h.2.1.2 a b).1 (by decide),λa b=>⟨trivial,trivial,trivial⟩⟩⟩,trivial,⟨CV h.2.2.1.1 (by decide),λa b=>⟨trivial,trivial,trivial,trivial,trivial⟩⟩,trivial,trivial⟩
 rw[e];refine⟨t,⟨by simp only;omega,by simp only;omega⟩,?_,?_⟩
 ·rw[ru];simp[Am,BN,y0,j,t0,q,i,t1,n,g,s]
 rw[sQ];simp[Am,BN,y0,j,t0,q,i,t1,n,g,s]
end
end
end Go.Ag
