/- Part 6 of what FnExactPress needs. No conditions. -/
import Derived.Sort.Row
import Derived.Sort.Grow
import Derived.Test.YtbkpfpcnjpggaaaGreatLibE
namespace Go.Ag
set_option linter.unusedSimpArgs false
set_option linter.unusedVariables false
noncomputable section
section
set_option maxRecDepth 8000
def xD:d4:=(A_ [1,0] 4 [E' 0] (A_ [1] 5 [C_ 1,D_ 0,L' 6,B_ (.bin .sub 5 7),G_ 1 (C_ 8)] (.seq [1] (A_ [10,1] 9 [C_ 1,M' 9 AL] (.cond 10 (A_ [4] 4 [E' (-1)] .ret) .skip)) (A_ [4] 11 [C_ 1,G_ 4 (C_ 11)] .ret))))
def KQ:Fn:=⟨⟨2,12,0,true,[.tmp 4],xD⟩,[.one .Z' (.sl AU),.one .Z' (.int .i64)],.one (.one .own (.int .i64))⟩
theorem yy:KQ.A:=AM trivial
def Mf:DR->Int:=KQ.V
def Vo:DR->Prop:=KQ.O
theorem ye:KQ.B:=AO trivial (by kernel_rfl) (λx=>by kernel_rfl)
def wP:d4:=(A_ [2,1] 1 [O' 0 4 0,B_ (.e_ 1 [Ad,Ad,Ad,Ad])] (A_ [3,2,1] 3 [B_ (.e_ 2 [Ad,Ad,Ad,Ad])] (A_ [3,2,1] 4 [J' 0 1,C' (.d7 0 none 4),J' 0 3,E_ (.V_ 2 1 6 5)] (A_ [3,2,1] 7 [J' 1 1,C' (.d7 0 none 7),J' 1 3,E_ (.V_ 2 1 9 8)] (A_ [3,2,1] 10 [J' 2 1,C' (.d7 0 none 10),J' 2 3,E_ (.V_ 2 1 12 11)] (A_ [3,2] 13 [J' 3 1,C' (.d7 0 none 13),J' 3 3,E_ (.V_ 2 1 15 14)] (A_ [2] 16 [C' (.d7 2 (some 4) 3),E_ (.V_ 1 4 2 16)] .ret)))))))
def Im:Fn:=⟨⟨1,17,3,true,[.cell 2 (some 4)],wP⟩,[.agg [Au,Au,Au,Au]],.one (.agg [AN,AN,AN,AN])⟩
theorem gh:Im.A:=AM trivial
def Ff:Cw->Int×Int×Int×Int:=Im.V
def Pd:Cw->Prop:=Im.O
theorem fU:Im.B:=AO trivial (by kernel_rfl) (λx=>by kernel_rfl)
def yW:d4:=(A_ [2,1] 1 [O' 0 5 0,B_ (.e_ 1 [Ad,Ad,Ad,Ad,Ad])] (A_ [3,2,1] 3 [B_ (.e_ 2 [Ad,Ad,Ad,Ad,Ad])] (A_ [3,2,1] 4 [J' 0 1,C' (.d7 0 none 4),J' 0 3,E_ (.V_ 2 1 6 5)] (A_ [3,2] 7 [J' 1 1,K_ 0 4 7,I' Im [8],J' 1 3,E_ (.V_ 2 4 10 9)] (A_ [2] 11 [C' (.d7 2 (some 5) 3),E_ (.V_ 1 5 2 11)] .ret)))))
def K5:Fn:=⟨⟨1,12,3,true,[.cell 2 (some 5)],yW⟩,[.agg [Au,Au,Au,Au,Au]],.one (.agg [AN,AN,AN,AN,AN])⟩
theorem yT:K5.A:=AM ⟨gh,trivial⟩
def F8:Dc->Int×Int×Int×Int×Int:=K5.V
def Rz:Dc->Prop:=K5.O
theorem y7:K5.B:=AO ⟨fU,trivial⟩ (by kernel_rfl) (λx=>by kernel_rfl)
def xn:d4:=(A_ [0] 2 [Q_ (.c .b_)] (A_ [3,0] 5 [D_ 0,L' 5,Q' AU (.mkSlice 5 [Ad,Ad,Ad,Ad,Ad] 6),G_ 3 (C_ 7)] (.seq [3] (A_ [4,3,0] 4 [E' 0] (.block 0 (.loop [0,3,4] 1 (.seq [4,3,0] (A_ [11,4,3,0] 8 [C_ 4,D_ 0,L' 9,M' 8 10] (.cond 11 .skip (.exit 0))) (.seq [4,3,0] (.block 1 (At 14 [D_ 3,C_ 4,D_ 0,C_ 4,N_ 5 16 17,B_ (.i5 (some 5) 18),I' K5 [19],N_ 5 14 15,E_ (.f8 5 21 20)])) (At 12 [C_ 4,M_ 12 AA,G_ 4 (C_ 13)])))))) (A_ [2] 22 [C_ 3,G_ 2 (C_ 22)] .ret))))
def KX:Fn:=⟨⟨1,23,0,false,[.tmp 2],xn⟩,[.one .Z' (.sl AU)],.one (.one .own (.sl AU))⟩
theorem xL:KX.A:=AM ⟨yT,trivial⟩
def VH:Bg->List Dc:=KX.V
def Vq:Bg->Prop:=KX.O
theorem xM:KX.B:=AO ⟨y7,trivial⟩ (by kernel_rfl) (λx=>by kernel_rfl)
def tf:d4:=(A_ [1] 1 [O' 0 4 0,Q_ As] (A_ [2] 3 [K_ 0 4 1,I' Ef [3],C_ 4,F_ 5 (J' 0 1),F_ 5 (J_ 0 6),F_ 5 (Nm 7 (.c (.int .i64 6))),F_ 5 (Q_ 8),F' 9 (J' 0 1),F' 9 (J_ 0 10),F' 9 (Nm 11 (.c (.int .i64 7))),F_ 5 (L_ 9 AV 12),L_ 5 13 As,G_ 2 (C_ 14)] .ret))
def FC:Fn:=⟨⟨1,15,1,true,[.tmp 2],tf⟩,[.agg [Au,Au,Au,Au]],.one (.one .own (.bool))⟩
theorem YU:FC.A:=AM ⟨UI,trivial⟩
def Kw:Cw->Bool:=FC.V
def O8:Cw->Prop:=FC.O
theorem YQ:FC.B:=AO ⟨Va,trivial⟩ (by kernel_rfl) (λx=>by kernel_rfl)
def Zaa:d4:=(A_ [0] 2 [Q_ As] (A_ [3,0] 3 [E' 0] (.seq [] (A_ [4,3,0] 4 [E' 0] (.block 0 (.loop [0,3,4] 1 (.seq [4,3,0] (A_ [9,4,3,0] 6 [C_ 4,D_ 0,L' 7,M' 6 8] (.cond 9 .skip (.exit 0))) (.seq [4,3,0] (.block 1 (A_ [5,4,3,0] 12 [D_ 0,C_ 4,N_ 5 12 13,J' 1 14,C' (.i5 (some 4) 15),G_ 5 (B_ (.e_ 0 [Ad,Ad,Ad,Ad])),E_ (.V_ 0 4 5 16)] (.seq [4,3,0] (A_ [48,4,3,0] 17 [D_ 0,C_ 4,N_ 5 17 18,J' 0 19,O_ 20,I' BR [21,AL,(.c (.int .i64 31))],P' 22,C_ 23,F' 24 (Q_ 3),F' 24 (I_ (.a true (.mv 0) none)),F' 24 (Q_ 4),F' 24 (N_ 5 26 27),F' 24 (J' 0 28),F' 24 (O_ 29),F' 24 (B_ (.bin .shr 25 30)),F' 24 (B_ (.bin .and 31 AA)),F' 24 (Nm 32 AA),L_ 24 AV 33,C_ 34,F' 35 (K_ 0 4 5),F' 35 (I' Ef [36]),F' 35 (P' 37),L_ 35 AV 38,C_ 39,F' 40 (J' 0 5),F' 40 (J_ 0 41),F' 40 (Nm 42 AA),L_ 40 AV 43,C_ 44,F' 45 (K_ 0 4 5),F' 45 (I' FC [46]),L_ 45 AV 47] (.cond 48 (A_ [2] 2 [Q_ As] .ret) .skip)) (At 49 [C_ 3,D_ 0,C_ 4,N_ 5 50 51,J' 0 52,O_ 53,B_ (.bin .shl AA 54),B_ (.bin .or 49 55),G_ 3 (C_ 56)])))) (At 10 [C_ 4,M_ 10 AA,G_ 4 (C_ 11)])))))) (A_ [2] 2 [Q_ AV] .ret))))
def Eg:Fn:=⟨⟨1,57,1,true,[.tmp 2],Zaa⟩,[.one .Z' (.sl AU)],.one (.one .own (.bool))⟩
theorem VF:Eg.A:=AM ⟨Gb,UI,YU,trivial⟩
def EA:Bg->Bool:=Eg.V
def Nt:Bg->Prop:=Eg.O
theorem VL:Eg.B:=AO ⟨Ga,Va,YQ,trivial⟩ (by kernel_rfl) (λx=>by kernel_rfl)
def Zca:d4:=(A_ [1,0] 4 [E' 0] (A_ [4] 5 [C_ 0,C_ 1,B_ (.bin .shr 5 6),B_ (.bin .and 7 AA),G_ 4 (C_ 8)] .ret))
def GR:Fn:=⟨⟨2,9,0,true,[.tmp 4],Zca⟩,[.one .Z' (.int .i64),.one .Z' (.int .i64)],.one (.one .own (.int .i64))⟩
theorem jh:GR.A:=AM trivial
def Ei:Ar->Int:=GR.V
def Wb:Ar->Prop:=GR.O
theorem iZ:GR.B:=AO trivial (by kernel_rfl) (λx=>by kernel_rfl)
def zP:d4:=(A_ [0] 2 [Q_ As] (A_ [3,0] 3 [E' 0] (.seq [] (A_ [8,7,6,3] 6 [D_ 0,L' 6,E' 0] (.block 0 (.loop [3,6,7,8] 1 (A_ [9,8,7,6,3] 9 [M' 8 7] (.seq [8,7,6,3] (.cond 9 .skip (.exit 0)) (.seq [8,7,6,3] (.block 1 (A_ [8,7,6,5,3] 10 [N_ 5 6 8,C' (.i5 (some 5) 10),G_ 5 (B_ (.e_ 0 [Ad,Ad,Ad,Ad,Ad])),E_ (.V_ 0 5 5 11)] (.seq [8,7,6,5,3] (A_ [32,8,7,6,5,3] 12 [J' 0 5,J_ 0 12,M' 13 AL,C_ 14,F' 15 (J' 0 5),F' 15 (J_ 0 16),F' 15 (B_ (.bin .gtr 17 (.c (.int .i64 31)))),L_ 15 AV 18,C_ 19,F' 20 (Q_ 3),F' 20 (J' 0 5),F' 20 (J_ 0 22),F' 20 (I' GR [21,23]),F' 20 (Nm 24 AA),L_ 20 AV 25,C_ 26,F' 27 (J' 1 5),F' 27 (K_ 0 4 28),F' 27 (I' EX [29]),F' 27 (P' 30),L_ 27 AV 31] (.cond 32 (A_ [2] 2 [Q_ As] .ret) .skip)) (.seq [8,7,6,5,3] (A_ [35,8,7,6,5,3] 33 [J' 1 5,J' 0 33,J_ 0 34] (.block 2 (.seq [36,8,7,6,5,3] (A_ [36,35,8,7,6,5,3] 37 [Nm 35 AA,G_ 36 (C_ 37)] (.cond 36 .skip (A_ [36,35,8,7,6,5,3] 38 [Nm 35 (.c (.int .i64 6)),G_ 36 (C_ 38)] (.cond 36 .skip (At 39 [Nm 35 (.c (.int .i64 7)),G_ 36 (C_ 39)]))))) (.cond 36 (A_ [2] 2 [Q_ As] .ret) .skip)))) (At 40 [C_ 3,J' 0 5,J_ 0 41,B_ (.bin .shl AA 42),B_ (.bin .or 40 43),G_ 3 (C_ 44)]))))) (At 45 [M_ 8 AA,G_ 8 (C_ 45)]))))))) (A_ [2] 2 [Q_ AV] .ret))))
def EY:Fn:=⟨⟨1,46,1,true,[.tmp 2],zP⟩,[.one .Z' (.sl AU)],.one (.one .own (.bool))⟩
theorem Vw:EY.A:=AM ⟨jh,U8,trivial⟩
def Ct:Bg->Bool:=EY.V
def Nw:Bg->Prop:=EY.O
theorem Vy:EY.B:=AO ⟨iZ,U1,trivial⟩ (by kernel_rfl) (λx=>by kernel_rfl)
def yA:d4:=(A_ [3,2] 2 [O' 0 5 0,O' 1 5 1,Q_ As] (.seq [3,2] (A_ [9,3,2] 5 [J' 0 2,J_ 0 5,J' 0 3,J_ 1 7,N' 6 8] (.cond 9 (A_ [4] 4 [Q_ As] .ret) .skip)) (.seq [] (A_ [15] 10 [J' 1 2,K_ 0 4 10,J' 1 3,K_ 1 4 12,I' Ij [11,13],P' 14] (.cond 15 (A_ [4] 4 [Q_ As] .ret) .skip)) (A_ [4] 4 [Q_ AV] .ret))))
def K4:Fn:=⟨⟨2,16,2,true,[.tmp 4],yA⟩,[.agg [Au,Au,Au,Au,Au],.agg [Au,Au,Au,Au,Au]],.one (.one .own (.bool))⟩
theorem yE:K4.A:=AM ⟨fV,trivial⟩
def K9:pk->Bool:=K4.V
def RB:pk->Prop:=K4.O
theorem zr:K4.B:=AO ⟨gu,trivial⟩ (by kernel_rfl) (λx=>by kernel_rfl)
def yd:d4:=(A_ [1,0] 4 [Q_ As] (.seq [1,0] (A_ [10,1,0] 6 [D_ 0,L' 6,D_ 1,L' 8,N' 7 9] (.cond 10 (A_ [4] 4 [Q_ As] .ret) .skip)) (.seq [] (A_ [5,1,0] 5 [E' 0] (.block 0 (.loop [0,1,5] 1 (.seq [5,1,0] (A_ [14,5,1,0] 11 [C_ 5,D_ 0,L' 12,M' 11 13] (.cond 14 .skip (.exit 0))) (.seq [5,1,0] (.block 1 (A_ [26,5,1,0] 17 [D_ 0,C_ 5,G' (rg 2) (N_ 5 17 18),G' (rg 3) (B_ (.i5 (some 5) 19)),D_ 1,C_ 5,G' [4,5] (N_ 5 21 22),G' [4,5,6] (B_ (.i5 (some 5) 23)),G' (rg 8) (I' K4 [20,24]),G' (rg 9) (P' 25)] (.cond 26 (A_ [4] 4 [Q_ As] .ret) .skip))) (At 15 [C_ 5,M_ 15 AA,G_ 5 (C_ 16)])))))) (A_ [4] 4 [Q_ AV] .ret))))
def KU:Fn:=⟨⟨2,27,0,true,[.tmp 4],yd⟩,[.one .Z' (.sl AU),.one .Z' (.sl AU)],.one (.one .own (.bool))⟩
theorem xh:KU.A:=AM ⟨yE,trivial⟩
def Vs:FZ->Bool:=KU.V
def Vl:FZ->Prop:=KU.O
theorem xz:KU.B:=AO ⟨zr,trivial⟩ (by kernel_rfl) (λx=>by kernel_rfl)
def uM:d4:=(A_ [1,0] 4 [E' 0] (A_ [5,1,0] 5 [E' 1] (.seq [5,1] (A_ [8,5,1,0] 7 [C_ 0,I' BR [7,AL,(.c (.int .i64 15))]] (.cond 8 (At 9 [C_ 0,B_ (.bin .or AA 9),G_ 5 (C_ 10)]) .skip)) (.seq [5] (A_ [6,5,1] 6 [E' 0] (.block 0 (.loop [1,5,6] 1 (.seq [6,5,1] (A_ [18,6,5,1] 11 [C_ 6,D_ 1,L' 12,M' 11 13,C_ 14,F_ 15 (I_ (.a true (.mv 1) none)),F_ 15 (I' Eg [16]),L_ 15 17 As] (.cond 18 .skip (.exit 0))) (.seq [6,5,1] (.block 1 (A_ [27,6,5,1] 21 [D_ 1,C_ 6,N_ 5 21 22,J' 1 23,J' 0 24,O_ 25,Nm 26 (.c (.int .i64 3))] (.cond 27 (At 28 [C_ 5,D_ 1,C_ 6,N_ 5 29 30,J' 1 31,J' 3 32,O_ 33,B_ (.bin .shl AA 34),B_ (.bin .or 28 35),G_ 5 (C_ 36)]) .skip))) (At 19 [C_ 6,M_ 19 AA,G_ 6 (C_ 20)])))))) (A_ [4] 37 [C_ 5,G_ 4 (C_ 37)] .ret)))))
def KE:Fn:=⟨⟨2,38,0,true,[.tmp 4],uM⟩,[.one .Z' (.int .i64),.one .Z' (.sl AU)],.one (.one .own (.int .i64))⟩
theorem vf:KE.A:=AM ⟨Gb,VF,trivial⟩
def Rr:Ya->Int:=KE.V
def UN:Ya->Prop:=KE.O
theorem uK:KE.B:=AO ⟨Ga,VL,trivial⟩ (by kernel_rfl) (λx=>by kernel_rfl)
def vm:d4:=(A_ [1,0] 4 [E' 0] (A_ [5,1,0] 5 [E' 1] (.seq [5,1] (A_ [13,5,1,0] 8 [C_ 0,B_ (.bin .geq 8 AL),C_ 9,F_ 10 (Q_ 0),F_ 10 (B_ (.bin .leq 11 (.c (.int .i64 15)))),L_ 10 12 As] (.cond 13 (At 14 [C_ 5,C_ 0,B_ (.bin .or 14 15),G_ 5 (C_ 16)]) .skip)) (.seq [5,1] (A_ [19,5,1] 17 [D_ 1,I' EY [17],P' 18] (.cond 19 (A_ [4] 20 [C_ 5,G_ 4 (C_ 20)] .ret) .skip)) (.seq [5] (A_ [23,22,21,5] 21 [D_ 1,L' 21,E' 0] (.block 0 (.loop [5,21,22,23] 1 (A_ [24,23,22,21,5] 24 [M' 23 22] (.seq [23,22,21,5] (.cond 24 .skip (.exit 0)) (.seq [23,22,21,5] (.block 1 (A_ [23,22,21,7,5] 25 [N_ 5 21 23,C' (.i5 (some 5) 25),G_ 7 (B_ (.e_ 0 [Ad,Ad,Ad,Ad,Ad])),E_ (.V_ 0 5 7 26)] (A_ [30,23,22,21,7,5] 27 [J' 1 7,J' 0 27,J_ 0 28,Nm 29 (.c (.int .i64 3))] (.cond 30 (At 31 [C_ 5,J' 1 7,J' 3 32,J_ 0 33,B_ (.bin .shl AA 34),B_ (.bin .or 31 35),G_ 5 (C_ 36)]) .skip)))) (At 37 [M_ 23 AA,G_ 23 (C_ 37)]))))))) (A_ [4] 38 [C_ 5,G_ 4 (C_ 38)] .ret))))))
def KF:Fn:=⟨⟨2,39,1,true,[.tmp 4],vm⟩,[.one .Z' (.int .i64),.one .Z' (.sl AU)],.one (.one .own (.int .i64))⟩
theorem vD:KF.A:=AM ⟨Vw,trivial⟩
def EW:Ya->Int:=KF.V
def UQ:Ya->Prop:=KF.O
theorem uN:KF.B:=AO ⟨Vy,trivial⟩ (by kernel_rfl) (λx=>by kernel_rfl)
end
section
set_option maxRecDepth 100000
theorem xo(x):Mf x=Y_ (c_ (iSub .i64 x.2 (U_ x.1)) 0) (-1) (iSub .i64 x.2 (U_ x.1)):=(KQ.v x).trans (by kernel_rfl)
theorem xk(x):Vo x=True:=(KQ.o x).trans (by kernel_rfl)
theorem wI(x):Ff x=(x.1,x.2.1,x.2.2.1,x.2.2.2):=(Im.v x).trans (by kernel_rfl)
theorem wT(x):Pd x=True:=(Im.o x).trans (by kernel_rfl)
theorem Zj5(x:Dc)(a)(_:a=Ff (x.2.1,x.2.2.1,x.2.2.2.1,x.2.2.2.2)):F8 x=(x.1,a.1,a.2.1,a.2.2.1,a.2.2.2):=by subst_vars;exact(K5.v x).trans (by kernel_rfl)
abbrev yY:=λx=>Zj5 x _ rfl
theorem zh(x):Rz x=Pd (x.2.1,x.2.2.1,x.2.2.2.1,x.2.2.2.2):=(K5.o x).trans (by kernel_rfl)
theorem Zj9(x:Bg)(b)(_:b=λ(x0:DR)=>So x (R_ x0.2) (0,0,0,0,0))(a)(_:a=λ(x0:DR)=>F8 ((b x0).1,(b x0).2.1,(b x0).2.2.1,(b x0).2.2.2.1,(b x0).2.2.2.2))(c)(_:c=(λ(x0:DR)=>(lSet x0.1 (R_ x0.2) ((a x0).1,(a x0).2.1,(a x0).2.2.1,(a x0).2.2.2.1,(a x0).2.2.2.2),V' .i64 x0.2 1)))(d)(_:d=U_ x)(e)(_:e=(λ(x0:DR)=>c_ x0.2 d))(f)(_:f=lRep d (0,0,0,0,0)):VH x=(Al e c (f,0)).1/\Vq x=(((0:Int)<=d/\AD (Int.toNat d*5))/\Z_ e c (λ(x0:DR)=>(c_ x0.2 d=true->((0:Int)<=x0.2/\x0.2<(List.length x:Int))/\R_ x0.2<List.length x/\Rz ((b x0).1,(b x0).2.1,(b x0).2.2.1,(b x0).2.2.2.1,(b x0).2.2.2.2)/\((0:Int)<=x0.2/\x0.2<(List.length x0.1:Int))/\R_ x0.2<List.length x0.1)/\(c_ x0.2 d=false->True)) (f,0)):=by subst_vars;exact⟨(KX.v x).trans (by kernel_rfl),(KX.o x).trans (by kernel_rfl)⟩
abbrev yr:=λx=>(Zj9 x _ rfl _ rfl _ rfl _ rfl _ rfl _ rfl).1
abbrev yq:=λx=>(Zj9 x _ rfl _ rfl _ rfl _ rfl _ rfl _ rfl).2
theorem YV(x):Kw x=W_ (D7 (x.1,x.2.1,x.2.2.1,x.2.2.2)) (w_ (g9 x.1 6) (g9 x.1 7)):=(FC.v x).trans (by kernel_rfl)
theorem sS(x):O8 x=Nr (x.1,x.2.1,x.2.2.1,x.2.2.2):=(FC.o x).trans (by kernel_rfl)
theorem Zkc(x:Bg)(a)(_:a=λ(x0:Ar)=>So x (R_ x0.2) (0,0,0,0,0))(c)(_:c=λ(x0:Ar)=>U' (D7 ((a x0).2.1,(a x0).2.2.1,(a x0).2.2.2.1,(a x0).2.2.2.2)))(f)(_:f=λ(x0:Ar)=>g9 (iAnd .i64 (iShr .i64 x0.1 (a x0).1) 1) 1)(i)(_:i=λ(x0:Ar)=>U' (BM ((a x0).1,0,31)))(b)(_:b=λ(x0:Ar)=>w_ (i x0) (w_ (f x0) (w_ (c x0) (w_ (g9 (a x0).2.1 1) (Kw ((a x0).2.1,(a x0).2.2.1,(a x0).2.2.2.1,(a x0).2.2.2.2))))))(d)(_:d=List.length x)(e)(_:e=(λ(x0:Ar)=>(iOr .i64 x0.1 (iShl .i64 1 (a x0).1),V' .i64 x0.2 1)))(g)(_:g=λ(x0:Ar)=>(0:Int)<=x0.2/\x0.2<(d:Int))(j)(_:j=U_ x)(h)(_:h=(λ(x0:Ar)=>W_ (c_ x0.2 j) (U' (b x0)))):EA x=U' (c_ (Al h e (0,0)).2 j)/\Nt x=Z_ h e (λ(x0:Ar)=>(c_ x0.2 j=true->g x0/\R_ x0.2<d/\(g x0/\R_ x0.2<d/\D8 ((a x0).1,0,31)/\(i x0=true->True)/\(i x0=false->g x0/\R_ x0.2<d/\(0:Int)<=(a x0).1/\(f x0=true->True)/\(f x0=false->Nr ((a x0).2.1,(a x0).2.2.1,(a x0).2.2.2.1,(a x0).2.2.2.2)/\(c x0=true->True)/\(c x0=false->(g9 (a x0).2.1 1=true->True)/\(g9 (a x0).2.1 1=false->O8 ((a x0).2.1,(a x0).2.2.1,(a x0).2.2.2.1,(a x0).2.2.2.2))))))/\(b x0=true->True)/\(b x0=false->g x0/\R_ x0.2<d/\(0:Int)<=(a x0).1))/\(c_ x0.2 j=false->True)) (0,0):=by subst_vars;exact⟨(Eg.v x).trans (by kernel_rfl),(Eg.o x).trans (by kernel_rfl)⟩
abbrev zX:=λx=>(Zkc x _ rfl _ rfl _ rfl _ rfl _ rfl _ rfl _ rfl _ rfl _ rfl _ rfl).1
abbrev yD:=λx=>(Zkc x _ rfl _ rfl _ rfl _ rfl _ rfl _ rfl _ rfl _ rfl _ rfl _ rfl).2
theorem V9(x):Ei x=iAnd .i64 (iShr .i64 x.1 x.2) 1:=(GR.v x).trans (by kernel_rfl)
theorem je(x):Wb x=((0:Int)<=x.2):=(GR.o x).trans (by kernel_rfl)
theorem Zkf(x:Bg)(a)(_:a=λ(x0:Ar)=>So x (R_ x0.2) (0,0,0,0,0))(f)(_:f=λ(x0:Ar)=>g9 (Ei (x0.1,(a x0).1)) 1)(b)(_:b=λ(x0:Ar)=>w_ (c_ (a x0).1 0) (w_ (iGt (a x0).1 31) (w_ (f x0) (U' (B4 ((a x0).2.1,(a x0).2.2.1,(a x0).2.2.2.1,(a x0).2.2.2.2))))))(c)(_:c=λ(x0:Ar)=>w_ (g9 (a x0).2.1 1) (w_ (g9 (a x0).2.1 6) (g9 (a x0).2.1 7)))(g)(_:g=U_ x)(d)(_:d=(λ(x0:Ar)=>W_ (c_ x0.2 g) (W_ (U' (b x0)) (U' (c x0)))))(e)(_:e=(λ(x0:Ar)=>(iOr .i64 x0.1 (iShl .i64 1 (a x0).1),V' .i64 x0.2 1))):Ct x=U' (c_ (Al d e (0,0)).2 g)/\Nw x=Z_ d e (λ(x0:Ar)=>(c_ x0.2 g=true->((0:Int)<=x0.2/\x0.2<(List.length x:Int))/\R_ x0.2<List.length x/\((c_ (a x0).1 0=true->True)/\(c_ (a x0).1 0=false->(iGt (a x0).1 31=true->True)/\(iGt (a x0).1 31=false->Wb (x0.1,(a x0).1)/\(f x0=true->True)/\(f x0=false->Np ((a x0).2.1,(a x0).2.2.1,(a x0).2.2.2.1,(a x0).2.2.2.2)))))/\(b x0=true->True)/\(b x0=false->(c x0=true->True)/\(c x0=false->(0:Int)<=(a x0).1)))/\(c_ x0.2 g=false->True)) (0,0):=by subst_vars;exact⟨(EY.v x).trans (by kernel_rfl),(EY.o x).trans (by kernel_rfl)⟩
abbrev Vz:=λx=>(Zkf x _ rfl _ rfl _ rfl _ rfl _ rfl _ rfl _ rfl).1
abbrev zG:=λx=>(Zkf x _ rfl _ rfl _ rfl _ rfl _ rfl _ rfl _ rfl).2
theorem zf(x):K9 x=W_ (U' (i_ x.1.1 x.2.1)) (U' (U' (Jp ((x.1.2.1,x.1.2.2.1,x.1.2.2.2.1,x.1.2.2.2.2),x.2.2.1,x.2.2.2.1,x.2.2.2.2.1,x.2.2.2.2.2)))):=(K4.v x).trans (by kernel_rfl)
theorem yI(x):RB x=((i_ x.1.1 x.2.1=true->True)/\(i_ x.1.1 x.2.1=false->Pg ((x.1.2.1,x.1.2.2.1,x.1.2.2.2.1,x.1.2.2.2.2),x.2.2.1,x.2.2.2.1,x.2.2.2.2.1,x.2.2.2.2.2))):=(K4.o x).trans (by kernel_rfl)
theorem Zkk(x:FZ)(b)(_:b=λ(x0:Int)=>So x.1 (R_ x0) (0,0,0,0,0))(c)(_:c=λ(x0:Int)=>So x.2 (R_ x0) (0,0,0,0,0))(d)(_:d=U_ x.1)(a)(_:a=(λ(x0:Int)=>W_ (c_ x0 d) (U' (U' (K9 (((b x0).1,(b x0).2.1,(b x0).2.2.1,(b x0).2.2.2.1,(b x0).2.2.2.2),(c x0).1,(c x0).2.1,(c x0).2.2.1,(c x0).2.2.2.1,(c x0).2.2.2.2))))))(e)(_:e=i_ d (U_ x.2))(f)(_:f=(λ(x0:Int)=>V' .i64 x0 1))(g)(_:g=List.length x.1)(h)(_:h=List.length x.2):Vs x=W_ (U' e) (U' (c_ (Al a f 0) d))/\Vl x=((e=true->True)/\(e=false->Z_ a f (λ(x0:Int)=>(c_ x0 d=true->((0:Int)<=x0/\x0<(g:Int))/\R_ x0<g/\((0:Int)<=x0/\x0<(h:Int))/\R_ x0<h/\RB (((b x0).1,(b x0).2.1,(b x0).2.2.1,(b x0).2.2.2.1,(b x0).2.2.2.2),(c x0).1,(c x0).2.1,(c x0).2.2.1,(c x0).2.2.2.1,(c x0).2.2.2.2))/\(c_ x0 d=false->True)) 0)):=by subst_vars;exact⟨(KU.v x).trans (by kernel_rfl),(KU.o x).trans (by kernel_rfl)⟩
abbrev xj:=λx=>(Zkk x _ rfl _ rfl _ rfl _ rfl _ rfl _ rfl _ rfl _ rfl).1
abbrev yb:=λx=>(Zkk x _ rfl _ rfl _ rfl _ rfl _ rfl _ rfl _ rfl _ rfl).2
theorem Zkm(x:Ya)(b)(_:b=λ(x0:Ar)=>So x.2 (R_ x0.2) (0,0,0,0,0))(a)(_:a=(λ(x0:Ar)=>(Y_ (g9 (b x0).2.1 3) (iOr .i64 x0.1 (iShl .i64 1 (b x0).2.2.2.2)) x0.1,V' .i64 x0.2 1)))(f)(_:f=U_ x.2)(c)(_:c=λ(x0:Ar)=>W_ (c_ x0.2 f) (EA x.2))(d)(_:d=List.length x.2)(e)(_:e=Y_ (BM (x.1,0,15)) (iOr .i64 1 x.1) 1)(g)(_:g=(λ(x0:Ar)=>c x0)):Rr x=(Al g a (e,0)).1/\UN x=(D8 (x.1,0,15)/\Z_ g a (λ(x0:Ar)=>((c_ x0.2 f=true->Nt x.2)/\(c_ x0.2 f=false->True))/\(c x0=true->((0:Int)<=x0.2/\x0.2<(d:Int))/\R_ x0.2<d/\(g9 (b x0).2.1 3=true->((0:Int)<=x0.2/\x0.2<(d:Int))/\R_ x0.2<d/\(0:Int)<=(b x0).2.2.2.2)/\(g9 (b x0).2.1 3=false->True))/\(c x0=false->True)) (e,0)):=by subst_vars;exact⟨(KE.v x).trans (by kernel_rfl),(KE.o x).trans (by kernel_rfl)⟩
abbrev wV:=λx=>(Zkm x _ rfl _ rfl _ rfl _ rfl _ rfl _ rfl _ rfl).1
abbrev wQ:=λx=>(Zkm x _ rfl _ rfl _ rfl _ rfl _ rfl _ rfl _ rfl).2
theorem Zkp(x:Ya)(c)(_:c=λ(x0:Ar)=>So x.2 (R_ x0.2) (0,0,0,0,0))(a)(_:a=(λ(x0:Ar)=>(Y_ (g9 (c x0).2.1 3) (iOr .i64 x0.1 (iShl .i64 1 (c x0).2.2.2.2)) x0.1,V' .i64 x0.2 1)))(b)(_:b=Y_ (W_ (iGe x.1 0) (iLe x.1 15)) (iOr .i64 1 x.1) 1)(f)(_:f=U_ x.2)(d)(_:d=(λ(x0:Ar)=>c_ x0.2 f))(e)(_:e=U' (Ct x.2))(g)(_:g=List.length x.2):EW x=Y_ e b (Al d a (b,0)).1/\UQ x=(Nw x.2/\(e=true->True)/\(e=false->Z_ d a (λ(x0:Ar)=>(c_ x0.2 f=true->((0:Int)<=x0.2/\x0.2<(g:Int))/\R_ x0.2<g/\(g9 (c x0).2.1 3=true->(0:Int)<=(c x0).2.2.2.2)/\(g9 (c x0).2.1 3=false->True))/\(c_ x0.2 f=false->True)) (b,0))):=by subst_vars;exact⟨(KF.v x).trans (by kernel_rfl),(KF.o x).trans (by kernel_rfl)⟩
abbrev vP:=λx=>(Zkp x _ rfl _ rfl _ rfl _ rfl _ rfl _ rfl _ rfl).1
abbrev vS:=λx=>(Zkp x _ rfl _ rfl _ rfl _ rfl _ rfl _ rfl _ rfl).2
attribute [irreducible] Mf Vo Ff Pd F8 Rz VH Vq Kw O8 EA Nt Ei Wb Ct Nw K9 RB Vs Vl Rr UN EW UQ
end
section
set_option maxRecDepth 8000
def s9:d4:=(A_ [1,0] 4 [E' 0] (A_ [1] 5 [C_ 1,D_ 0,L' 6,B_ (.bin .sub 5 7),G_ 1 (C_ 8)] (.seq [1] (A_ [10,1] 9 [C_ 1,M' 9 AL] (.cond 10 (A_ [4] 4 [E' (-1)] .ret) .skip)) (A_ [4] 11 [C_ 1,G_ 4 (C_ 11)] .ret))))
def Ko:Fn:=⟨⟨2,12,0,true,[.tmp 4],s9⟩,[.one .Z' (.sl AB),.one .Z' (.int .i64)],.one (.one .own (.int .i64))⟩
theorem tx:Ko.A:=AM trivial
def Ew:LQ->Int:=Ko.V
def Q8:LQ->Prop:=Ko.O
theorem tZ:Ko.B:=AO trivial (by kernel_rfl) (λx=>by kernel_rfl)
def rM:d4:=(A_ [1,0] 4 [E' 0] (A_ [1,0] 6 [C_ 1,D_ 0,L' 7,B_ (.bin .sub 6 8),G_ 1 (C_ 9)] (.seq [1,0] (A_ [11,1,0] 10 [C_ 1,M' 10 AL] (.cond 11 (A_ [4] 4 [E' (-1)] .ret) .skip)) (.seq [1] (A_ [5,1,0] 5 [E' 0] (.block 0 (.loop [0,1,5] 1 (.seq [5,1,0] (A_ [15,5,1,0] 12 [C_ 5,D_ 0,L' 13,M' 12 14] (.cond 15 .skip (.exit 0))) (.seq [5,1,0] (.block 1 (A_ [5,1,0] 18 [D_ 0,C_ 5,N_ 1 18 19,O_ 20,C_ 1,I' Ko [21,22],G_ 1 (C_ 23)] (A_ [25,5,1,0] 24 [C_ 1,M' 24 AL] (.cond 25 (A_ [4] 4 [E' (-1)] .ret) .skip)))) (At 16 [C_ 5,M_ 16 AA,G_ 5 (C_ 17)])))))) (A_ [4] 26 [C_ 1,G_ 4 (C_ 26)] .ret)))))
def Kg:Fn:=⟨⟨2,27,0,true,[.tmp 4],rM⟩,[.one .Z' (.sl (.one (.sl AB))),.one .Z' (.int .i64)],.one (.one .own (.int .i64))⟩
theorem re:Kg.A:=AM ⟨tx,trivial⟩
def L9:LG->Int:=Kg.V
def Uj:LG->Prop:=Kg.O
theorem rz:Kg.B:=AO ⟨tZ,trivial⟩ (by kernel_rfl) (λx=>by kernel_rfl)
def wO:d4:=(A_ [2,1] 2 [O' 0 2 0,G_ 4 (E' 0)] (A_ [1] 5 [J' 1 2,J_ 0 5,C_ 1,I' Kg [6,7],G_ 1 (C_ 8)] (.seq [1] (A_ [10,1] 9 [C_ 1,M' 9 AL] (.cond 10 (A_ [4] 4 [E' (-1)] .ret) .skip)) (A_ [4] 11 [C_ 1,G_ 4 (C_ 11)] .ret))))
def KC:Fn:=⟨⟨2,12,1,true,[.tmp 4],wO⟩,[.agg [Au,(.Z',.sl (.one (.sl AB)))],.one .Z' (.int .i64)],.one (.one .own (.int .i64))⟩
theorem wN:KC.A:=AM ⟨re,trivial⟩
def Fh:Yf->Int:=KC.V
def U7:Yf->Prop:=KC.O
theorem u7:KC.B:=AO ⟨rz,trivial⟩ (by kernel_rfl) (λx=>by kernel_rfl)
def tX:d4:=(A_ [0] 2 [Q_ (.c .b_)] (A_ [3,0] 5 [D_ 0,L' 5,Q' AB (.mkSlice 4 [Ad,Ad,Ad,Ad] 6),G_ 3 (C_ 7)] (.seq [3] (A_ [4,3,0] 4 [E' 0] (.block 0 (.loop [0,3,4] 1 (.seq [4,3,0] (A_ [11,4,3,0] 8 [C_ 4,D_ 0,L' 9,M' 8 10] (.cond 11 .skip (.exit 0))) (.seq [4,3,0] (.block 1 (At 14 [D_ 3,C_ 4,D_ 0,C_ 4,N_ 4 16 17,B_ (.i5 (some 4) 18),I' Im [19],N_ 4 14 15,E_ (.f8 4 21 20)])) (At 12 [C_ 4,M_ 12 AA,G_ 4 (C_ 13)])))))) (A_ [2] 22 [C_ 3,G_ 2 (C_ 22)] .ret))))
def Kq:Fn:=⟨⟨1,23,0,false,[.tmp 2],tX⟩,[.one .Z' (.sl AB)],.one (.one .own (.sl AB))⟩
theorem tJ:Kq.A:=AM ⟨gh,trivial⟩
def Pk:Dp->List Cw:=Kq.V
def Q2:Dp->Prop:=Kq.O
theorem tW:Kq.B:=AO ⟨fU,trivial⟩ (by kernel_rfl) (λx=>by kernel_rfl)
def sG:d4:=(A_ [0] 2 [Q_ (.c .b_)] (A_ [3,0] 5 [D_ 0,L' 5,Q' (.one (.sl AB)) (.mkSlice 1 [.b_] 6),G_ 3 (C_ 7)] (.seq [3] (A_ [4,3,0] 4 [E' 0] (.block 0 (.loop [0,3,4] 1 (.seq [4,3,0] (A_ [11,4,3,0] 8 [C_ 4,D_ 0,L' 9,M' 8 10] (.cond 11 .skip (.exit 0))) (.seq [4,3,0] (.block 1 (At 14 [D_ 3,C_ 4,D_ 0,C_ 4,N_ 1 16 17,O_ 18,I' Kq [19],N_ 1 14 15,E_ (.f8 1 21 20)])) (At 12 [C_ 4,M_ 12 AA,G_ 4 (C_ 13)])))))) (A_ [2] 22 [C_ 3,G_ 2 (C_ 22)] .ret))))
def Kj:Fn:=⟨⟨1,23,0,false,[.tmp 2],sG⟩,[.one .Z' (.sl (.one (.sl AB)))],.one (.one .own (.sl (.one (.sl AB))))⟩
theorem rW:Kj.A:=AM ⟨tJ,trivial⟩
def UG:Cv->List Dp:=Kj.V
def Uh:Cv->Prop:=Kj.O
theorem sP:Kj.B:=AO ⟨tW,trivial⟩ (by kernel_rfl) (λx=>by kernel_rfl)
def wX:d4:=(A_ [2,1] 1 [O' 0 2 0,B_ (.e_ 1 [Ad,.b_])] (A_ [3,2,1] 3 [B_ (.e_ 2 [Ad,.b_])] (A_ [3,2,1] 4 [J' 0 1,C' (.d7 0 none 4),J' 0 3,E_ (.V_ 2 1 6 5)] (A_ [3,2] 7 [J' 1 1,J_ 0 7,I' Kj [8],J' 1 3,E_ (.V_ 2 1 10 9)] (A_ [2] 11 [C' (.d7 2 (some 2) 3),E_ (.V_ 1 2 2 11)] .ret)))))
def KG:Fn:=⟨⟨1,12,3,false,[.cell 2 (some 2)],wX⟩,[.agg [Au,(.Z',.sl (.one (.sl AB)))]],.one (.agg [AN,(.own,.sl (.one (.sl AB)))])⟩
theorem vJ:KG.A:=AM ⟨rW,trivial⟩
def Rl:B1->Int×Cv:=KG.V
def Vc:B1->Prop:=KG.O
theorem vO:KG.B:=AO ⟨sP,trivial⟩ (by kernel_rfl) (λx=>by kernel_rfl)
def ux:d4:=(A_ [1] 1 [O' 0 2 0,Q_ As] (.seq [1] (A_ [3,1] 3 [E' 0] (.block 0 (.loop [1,3] 1 (.seq [3,1] (A_ [10,3,1] 6 [C_ 3,J' 1 1,J_ 0 7,L' 8,M' 6 9] (.cond 10 .skip (.exit 0))) (.seq [3,1] (.block 1 (.seq [3,1] (A_ [21,3,1] 13 [J' 1 1,G' (rg 1) (J_ 0 13),C_ 3,G' (rg 3) (N_ 1 14 15),G' (rg 4) (O_ 16),G' (rg 5) (L' 17),J' 0 1,G' [6] (J_ 0 19),G' (rg 8) (N' 18 20)] (.cond 21 (A_ [2] 2 [Q_ As] .ret) .skip)) (A_ [4,3,1] 4 [E' 0] (.block 2 (.loop [1,3,4] 1 (.seq [4,3,1] (A_ [29,4,3,1] 22 [C_ 4,J' 1 1,J_ 0 23,C_ 3,N_ 1 24 25,O_ 26,L' 27,M' 22 28] (.cond 29 .skip (.exit 2))) (.seq [4,3,1] (.block 3 (A_ [5,4,3,1] 32 [J' 1 1,J_ 0 32,C_ 3,N_ 1 33 34,O_ 35,C_ 4,N_ 4 36 37,C' (.i5 (some 4) 38),G_ 5 (B_ (.e_ 1 [Ad,Ad,Ad,Ad])),E_ (.V_ 1 4 5 39)] (A_ [64,4,3,1] 40 [K_ 1 4 5,I' Ef [40],P' 41,C_ 42,F' 43 (J' 0 5),F' 43 (J_ 1 44),F' 43 (Nm 45 AA),F' 43 (Q_ 46),F_ 47 (Q_ 3),F_ 47 (Nm 48 AL),F' 43 (L_ 47 49 As),L_ 43 AV 50,C_ 51,F' 52 (J' 0 5),F' 52 (J_ 1 53),F' 52 (N' 54 (.c (.int .i64 9))),F' 52 (Q_ 55),F_ 56 (J' 3 5),F_ 56 (J_ 1 57),F_ 56 (J' 1 1),F_ 56 (J_ 0 59),F_ 56 (L' 60),F_ 56 (B_ (.bin .geq 58 61)),F' 52 (L_ 56 62 As),L_ 52 AV 63] (.cond 64 (A_ [2] 2 [Q_ As] .ret) .skip)))) (At 30 [C_ 4,M_ 30 AA,G_ 4 (C_ 31)])))))))) (At 11 [C_ 3,M_ 11 AA,G_ 3 (C_ 12)])))))) (A_ [2] 65 [J' 0 1,J_ 0 65,I' BR [66,AA,(.c (.int .i64 32))],C_ 67,F_ 68 (J' 1 1),F_ 68 (J_ 0 69),F_ 68 (L' 70),F_ 68 (I' BR [71,AA,(.c (.int .i64 4))]),L_ 68 72 As,G_ 2 (C_ 73)] .ret)))
def Ip:Fn:=⟨⟨1,74,2,true,[.tmp 2],ux⟩,[.agg [Au,(.Z',.sl (.one (.sl AB)))]],.one (.one .own (.bool))⟩
theorem fX:Ip.A:=AM ⟨UI,Gb,Gb,trivial⟩
def GJ:B1->Bool:=Ip.V
def Rc:B1->Prop:=Ip.O
theorem gm:Ip.B:=AO ⟨Va,Ga,Ga,trivial⟩ (by kernel_rfl) (λx=>by kernel_rfl)
def vT:d4:=(A_ [1] 1 [O' 0 2 0,Q_ As] (.seq [1] (A_ [26,1] 7 [J' 0 1,J_ 0 7,M' 8 AA,C_ 9,F' 10 (J' 0 1),F' 10 (J_ 0 11),F' 10 (B_ (.bin .gtr 12 (.c (.int .i64 32)))),L_ 10 AV 13,C_ 14,F' 15 (J' 1 1),F' 15 (J_ 0 16),F' 15 (L' 17),F' 15 (M' 18 AA),L_ 15 AV 19,C_ 20,F' 21 (J' 1 1),F' 21 (J_ 0 22),F' 21 (L' 23),F' 21 (B_ (.bin .gtr 24 (.c (.int .i64 4)))),L_ 21 AV 25] (.cond 26 (A_ [2] 2 [Q_ As] .ret) .skip)) (.seq [] (A_ [30,29,28,1] 27 [J' 1 1,J_ 0 27,L' 28,E' 0] (.block 0 (.loop [1,28,29,30] 1 (A_ [31,30,29,28,1] 31 [M' 30 29] (.seq [30,29,28,1] (.cond 31 .skip (.exit 0)) (.seq [30,29,28,1] (.block 1 (A_ [30,29,28,4,3,1] 32 [C_ 30,N_ 1 28 30,O_ 33,H_ 3 (C_ 32),D_ 34] (.seq [30,29,28,4,3,1] (A_ [39,30,29,28,4,3,1] 35 [D_ 4,L' 35,J' 0 1,J_ 0 37,N' 36 38] (.cond 39 (A_ [2] 2 [Q_ As] .ret) .skip)) (A_ [42,41,40,30,29,28,3,1] 40 [D_ 4,L' 40,E' 0] (.block 2 (.loop [1,3,28,29,30,40,41,42] 1 (A_ [43,42,41,40,30,29,28,3,1] 43 [M' 42 41] (.seq [42,41,40,30,29,28,3,1] (.cond 43 .skip (.exit 2)) (.seq [42,41,40,30,29,28,3,1] (.block 3 (A_ [42,41,40,30,29,28,6,3,1] 44 [N_ 4 40 42,C' (.i5 (some 4) 44),G_ 6 (B_ (.e_ 1 [Ad,Ad,Ad,Ad])),E_ (.V_ 1 4 6 45)] (A_ [70,42,41,40,30,29,28,3,1] 46 [K_ 1 4 6,I' EX [46],P' 47,C_ 48,F' 49 (Q_ 3),F' 49 (Nm 50 AL),F' 49 (Q_ 51),F_ 52 (J' 0 6),F_ 52 (J_ 1 53),F_ 52 (Nm 54 AA),F' 49 (L_ 52 55 As),L_ 49 AV 56,C_ 57,F' 58 (J' 0 6),F' 58 (J_ 1 59),F' 58 (N' 60 (.c (.int .i64 9))),F' 58 (Q_ 61),F_ 62 (J' 3 6),F_ 62 (J_ 1 63),F_ 62 (J' 1 1),F_ 62 (J_ 0 65),F_ 62 (L' 66),F_ 62 (B_ (.bin .geq 64 67)),F' 58 (L_ 62 68 As),L_ 58 AV 69] (.cond 70 (A_ [2] 2 [Q_ As] .ret) .skip)))) (At 71 [M_ 42 AA,G_ 42 (C_ 71)])))))))))) (At 72 [M_ 30 AA,G_ 30 (C_ 72)]))))))) (A_ [2] 2 [Q_ AV] .ret))))
def KJ:Fn:=⟨⟨1,73,2,true,[.tmp 2],vT⟩,[.agg [Au,(.Z',.sl (.one (.sl AB)))]],.one (.one .own (.bool))⟩
theorem v7:KJ.A:=AM ⟨U8,trivial⟩
def D6:B1->Bool:=KJ.V
def Rj:B1->Prop:=KJ.O
theorem vl:KJ.B:=AO ⟨U1,trivial⟩ (by kernel_rfl) (λx=>by kernel_rfl)
def tG:d4:=(A_ [1,0] 4 [Q_ As] (.seq [1,0] (A_ [10,1,0] 6 [D_ 0,L' 6,D_ 1,L' 8,N' 7 9] (.cond 10 (A_ [4] 4 [Q_ As] .ret) .skip)) (.seq [] (A_ [5,1,0] 5 [E' 0] (.block 0 (.loop [0,1,5] 1 (.seq [5,1,0] (A_ [14,5,1,0] 11 [C_ 5,D_ 0,L' 12,M' 11 13] (.cond 14 .skip (.exit 0))) (.seq [5,1,0] (.block 1 (A_ [26,5,1,0] 17 [D_ 0,C_ 5,G' (rg 2) (N_ 4 17 18),G' (rg 3) (B_ (.i5 (some 4) 19)),D_ 1,C_ 5,G' [4,5] (N_ 4 21 22),G' [4,5,6] (B_ (.i5 (some 4) 23)),G' (rg 8) (I' Ij [20,24]),G' (rg 9) (P' 25)] (.cond 26 (A_ [4] 4 [Q_ As] .ret) .skip))) (At 15 [C_ 5,M_ 15 AA,G_ 5 (C_ 16)])))))) (A_ [4] 4 [Q_ AV] .ret))))
def Kx:Fn:=⟨⟨2,27,0,true,[.tmp 4],tG⟩,[.one .Z' (.sl AB),.one .Z' (.sl AB)],.one (.one .own (.bool))⟩
theorem tM:Kx.A:=AM ⟨fV,trivial⟩
def Ku:pA->Bool:=Kx.V
def Q6:pA->Prop:=Kx.O
theorem tT:Kx.B:=AO ⟨gu,trivial⟩ (by kernel_rfl) (λx=>by kernel_rfl)
def sD:d4:=(A_ [1,0] 4 [Q_ As] (.seq [1,0] (A_ [10,1,0] 6 [D_ 0,L' 6,D_ 1,L' 8,N' 7 9] (.cond 10 (A_ [4] 4 [Q_ As] .ret) .skip)) (.seq [] (A_ [5,1,0] 5 [E' 0] (.block 0 (.loop [0,1,5] 1 (.seq [5,1,0] (A_ [14,5,1,0] 11 [C_ 5,D_ 0,L' 12,M' 11 13] (.cond 14 .skip (.exit 0))) (.seq [5,1,0] (.block 1 (A_ [26,5,1,0] 17 [D_ 0,C_ 5,G' (rg 2) (N_ 1 17 18),G' (rg 3) (O_ 19),D_ 1,C_ 5,G' [4,5] (N_ 1 21 22),G' [4,5,6] (O_ 23),G' (rg 8) (I' Kx [20,24]),G' (rg 9) (P' 25)] (.cond 26 (A_ [4] 4 [Q_ As] .ret) .skip))) (At 15 [C_ 5,M_ 15 AA,G_ 5 (C_ 16)])))))) (A_ [4] 4 [Q_ AV] .ret))))
def Kl:Fn:=⟨⟨2,27,0,true,[.tmp 4],sD⟩,[.one .Z' (.sl (.one (.sl AB))),.one .Z' (.sl (.one (.sl AB)))],.one (.one .own (.bool))⟩
theorem q9:Kl.A:=AM ⟨tM,trivial⟩
def Uz:pS->Bool:=Kl.V
def Uf:pS->Prop:=Kl.O
theorem rp:Kl.B:=AO ⟨tT,trivial⟩ (by kernel_rfl) (λx=>by kernel_rfl)
def wF:d4:=(A_ [3,2] 2 [O' 0 2 0,O' 1 2 1,Q_ As] (.seq [3,2] (A_ [9,3,2] 5 [J' 0 2,J_ 0 5,J' 0 3,J_ 1 7,N' 6 8] (.cond 9 (A_ [4] 4 [Q_ As] .ret) .skip)) (.seq [] (A_ [15] 10 [J' 1 2,J_ 0 10,J' 1 3,J_ 1 12,I' Kl [11,13],P' 14] (.cond 15 (A_ [4] 4 [Q_ As] .ret) .skip)) (A_ [4] 4 [Q_ AV] .ret))))
def KI:Fn:=⟨⟨2,16,2,true,[.tmp 4],wF⟩,[.agg [Au,(.Z',.sl (.one (.sl AB)))],.agg [Au,(.Z',.sl (.one (.sl AB)))]],.one (.one .own (.bool))⟩
theorem vM:KI.A:=AM ⟨q9,trivial⟩
def Pt:pJ->Bool:=KI.V
def UM:pJ->Prop:=KI.O
theorem vV:KI.B:=AO ⟨rp,trivial⟩ (by kernel_rfl) (λx=>by kernel_rfl)
def xY:d4:=(A_ [3,2,1] 3 [O' 0 2 0,G_ 6 (E' 0)] (.seq [3,2,1] (A_ [18,3,2,1] 8 [K_ 0 2 3,I' Ip [8],P' 9,C_ 10,F' 11 (Q_ 2),F' 11 (J' 0 3),F' 11 (J_ 0 13),F' 11 (B_ (.bin .sub 14 AA)),F' 11 (I' BR [12,AL,15]),F' 11 (P' 16),L_ 11 AV 17] (.cond 18 (A_ [6] 6 [E' (-1)] .ret) .skip)) (.seq [] (A_ [7,3,2,1] 19 [J' 1 3,J_ 0 19,L' 20,B_ (.bin .sub 21 AA),G_ 7 (C_ 22)] (.block 0 (.loop [1,2,3,7] 1 (.seq [7,3,2,1] (A_ [24,7,3,2,1] 23 [C_ 7,B_ (.bin .gtr 23 AL)] (.cond 24 .skip (.exit 0))) (.seq [7,3,2,1] (.block 1 (A_ [43,7,3,2,1] 27 [C_ 1,C_ 7,B_ (.bin .shr 27 28),B_ (.bin .and 29 AA),Nm 30 AA,C_ 31,F_ 32 (J' 1 3),F_ 32 (J_ 0 33),F_ 32 (Q_ 7),F_ 32 (N_ 1 34 35),F_ 32 (O_ 36),F_ 32 (Q_ 2),F_ 32 (N_ 4 37 38),F_ 32 (J' 0 39),F_ 32 (O_ 40),F_ 32 (N' 41 AA),L_ 32 42 As] (.cond 43 (A_ [6] 44 [C_ 7,G_ 6 (C_ 44)] .ret) .skip))) (At 25 [C_ 7,B_ (.bin .sub 25 AA),G_ 7 (C_ 26)])))))) (A_ [6] 6 [E' 0] .ret))))
def KT:Fn:=⟨⟨3,45,1,true,[.tmp 6],xY⟩,[.agg [Au,(.Z',.sl (.one (.sl AB)))],.one .Z' (.int .i64),.one .Z' (.int .i64)],.one (.one .own (.int .i64))⟩
theorem xG:KT.A:=AM ⟨fX,Gb,trivial⟩
def FH:JR->Int:=KT.V
def Vm:JR->Prop:=KT.O
theorem xr:KT.B:=AO ⟨gm,Ga,trivial⟩ (by kernel_rfl) (λx=>by kernel_rfl)
def xC:d4:=(A_ [3,2,1] 3 [O' 0 2 0,G_ 6 (E' 0)] (.seq [] (A_ [7,3,2,1] 8 [J' 1 3,J_ 0 8,L' 9,B_ (.bin .sub 10 AA),G_ 7 (C_ 11)] (.block 0 (.loop [1,2,3,7] 1 (.seq [7,3,2,1] (A_ [13,7,3,2,1] 12 [C_ 7,B_ (.bin .gtr 12 AL)] (.cond 13 .skip (.exit 0))) (.seq [7,3,2,1] (.block 1 (A_ [31,7,3,2,1] 16 [C_ 1,C_ 7,I' GR [16,17],Nm 18 AA,C_ 19,F_ 20 (J' 1 3),F_ 20 (J_ 0 21),F_ 20 (Q_ 7),F_ 20 (N_ 1 22 23),F_ 20 (O_ 24),F_ 20 (Q_ 2),F_ 20 (N_ 4 25 26),F_ 20 (J' 0 27),F_ 20 (O_ 28),F_ 20 (N' 29 AA),L_ 20 30 As] (.cond 31 (A_ [6] 32 [C_ 7,G_ 6 (C_ 32)] .ret) .skip))) (At 14 [C_ 7,B_ (.bin .sub 14 AA),G_ 7 (C_ 15)])))))) (A_ [6] 6 [E' 0] .ret)))
def KV:Fn:=⟨⟨3,33,1,true,[.tmp 6],xC⟩,[.agg [Au,(.Z',.sl (.one (.sl AB)))],.one .Z' (.int .i64),.one .Z' (.int .i64)],.one (.one .own (.int .i64))⟩
theorem yu:KV.A:=AM ⟨jh,trivial⟩
def Rx:JR->Int:=KV.V
def Rq:JR->Prop:=KV.O
theorem xm:KV.B:=AO ⟨iZ,trivial⟩ (by kernel_rfl) (λx=>by kernel_rfl)
def uu:d4:=(A_ [6,3,2,1] 3 [O' 0 2 0,G_ 6 (B_ (.e_ 1 [Ad,Ad,Ad,Ad]))] (A_ [7,6,3,2] 8 [K_ 0 2 3,C_ 1,C_ 2,I' KT [8,9,10],G_ 7 (C_ 11)] (.seq [7,6,3,2] (A_ [13,7,6,3,2] 12 [C_ 7,M' 12 AL] (.cond 13 (A_ [6] 14 [B_ (.build [Ad,Ad,Ad,Ad] []),E_ (.V_ 1 4 6 14)] .ret) .skip)) (A_ [6] 15 [J' 1 3,J_ 0 15,C_ 7,N_ 1 16 17,O_ 18,C_ 2,N_ 4 19 20,C' (.i5 (some 4) 21),E_ (.V_ 1 4 6 22)] .ret))))
def KM:Fn:=⟨⟨3,23,2,true,[.cell 6 (some 4)],uu⟩,[.agg [Au,(.Z',.sl (.one (.sl AB)))],.one .Z' (.int .i64),.one .Z' (.int .i64)],.one (.agg [AN,AN,AN,AN])⟩
theorem uY:KM.A:=AM ⟨xG,trivial⟩
def Vj:JR->Int×Int×Int×Int:=KM.V
def U2:JR->Prop:=KM.O
theorem uO:KM.B:=AO ⟨xr,trivial⟩ (by kernel_rfl) (λx=>by kernel_rfl)
end
section
set_option maxRecDepth 100000
theorem tD(x):Ew x=Y_ (c_ (iSub .i64 x.2 (U_ x.1)) 0) (-1) (iSub .i64 x.2 (U_ x.1)):=(Ko.v x).trans (by kernel_rfl)
theorem tv(x):Q8 x=True:=(Ko.o x).trans (by kernel_rfl)
theorem Zku(x:LG)(e)(_:e=U_ x.1)(b)(_:b=iSub .i64 x.2 e)(f)(_:f=λ(x0:Ar)=>So x.1 (R_ x0.2) [])(c)(_:c=(λ(x0:Ar)=>W_ (c_ x0.2 e) (U' (c_ (Ew (f x0,x0.1)) 0))))(d)(_:d=(λ(x0:Ar)=>(Ew (f x0,x0.1),V' .i64 x0.2 1)))(a)(_:a=Al c d (b,0))(g)(_:g=List.length x.1)(h)(_:h=c_ b 0):L9 x=Y_ h (-1) (Y_ (c_ a.2 e) (-1) a.1)/\Uj x=((h=true->True)/\(h=false->Z_ c d (λ(x0:Ar)=>(c_ x0.2 e=true->((0:Int)<=x0.2/\x0.2<(g:Int))/\R_ x0.2<g/\Q8 (f x0,x0.1))/\(c_ x0.2 e=false->True)) (b,0))):=by subst_vars;exact⟨(Kg.v x).trans (by kernel_rfl),(Kg.o x).trans (by kernel_rfl)⟩
abbrev sr:=λx=>(Zku x _ rfl _ rfl _ rfl _ rfl _ rfl _ rfl _ rfl _ rfl).1
abbrev sg:=λx=>(Zku x _ rfl _ rfl _ rfl _ rfl _ rfl _ rfl _ rfl _ rfl).2
theorem vE(x):Fh x=Y_ (c_ (L9 (x.1.2,x.2)) 0) (-1) (L9 (x.1.2,x.2)):=(KC.v x).trans (by kernel_rfl)
theorem uV(x):U7 x=Uj (x.1.2,x.2):=(KC.o x).trans (by kernel_rfl)
theorem Zkz(x:Dp)(b)(_:b=λ(x0:LQ)=>So x (R_ x0.2) (0,0,0,0))(a)(_:a=λ(x0:LQ)=>Ff ((b x0).1,(b x0).2.1,(b x0).2.2.1,(b x0).2.2.2))(c)(_:c=(λ(x0:LQ)=>(lSet x0.1 (R_ x0.2) ((a x0).1,(a x0).2.1,(a x0).2.2.1,(a x0).2.2.2),V' .i64 x0.2 1)))(d)(_:d=U_ x)(e)(_:e=(λ(x0:LQ)=>c_ x0.2 d))(f)(_:f=lRep d (0,0,0,0)):Pk x=(Al e c (f,0)).1/\Q2 x=(((0:Int)<=d/\AD (Int.toNat d*4))/\Z_ e c (λ(x0:LQ)=>(c_ x0.2 d=true->((0:Int)<=x0.2/\x0.2<(List.length x:Int))/\R_ x0.2<List.length x/\Pd ((b x0).1,(b x0).2.1,(b x0).2.2.1,(b x0).2.2.2)/\((0:Int)<=x0.2/\x0.2<(List.length x0.1:Int))/\R_ x0.2<List.length x0.1)/\(c_ x0.2 d=false->True)) (f,0)):=by subst_vars;exact⟨(Kq.v x).trans (by kernel_rfl),(Kq.o x).trans (by kernel_rfl)⟩
abbrev ud:=λx=>(Zkz x _ rfl _ rfl _ rfl _ rfl _ rfl _ rfl).1
abbrev uc:=λx=>(Zkz x _ rfl _ rfl _ rfl _ rfl _ rfl _ rfl).2
theorem ZkB(x:Cv)(a)(_:a=(λ(x0:LG)=>(lSet x0.1 (R_ x0.2) (Pk (So x (R_ x0.2) [])),V' .i64 x0.2 1)))(b)(_:b=U_ x)(c)(_:c=(λ(x0:LG)=>c_ x0.2 b)):UG x=(Al c a (lRep b [],0)).1/\Uh x=(((0:Int)<=b/\AD (Int.toNat b*1))/\Z_ c a (λ(x0:LG)=>(c_ x0.2 b=true->((0:Int)<=x0.2/\x0.2<(List.length x:Int))/\R_ x0.2<List.length x/\Q2 (So x (R_ x0.2) [])/\((0:Int)<=x0.2/\x0.2<(List.length x0.1:Int))/\R_ x0.2<List.length x0.1)/\(c_ x0.2 b=false->True)) (lRep b [],0)):=by subst_vars;exact⟨(Kj.v x).trans (by kernel_rfl),(Kj.o x).trans (by kernel_rfl)⟩
abbrev rT:=λx=>(ZkB x _ rfl _ rfl _ rfl).1
abbrev rX:=λx=>(ZkB x _ rfl _ rfl _ rfl).2
theorem uF(x):Rl x=(x.1,UG x.2):=(KG.v x).trans (by kernel_rfl)
theorem wx(x):Vc x=Uh x.2:=(KG.o x).trans (by kernel_rfl)
theorem ZkE(x:B1)(d)(_:d=λ(x0:Int)=>So x.2 (R_ x0) [])(c)(_:c=λ(x0:Int)(n:Int)=>So (d x0) (R_ n) (0,0,0,0))(g)(_:g=U_ x.2)(k)(_:k=λ(x0:Int)=>U_ (d x0))(a)(_:a=λ(x0:Int)=>λ(n:Int)=>W_ (c_ n (k x0)) (U' (w_ (U' (D7 ((c x0 n).1,(c x0 n).2.1,(c x0 n).2.2.1,(c x0 n).2.2.2))) (Y_ (g9 (c x0 n).1 1) (w_ (g9 x0 0) (W_ (i_ (c x0 n).1 9) (iGe (c x0 n).2.2.2 g))) (W_ (i_ (c x0 n).1 9) (iGe (c x0 n).2.2.2 g))))))(i)(_:i=(λ(n:Int)=>V' .i64 n 1))(b)(_:b=(λ(x0:Int)=>W_ (c_ x0 g) (W_ (U' (i_ (k x0) x.1)) (U' (c_ (Al (a x0) i 0) (k x0))))))(h)(_:h=(λ(x0:Int)=>V' .i64 x0 1))(e)(_:e=c_ (Al b h 0) g)(f)(_:f=List.length x.2)(j)(_:j=BM (x.1,1,32))(l)(_:l=λ(x0:Int)=>(0:Int)<=x0/\x0<(f:Int)):GJ x=W_ (U' e) (W_ j (BM (g,1,4)))/\Rc x=(Z_ b h (λ(x0:Int)=>(c_ x0 g=true->l x0/\R_ x0<f/\(i_ (k x0) x.1=true->True)/\(i_ (k x0) x.1=false->Z_ (a x0) i (λ(n:Int)=>l x0/\R_ x0<f/\(c_ n (k x0)=true->l x0/\R_ x0<f/\((0:Int)<=n/\n<(List.length (d x0):Int))/\R_ n<List.length (d x0)/\Nr ((c x0 n).1,(c x0 n).2.1,(c x0 n).2.2.1,(c x0 n).2.2.2))/\(c_ n (k x0)=false->True)) 0))/\(c_ x0 g=false->True)) 0/\(e=true->True)/\(e=false->D8 (x.1,1,32)/\(j=true->D8 (g,1,4))/\(j=false->True))):=by subst_vars;exact⟨(Ip.v x).trans (by kernel_rfl),(Ip.o x).trans (by kernel_rfl)⟩
abbrev vj:=λx=>(ZkE x _ rfl _ rfl _ rfl _ rfl _ rfl _ rfl _ rfl _ rfl _ rfl _ rfl _ rfl _ rfl).1
abbrev wM:=λx=>(ZkE x _ rfl _ rfl _ rfl _ rfl _ rfl _ rfl _ rfl _ rfl _ rfl _ rfl _ rfl _ rfl).2
theorem ZkH(x:B1)(e)(_:e=λ(x0:Int)=>So x.2 (R_ x0) [])(b)(_:b=λ(x0:Int)(n:Int)=>So (e x0) (R_ n) (0,0,0,0))(f)(_:f=U_ x.2)(i)(_:i=λ(x0:Int)=>U_ (e x0))(a)(_:a=λ(x0:Int)=>λ(n:Int)=>W_ (c_ n (i x0)) (U' (w_ (U' (B4 ((b x0 n).1,(b x0 n).2.1,(b x0 n).2.2.1,(b x0 n).2.2.2))) (Y_ (g9 x0 0) (w_ (g9 (b x0 n).1 1) (W_ (i_ (b x0 n).1 9) (iGe (b x0 n).2.2.2 f))) (W_ (i_ (b x0 n).1 9) (iGe (b x0 n).2.2.2 f))))))(h)(_:h=(λ(n:Int)=>V' .i64 n 1))(c)(_:c=(λ(x0:Int)=>W_ (c_ x0 f) (W_ (U' (i_ (i x0) x.1)) (U' (c_ (Al (a x0) h 0) (i x0))))))(d)(_:d=w_ (c_ x.1 1) (w_ (iGt x.1 32) (w_ (c_ f 1) (iGt f 4))))(g)(_:g=(λ(x0:Int)=>V' .i64 x0 1))(j)(_:j=List.length x.2):D6 x=W_ (U' d) (U' (c_ (Al c g 0) f))/\Rj x=((d=true->True)/\(d=false->Z_ c g (λ(x0:Int)=>(c_ x0 f=true->((0:Int)<=x0/\x0<(j:Int))/\R_ x0<j/\(i_ (i x0) x.1=true->True)/\(i_ (i x0) x.1=false->Z_ (a x0) h (λ(n:Int)=>(c_ n (i x0)=true->((0:Int)<=n/\n<(List.length (e x0):Int))/\R_ n<List.length (e x0)/\Np ((b x0 n).1,(b x0 n).2.1,(b x0 n).2.2.1,(b x0 n).2.2.2))/\(c_ n (i x0)=false->True)) 0))/\(c_ x0 f=false->True)) 0)):=by subst_vars;exact⟨(KJ.v x).trans (by kernel_rfl),(KJ.o x).trans (by kernel_rfl)⟩
abbrev Y8:=λx=>(ZkH x _ rfl _ rfl _ rfl _ rfl _ rfl _ rfl _ rfl _ rfl _ rfl _ rfl).1
abbrev wq:=λx=>(ZkH x _ rfl _ rfl _ rfl _ rfl _ rfl _ rfl _ rfl _ rfl _ rfl _ rfl).2
theorem ZkK(x:pA)(b)(_:b=λ(x0:Int)=>So x.1 (R_ x0) (0,0,0,0))(c)(_:c=λ(x0:Int)=>So x.2 (R_ x0) (0,0,0,0))(d)(_:d=U_ x.1)(a)(_:a=(λ(x0:Int)=>W_ (c_ x0 d) (U' (U' (Jp (((b x0).1,(b x0).2.1,(b x0).2.2.1,(b x0).2.2.2),(c x0).1,(c x0).2.1,(c x0).2.2.1,(c x0).2.2.2))))))(e)(_:e=i_ d (U_ x.2))(f)(_:f=(λ(x0:Int)=>V' .i64 x0 1))(g)(_:g=List.length x.1)(h)(_:h=List.length x.2):Ku x=W_ (U' e) (U' (c_ (Al a f 0) d))/\Q6 x=((e=true->True)/\(e=false->Z_ a f (λ(x0:Int)=>(c_ x0 d=true->((0:Int)<=x0/\x0<(g:Int))/\R_ x0<g/\((0:Int)<=x0/\x0<(h:Int))/\R_ x0<h/\Pg (((b x0).1,(b x0).2.1,(b x0).2.2.1,(b x0).2.2.2),(c x0).1,(c x0).2.1,(c x0).2.2.1,(c x0).2.2.2))/\(c_ x0 d=false->True)) 0)):=by subst_vars;exact⟨(Kx.v x).trans (by kernel_rfl),(Kx.o x).trans (by kernel_rfl)⟩
abbrev tH:=λx=>(ZkK x _ rfl _ rfl _ rfl _ rfl _ rfl _ rfl _ rfl _ rfl).1
abbrev tE:=λx=>(ZkK x _ rfl _ rfl _ rfl _ rfl _ rfl _ rfl _ rfl _ rfl).2
theorem ZkN(x:pS)(b)(_:b=U_ x.1)(a)(_:a=(λ(x0:Int)=>W_ (c_ x0 b) (U' (U' (Ku (So x.1 (R_ x0) [],So x.2 (R_ x0) []))))))(c)(_:c=i_ b (U_ x.2))(d)(_:d=(λ(x0:Int)=>V' .i64 x0 1))(e)(_:e=List.length x.1)(f)(_:f=List.length x.2):Uz x=W_ (U' c) (U' (c_ (Al a d 0) b))/\Uf x=((c=true->True)/\(c=false->Z_ a d (λ(x0:Int)=>(c_ x0 b=true->((0:Int)<=x0/\x0<(e:Int))/\R_ x0<e/\((0:Int)<=x0/\x0<(f:Int))/\R_ x0<f/\Q6 (So x.1 (R_ x0) [],So x.2 (R_ x0) []))/\(c_ x0 b=false->True)) 0)):=by subst_vars;exact⟨(Kl.v x).trans (by kernel_rfl),(Kl.o x).trans (by kernel_rfl)⟩
abbrev sy:=λx=>(ZkN x _ rfl _ rfl _ rfl _ rfl _ rfl _ rfl).1
abbrev rN:=λx=>(ZkN x _ rfl _ rfl _ rfl _ rfl _ rfl _ rfl).2
theorem vB(x):Pt x=W_ (U' (i_ x.1.1 x.2.1)) (U' (U' (Uz (x.1.2,x.2.2)))):=(KI.v x).trans (by kernel_rfl)
theorem wA(x):UM x=((i_ x.1.1 x.2.1=true->True)/\(i_ x.1.1 x.2.1=false->Uf (x.1.2,x.2.2))):=(KI.o x).trans (by kernel_rfl)
theorem ZkS(x:JR)(d)(_:d=λ(x0:Int)=>g9 (iAnd .i64 (iShr .i64 x.2.1 x0) 1) 1)(h)(_:h=λ(x0:Int)=>So x.1.2 (R_ x0) [])(a)(_:a=(λ(x0:Int)=>W_ (iGt x0 0) (U' (W_ (d x0) (i_ (So (h x0) (R_ x.2.2) (0,0,0,0)).1 1)))))(e)(_:e=U' (GJ (x.1.1,x.1.2)))(i)(_:i=iSub .i64 x.1.1 1)(b)(_:b=w_ e (U' (BM (x.2.2,0,i))))(f)(_:f=(λ(x0:Int)=>iSub .i64 x0 1))(g)(_:g=iSub .i64 (U_ x.1.2) 1)(c)(_:c=Al a f g)(j)(_:j=List.length x.1.2):FH x=Y_ b (-1) (Y_ (iGt c 0) c 0)/\Vm x=((Rc (x.1.1,x.1.2)/\(e=true->True)/\(e=false->D8 (x.2.2,0,i)))/\(b=true->True)/\(b=false->Z_ a f (λ(x0:Int)=>(iGt x0 0=true->(0:Int)<=x0/\(d x0=true->((0:Int)<=x0/\x0<(j:Int))/\R_ x0<j/\((0:Int)<=x.2.2/\x.2.2<(List.length (h x0):Int))/\R_ x.2.2<List.length (h x0))/\(d x0=false->True))/\(iGt x0 0=false->True)) g)):=by subst_vars;exact⟨(KT.v x).trans (by kernel_rfl),(KT.o x).trans (by kernel_rfl)⟩
abbrev xT:=λx=>(ZkS x _ rfl _ rfl _ rfl _ rfl _ rfl _ rfl _ rfl _ rfl _ rfl _ rfl).1
abbrev yj:=λx=>(ZkS x _ rfl _ rfl _ rfl _ rfl _ rfl _ rfl _ rfl _ rfl _ rfl _ rfl).2
theorem ZkV(x:JR)(e)(_:e=λ(x0:Int)=>So x.1.2 (R_ x0) [])(g)(_:g=λ(x0:Int)=>g9 (Ei (x.2.1,x0)) 1)(a)(_:a=(λ(x0:Int)=>W_ (iGt x0 0) (U' (W_ (g x0) (i_ (So (e x0) (R_ x.2.2) (0,0,0,0)).1 1)))))(c)(_:c=(λ(x0:Int)=>iSub .i64 x0 1))(d)(_:d=iSub .i64 (U_ x.1.2) 1)(b)(_:b=Al a c d)(f)(_:f=List.length x.1.2):Rx x=Y_ (iGt b 0) b 0/\Rq x=Z_ a c (λ(x0:Int)=>(iGt x0 0=true->Wb (x.2.1,x0)/\(g x0=true->((0:Int)<=x0/\x0<(f:Int))/\R_ x0<f/\((0:Int)<=x.2.2/\x.2.2<(List.length (e x0):Int))/\R_ x.2.2<List.length (e x0))/\(g x0=false->True))/\(iGt x0 0=false->True)) d:=by subst_vars;exact⟨(KV.v x).trans (by kernel_rfl),(KV.o x).trans (by kernel_rfl)⟩
abbrev Zp:=λx=>(ZkV x _ rfl _ rfl _ rfl _ rfl _ rfl _ rfl _ rfl).1
abbrev xe:=λx=>(ZkV x _ rfl _ rfl _ rfl _ rfl _ rfl _ rfl _ rfl).2
@[irreducible] def BW(x:JR):Int:=(Y_ (w_ (U' (D6 (x.1.1,x.1.2))) (w_ (c_ x.2.2 0) (iGe x.2.2 x.1.1))) (-1) (Rx ((x.1.1,x.1.2),x.2.1,x.2.2)))
@[irreducible] def Vn(x:JR):Prop:=((Rj (x.1.1,x.1.2))/\(((w_ (U' (D6 (x.1.1,x.1.2))) (w_ (c_ x.2.2 0) (iGe x.2.2 x.1.1)))=true->True)/\((w_ (U' (D6 (x.1.1,x.1.2))) (w_ (c_ x.2.2 0) (iGe x.2.2 x.1.1)))=false->(Rq ((x.1.1,x.1.2),x.2.1,x.2.2)))))
theorem ZkY(x:JR)(a)(_:a=FH ((x.1.1,x.1.2),x.2.1,x.2.2))(c)(_:c=So x.1.2 (R_ a) [])(b)(_:b=So c (R_ x.2.2) (0,0,0,0))(d)(_:d=List.length x.1.2)(e)(_:e=c_ a 0):Vj x=Y_ e (0,0,0,0) (b.1,b.2.1,b.2.2.1,b.2.2.2)/\U2 x=(Vm ((x.1.1,x.1.2),x.2.1,x.2.2)/\(e=true->True)/\(e=false->((0:Int)<=a/\a<(d:Int))/\R_ a<d/\((0:Int)<=x.2.2/\x.2.2<(List.length c:Int))/\R_ x.2.2<List.length c)):=by subst_vars;exact⟨(KM.v x).trans (by kernel_rfl),(KM.o x).trans (by kernel_rfl)⟩
abbrev xa:=λx=>(ZkY x _ rfl _ rfl _ rfl _ rfl _ rfl).1
abbrev uS:=λx=>(ZkY x _ rfl _ rfl _ rfl _ rfl _ rfl).2
@[irreducible] def Jq(x:JR):Int×Int×Int×Int:=(Y_ (c_ (BW ((x.1.1,x.1.2),x.2.1,x.2.2)) 0) (0,0,0,0) ((So (So x.1.2 (R_ (BW ((x.1.1,x.1.2),x.2.1,x.2.2))) []) (R_ x.2.2) (0,0,0,0)).1,(So (So x.1.2 (R_ (BW ((x.1.1,x.1.2),x.2.1,x.2.2))) []) (R_ x.2.2) (0,0,0,0)).2.1,(So (So x.1.2 (R_ (BW ((x.1.1,x.1.2),x.2.1,x.2.2))) []) (R_ x.2.2) (0,0,0,0)).2.2.1,(So (So x.1.2 (R_ (BW ((x.1.1,x.1.2),x.2.1,x.2.2))) []) (R_ x.2.2) (0,0,0,0)).2.2.2))
@[irreducible] def gn(x:JR):Prop:=((Vn ((x.1.1,x.1.2),x.2.1,x.2.2))/\(((c_ (BW ((x.1.1,x.1.2),x.2.1,x.2.2)) 0)=true->True)/\((c_ (BW ((x.1.1,x.1.2),x.2.1,x.2.2)) 0)=false->((((0:Int)<=(BW ((x.1.1,x.1.2),x.2.1,x.2.2)))/\((BW ((x.1.1,x.1.2),x.2.1,x.2.2))<(((List.length x.1.2):Int))))/\(((R_ (BW ((x.1.1,x.1.2),x.2.1,x.2.2)))<(List.length x.1.2))/\((((0:Int)<=x.2.2)/\(x.2.2<(((List.length (So x.1.2 (R_ (BW ((x.1.1,x.1.2),x.2.1,x.2.2))) [])):Int))))/\((R_ x.2.2)<(List.length (So x.1.2 (R_ (BW ((x.1.1,x.1.2),x.2.1,x.2.2))) [])))))))))
attribute [irreducible] Ew Q8 L9 Uj Fh U7 Pk Q2 UG Uh Rl Vc GJ Rc D6 Rj Ku Q6 Uz Uf Pt UM FH Vm Rx Rq Vj U2
end
section
set_option maxRecDepth 8000
def xP:d4:=(A_ [1,0] 4 [E' 0] (A_ [1] 5 [C_ 1,D_ 0,L' 6,B_ (.bin .sub 5 7),G_ 1 (C_ 8)] (.seq [1] (A_ [10,1] 9 [C_ 1,M' 9 AL] (.cond 10 (A_ [4] 4 [E' (-1)] .ret) .skip)) (A_ [4] 11 [C_ 1,G_ 4 (C_ 11)] .ret))))
def KW:Fn:=⟨⟨2,12,0,true,[.tmp 4],xP⟩,[.one .Z' (.sl AQ),.one .Z' (.int .i64)],.one (.one .own (.int .i64))⟩
theorem yn:KW.A:=AM trivial
def Ez:LR->Int:=KW.V
def Rt:LR->Prop:=KW.O
theorem xq:KW.B:=AO trivial (by kernel_rfl) (λx=>by kernel_rfl)
def uW:d4:=(A_ [1,0] 4 [E' 0] (A_ [1,0] 6 [C_ 1,D_ 0,L' 7,B_ (.bin .sub 6 8),G_ 1 (C_ 9)] (.seq [1,0] (A_ [11,1,0] 10 [C_ 1,M' 10 AL] (.cond 11 (A_ [4] 4 [E' (-1)] .ret) .skip)) (.seq [1] (A_ [5,1,0] 5 [E' 0] (.block 0 (.loop [0,1,5] 1 (.seq [5,1,0] (A_ [15,5,1,0] 12 [C_ 5,D_ 0,L' 13,M' 12 14] (.cond 15 .skip (.exit 0))) (.seq [5,1,0] (.block 1 (A_ [5,1,0] 18 [D_ 0,C_ 5,N_ 1 18 19,O_ 20,C_ 1,I' KW [21,22],G_ 1 (C_ 23)] (A_ [25,5,1,0] 24 [C_ 1,M' 24 AL] (.cond 25 (A_ [4] 4 [E' (-1)] .ret) .skip)))) (At 16 [C_ 5,M_ 16 AA,G_ 5 (C_ 17)])))))) (A_ [4] 26 [C_ 1,G_ 4 (C_ 26)] .ret)))))
def KB:Fn:=⟨⟨2,27,0,true,[.tmp 4],uW⟩,[.one .Z' (.sl (.one (.sl AQ))),.one .Z' (.int .i64)],.one (.one .own (.int .i64))⟩
theorem wj:KB.A:=AM ⟨yn,trivial⟩
def Hr:G8->Int:=KB.V
def UW:G8->Prop:=KB.O
theorem wz:KB.B:=AO ⟨xq,trivial⟩ (by kernel_rfl) (λx=>by kernel_rfl)
def uB:d4:=(A_ [2,1] 2 [O' 0 7 0,G_ 4 (E' 0)] (A_ [2,1] 5 [J' 0 2,K_ 0 2 5,C_ 1,I' KC [6,7],G_ 1 (C_ 8)] (.seq [2,1] (A_ [10,2,1] 9 [C_ 1,M' 9 AL] (.cond 10 (A_ [4] 4 [E' (-1)] .ret) .skip)) (A_ [2,1] 11 [J' 2 2,J_ 0 11,C_ 1,I' KB [12,13],G_ 1 (C_ 14)] (.seq [2,1] (A_ [16,2,1] 15 [C_ 1,M' 15 AL] (.cond 16 (A_ [4] 4 [E' (-1)] .ret) .skip)) (A_ [1] 17 [J' 4 2,J_ 0 17,C_ 1,I' KQ [18,19],G_ 1 (C_ 20)] (.seq [1] (A_ [22,1] 21 [C_ 1,M' 21 AL] (.cond 22 (A_ [4] 4 [E' (-1)] .ret) .skip)) (A_ [4] 23 [C_ 1,G_ 4 (C_ 23)] .ret))))))))
def Kz:Fn:=⟨⟨2,24,1,true,[.tmp 4],uB⟩,[.agg [Au,(.Z',.sl (.one (.sl AB))),(.Z',.sl (.one (.sl AQ))),Au,(.Z',.sl AU),Au,(.Z',.bool)],.one .Z' (.int .i64)],.one (.one .own (.int .i64))⟩
theorem we:Kz.A:=AM ⟨wN,wj,yy,trivial⟩
def Jr:LN->Int:=Kz.V
def UY:LN->Prop:=Kz.O
theorem vF:Kz.B:=AO ⟨u7,wz,ye,trivial⟩ (by kernel_rfl) (λx=>by kernel_rfl)
def zI:d4:=(A_ [2,1] 1 [O' 0 3 0,B_ (.e_ 1 [Ad,Ad,Ad])] (A_ [3,2,1] 3 [B_ (.e_ 2 [Ad,Ad,Ad])] (A_ [3,2,1] 4 [J' 0 1,C' (.d7 0 none 4),J' 0 3,E_ (.V_ 2 1 6 5)] (A_ [3,2,1] 7 [J' 1 1,C' (.d7 0 none 7),J' 1 3,E_ (.V_ 2 1 9 8)] (A_ [3,2] 10 [J' 2 1,C' (.d7 0 none 10),J' 2 3,E_ (.V_ 2 1 12 11)] (A_ [2] 13 [C' (.d7 2 (some 3) 3),E_ (.V_ 1 3 2 13)] .ret))))))
def KZ:Fn:=⟨⟨1,14,3,true,[.cell 2 (some 3)],zI⟩,[.agg [Au,Au,Au]],.one (.agg [AN,AN,AN])⟩
theorem zm:KZ.A:=AM trivial
def Jt:Dr->Int×Int×Int:=KZ.V
def Ry:Dr->Prop:=KZ.O
theorem zn:KZ.B:=AO trivial (by kernel_rfl) (λx=>by kernel_rfl)
def xi:d4:=(A_ [0] 2 [Q_ (.c .b_)] (A_ [3,0] 5 [D_ 0,L' 5,Q' AQ (.mkSlice 3 [Ad,Ad,Ad] 6),G_ 3 (C_ 7)] (.seq [3] (A_ [4,3,0] 4 [E' 0] (.block 0 (.loop [0,3,4] 1 (.seq [4,3,0] (A_ [11,4,3,0] 8 [C_ 4,D_ 0,L' 9,M' 8 10] (.cond 11 .skip (.exit 0))) (.seq [4,3,0] (.block 1 (At 14 [D_ 3,C_ 4,D_ 0,C_ 4,N_ 3 16 17,B_ (.i5 (some 3) 18),I' KZ [19],N_ 3 14 15,E_ (.f8 3 21 20)])) (At 12 [C_ 4,M_ 12 AA,G_ 4 (C_ 13)])))))) (A_ [2] 22 [C_ 3,G_ 2 (C_ 22)] .ret))))
def KS:Fn:=⟨⟨1,23,0,false,[.tmp 2],xi⟩,[.one .Z' (.sl AQ)],.one (.one .own (.sl AQ))⟩
theorem xH:KS.A:=AM ⟨zm,trivial⟩
def Pw:Cj->List Dr:=KS.V
def Rv:Cj->Prop:=KS.O
theorem ym:KS.B:=AO ⟨zn,trivial⟩ (by kernel_rfl) (λx=>by kernel_rfl)
def uH:d4:=(A_ [0] 2 [Q_ (.c .b_)] (A_ [3,0] 5 [D_ 0,L' 5,Q' (.one (.sl AQ)) (.mkSlice 1 [.b_] 6),G_ 3 (C_ 7)] (.seq [3] (A_ [4,3,0] 4 [E' 0] (.block 0 (.loop [0,3,4] 1 (.seq [4,3,0] (A_ [11,4,3,0] 8 [C_ 4,D_ 0,L' 9,M' 8 10] (.cond 11 .skip (.exit 0))) (.seq [4,3,0] (.block 1 (At 14 [D_ 3,C_ 4,D_ 0,C_ 4,N_ 1 16 17,O_ 18,I' KS [19],N_ 1 14 15,E_ (.f8 1 21 20)])) (At 12 [C_ 4,M_ 12 AA,G_ 4 (C_ 13)])))))) (A_ [2] 22 [C_ 3,G_ 2 (C_ 22)] .ret))))
def KL:Fn:=⟨⟨1,23,0,false,[.tmp 2],uH⟩,[.one .Z' (.sl (.one (.sl AQ)))],.one (.one .own (.sl (.one (.sl AQ))))⟩
theorem uJ:KL.A:=AM ⟨xH,trivial⟩
def Vg:CA->List Cj:=KL.V
def UK:CA->Prop:=KL.O
theorem uI:KL.B:=AO ⟨ym,trivial⟩ (by kernel_rfl) (λx=>by kernel_rfl)
def wW:d4:=(A_ [2,1] 1 [O' 0 7 0,B_ (.e_ 1 [Ad,.b_,.b_,Ad,.b_,Ad,EO])] (A_ [3,2,1] 3 [B_ (.e_ 2 [Ad,.b_,.b_,Ad,.b_,Ad,EO])] (A_ [3,2,1] 4 [J' 0 1,K_ 0 2 4,I' KG [5],J' 0 3,E_ (.V_ 2 2 7 6)] (A_ [3,2,1] 8 [J' 2 1,J_ 0 8,I' KL [9],J' 2 3,E_ (.V_ 2 1 11 10)] (A_ [3,2,1] 12 [J' 3 1,C' (.d7 0 none 12),J' 3 3,E_ (.V_ 2 1 14 13)] (A_ [3,2,1] 15 [J' 4 1,J_ 0 15,I' KX [16],J' 4 3,E_ (.V_ 2 1 18 17)] (A_ [3,2,1] 19 [J' 5 1,C' (.d7 0 none 19),J' 5 3,E_ (.V_ 2 1 21 20)] (A_ [3,2] 22 [J' 6 1,C' (.d7 0 none 22),J' 6 3,E_ (.V_ 2 1 24 23)] (A_ [2] 25 [C' (.d7 2 (some 7) 3),E_ (.V_ 1 7 2 25)] .ret)))))))))
def FE:Fn:=⟨⟨1,26,3,false,[.cell 2 (some 7)],wW⟩,[.agg [Au,(.Z',.sl (.one (.sl AB))),(.Z',.sl (.one (.sl AQ))),Au,(.Z',.sl AU),Au,(.Z',.bool)]],.one (.agg [AN,(.own,.sl (.one (.sl AB))),(.own,.sl (.one (.sl AQ))),AN,(.own,.sl AU),AN,(.own,.bool)])⟩
theorem UO:FE.A:=AM ⟨vJ,uJ,xL,trivial⟩
def Ah:BS->Int×Cv×CA×Int×Bg×Int×Bool:=FE.V
def Nq:BS->Prop:=FE.O
theorem U6:FE.B:=AO ⟨vO,uI,xM,trivial⟩ (by kernel_rfl) (λx=>by kernel_rfl)
def zK:d4:=(A_ [2,1] 2 [O' 0 7 0,G_ 4 (E' 0)] (.seq [] (A_ [5,2,1] 5 [E' 0] (.block 0 (.loop [1,2,5] 1 (.seq [5,2,1] (A_ [10,5,2,1] 6 [C_ 5,J' 4 2,J_ 0 7,L' 8,M' 6 9] (.cond 10 .skip (.exit 0))) (.seq [5,2,1] (.block 1 (A_ [20,5,2,1] 13 [J' 4 2,J_ 0 13,C_ 5,N_ 5 14 15,J' 0 16,O_ 17,C_ 1,Nm 18 19] (.cond 20 (A_ [4] 21 [C_ 5,G_ 4 (C_ 21)] .ret) .skip))) (At 11 [C_ 5,M_ 11 AA,G_ 5 (C_ 12)])))))) (A_ [4] 4 [E' (-1)] .ret)))
def Is:Fn:=⟨⟨2,22,1,true,[.tmp 4],zK⟩,[.agg [Au,(.Z',.sl (.one (.sl AB))),(.Z',.sl (.one (.sl AQ))),Au,(.Z',.sl AU),Au,(.Z',.bool)],.one .Z' (.int .i64)],.one (.one .own (.int .i64))⟩
theorem zW:Is.A:=AM trivial
def PD:LN->Int:=Is.V
def VB:LN->Prop:=Is.O
theorem zT:Is.B:=AO trivial (by kernel_rfl) (λx=>by kernel_rfl)
def yB:d4:=(A_ [2,1] 2 [O' 0 7 0,G_ 4 (E' 0)] (.seq [] (A_ [10,9,8,1] 7 [J' 4 2,J_ 0 7,L' 8,E' 0] (.block 0 (.loop [1,8,9,10] 1 (A_ [11,10,9,8,1] 11 [M' 10 9] (.seq [10,9,8,1] (.cond 11 .skip (.exit 0)) (.seq [10,9,8,1] (.block 1 (A_ [10,9,8,6,5,1] 12 [C_ 10,N_ 5 8 10,C' (.i5 (some 5) 13),G_ 6 (B_ (.e_ 1 [Ad,Ad,Ad,Ad,Ad])),G_ 5 (C_ 12),E_ (.V_ 1 5 6 14)] (A_ [18,10,9,8,5,1] 15 [J' 0 6,J_ 1 15,C_ 1,Nm 16 17] (.cond 18 (A_ [4] 19 [C_ 5,G_ 4 (C_ 19)] .ret) .skip)))) (At 20 [M_ 10 AA,G_ 10 (C_ 20)]))))))) (A_ [4] 4 [E' (-1)] .ret)))
def Iv:Fn:=⟨⟨2,21,2,true,[.tmp 4],yB⟩,[.agg [Au,(.Z',.sl (.one (.sl AB))),(.Z',.sl (.one (.sl AQ))),Au,(.Z',.sl AU),Au,(.Z',.bool)],.one .Z' (.int .i64)],.one (.one .own (.int .i64))⟩
theorem zp:Iv.A:=AM trivial
def FJ:LN->Int:=Iv.V
def VE:LN->Prop:=Iv.O
theorem Zag:Iv.B:=AO trivial (by kernel_rfl) (λx=>by kernel_rfl)
def yZ:d4:=(A_ [3,2] 2 [O' 0 3 0,O' 1 3 1,Q_ As] (.seq [3,2] (A_ [9,3,2] 5 [J' 0 2,J_ 0 5,J' 0 3,J_ 1 7,N' 6 8] (.cond 9 (A_ [4] 4 [Q_ As] .ret) .skip)) (.seq [3,2] (A_ [14,3,2] 10 [J' 1 2,J_ 0 10,J' 1 3,J_ 1 12,N' 11 13] (.cond 14 (A_ [4] 4 [Q_ As] .ret) .skip)) (.seq [] (A_ [19] 15 [J' 2 2,J_ 0 15,J' 2 3,J_ 1 17,N' 16 18] (.cond 19 (A_ [4] 4 [Q_ As] .ret) .skip)) (A_ [4] 4 [Q_ AV] .ret)))))
def K7:Fn:=⟨⟨2,20,2,true,[.tmp 4],yZ⟩,[.agg [Au,Au,Au],.agg [Au,Au,Au]],.one (.one .own (.bool))⟩
theorem yV:K7.A:=AM trivial
def K6:pf->Bool:=K7.V
def RA:pf->Prop:=K7.O
theorem zd:K7.B:=AO trivial (by kernel_rfl) (λx=>by kernel_rfl)
def xO:d4:=(A_ [1,0] 4 [Q_ As] (.seq [1,0] (A_ [10,1,0] 6 [D_ 0,L' 6,D_ 1,L' 8,N' 7 9] (.cond 10 (A_ [4] 4 [Q_ As] .ret) .skip)) (.seq [] (A_ [5,1,0] 5 [E' 0] (.block 0 (.loop [0,1,5] 1 (.seq [5,1,0] (A_ [14,5,1,0] 11 [C_ 5,D_ 0,L' 12,M' 11 13] (.cond 14 .skip (.exit 0))) (.seq [5,1,0] (.block 1 (A_ [26,5,1,0] 17 [D_ 0,C_ 5,G' (rg 2) (N_ 3 17 18),G' (rg 3) (B_ (.i5 (some 3) 19)),D_ 1,C_ 5,G' [4,5] (N_ 3 21 22),G' [4,5,6] (B_ (.i5 (some 3) 23)),G' (rg 8) (I' K7 [20,24]),G' (rg 9) (P' 25)] (.cond 26 (A_ [4] 4 [Q_ As] .ret) .skip))) (At 15 [C_ 5,M_ 15 AA,G_ 5 (C_ 16)])))))) (A_ [4] 4 [Q_ AV] .ret))))
def KO:Fn:=⟨⟨2,27,0,true,[.tmp 4],xO⟩,[.one .Z' (.sl AQ),.one .Z' (.sl AQ)],.one (.one .own (.bool))⟩
theorem xN:KO.A:=AM ⟨yV,trivial⟩
def KR:pG->Bool:=KO.V
def Rs:pG->Prop:=KO.O
theorem xE:KO.B:=AO ⟨zd,trivial⟩ (by kernel_rfl) (λx=>by kernel_rfl)
def wS:d4:=(A_ [1,0] 4 [Q_ As] (.seq [1,0] (A_ [10,1,0] 6 [D_ 0,L' 6,D_ 1,L' 8,N' 7 9] (.cond 10 (A_ [4] 4 [Q_ As] .ret) .skip)) (.seq [] (A_ [5,1,0] 5 [E' 0] (.block 0 (.loop [0,1,5] 1 (.seq [5,1,0] (A_ [14,5,1,0] 11 [C_ 5,D_ 0,L' 12,M' 11 13] (.cond 14 .skip (.exit 0))) (.seq [5,1,0] (.block 1 (A_ [26,5,1,0] 17 [D_ 0,C_ 5,G' (rg 2) (N_ 1 17 18),G' (rg 3) (O_ 19),D_ 1,C_ 5,G' [4,5] (N_ 1 21 22),G' [4,5,6] (O_ 23),G' (rg 8) (I' KO [20,24]),G' (rg 9) (P' 25)] (.cond 26 (A_ [4] 4 [Q_ As] .ret) .skip))) (At 15 [C_ 5,M_ 15 AA,G_ 5 (C_ 16)])))))) (A_ [4] 4 [Q_ AV] .ret))))
def KK:Fn:=⟨⟨2,27,0,true,[.tmp 4],wS⟩,[.one .Z' (.sl (.one (.sl AQ))),.one .Z' (.sl (.one (.sl AQ)))],.one (.one .own (.bool))⟩
theorem xc:KK.A:=AM ⟨xN,trivial⟩
def Ps:pR->Bool:=KK.V
def UJ:pR->Prop:=KK.O
theorem wg:KK.B:=AO ⟨xE,trivial⟩ (by kernel_rfl) (λx=>by kernel_rfl)
def ve:d4:=(A_ [3,2] 2 [O' 0 7 0,O' 1 7 1,Q_ As] (.seq [3,2] (A_ [10,3,2] 5 [J' 0 2,K_ 0 2 5,J' 0 3,K_ 1 2 7,I' KI [6,8],P' 9] (.cond 10 (A_ [4] 4 [Q_ As] .ret) .skip)) (.seq [3,2] (A_ [16,3,2] 11 [J' 2 2,J_ 0 11,J' 2 3,J_ 1 13,I' KK [12,14],P' 15] (.cond 16 (A_ [4] 4 [Q_ As] .ret) .skip)) (.seq [3,2] (A_ [21,3,2] 17 [J' 3 2,J_ 0 17,J' 3 3,J_ 1 19,N' 18 20] (.cond 21 (A_ [4] 4 [Q_ As] .ret) .skip)) (.seq [3,2] (A_ [27,3,2] 22 [J' 4 2,J_ 0 22,J' 4 3,J_ 1 24,I' KU [23,25],P' 26] (.cond 27 (A_ [4] 4 [Q_ As] .ret) .skip)) (.seq [3,2] (A_ [32,3,2] 28 [J' 5 2,J_ 0 28,J' 5 3,J_ 1 30,N' 29 31] (.cond 32 (A_ [4] 4 [Q_ As] .ret) .skip)) (.seq [] (A_ [37] 33 [J' 6 2,J_ 0 33,J' 6 3,J_ 1 35,B_ (.eqB true 34 36)] (.cond 37 (A_ [4] 4 [Q_ As] .ret) .skip)) (A_ [4] 4 [Q_ AV] .ret))))))))
def ET:Fn:=⟨⟨2,38,2,true,[.tmp 4],ve⟩,[.agg [Au,(.Z',.sl (.one (.sl AB))),(.Z',.sl (.one (.sl AQ))),Au,(.Z',.sl AU),Au,(.Z',.bool)],.agg [Au,(.Z',.sl (.one (.sl AB))),(.Z',.sl (.one (.sl AQ))),Au,(.Z',.sl AU),Au,(.Z',.bool)]],.one (.one .own (.bool))⟩
theorem Vb:ET.A:=AM ⟨vM,xc,xh,trivial⟩
def DZ:pQ->Bool:=ET.V
def Ns:pQ->Prop:=ET.O
theorem U5:ET.B:=AO ⟨vV,wg,xz,trivial⟩ (by kernel_rfl) (λx=>by kernel_rfl)
end
section
set_option maxRecDepth 100000
theorem xf(x):Ez x=Y_ (c_ (iSub .i64 x.2 (U_ x.1)) 0) (-1) (iSub .i64 x.2 (U_ x.1)):=(KW.v x).trans (by kernel_rfl)
theorem xy(x):Rt x=True:=(KW.o x).trans (by kernel_rfl)
theorem Zk3(x:G8)(e)(_:e=U_ x.1)(b)(_:b=iSub .i64 x.2 e)(f)(_:f=λ(x0:Ar)=>So x.1 (R_ x0.2) [])(c)(_:c=(λ(x0:Ar)=>W_ (c_ x0.2 e) (U' (c_ (Ez (f x0,x0.1)) 0))))(d)(_:d=(λ(x0:Ar)=>(Ez (f x0,x0.1),V' .i64 x0.2 1)))(a)(_:a=Al c d (b,0))(g)(_:g=List.length x.1)(h)(_:h=c_ b 0):Hr x=Y_ h (-1) (Y_ (c_ a.2 e) (-1) a.1)/\UW x=((h=true->True)/\(h=false->Z_ c d (λ(x0:Ar)=>(c_ x0.2 e=true->((0:Int)<=x0.2/\x0.2<(g:Int))/\R_ x0.2<g/\Rt (f x0,x0.1))/\(c_ x0.2 e=false->True)) (b,0))):=by subst_vars;exact⟨(KB.v x).trans (by kernel_rfl),(KB.o x).trans (by kernel_rfl)⟩
abbrev wZ:=λx=>(Zk3 x _ rfl _ rfl _ rfl _ rfl _ rfl _ rfl _ rfl _ rfl).1
abbrev wu:=λx=>(Zk3 x _ rfl _ rfl _ rfl _ rfl _ rfl _ rfl _ rfl _ rfl).2
theorem Zk6(x:LN)(a)(_:a=Fh ((x.1.1,x.1.2.1),x.2))(b)(_:b=Hr (x.1.2.2.1,a))(c)(_:c=x.1.2.2.2.2.1)(d)(_:d=c_ a 0)(e)(_:e=c_ b 0):Jr x=Y_ d (-1) (Y_ e (-1) (Y_ (c_ (Mf (c,b)) 0) (-1) (Mf (c,b))))/\UY x=(U7 ((x.1.1,x.1.2.1),x.2)/\(d=true->True)/\(d=false->UW (x.1.2.2.1,a)/\(e=true->True)/\(e=false->Vo (c,b)))):=by subst_vars;exact⟨(Kz.v x).trans (by kernel_rfl),(Kz.o x).trans (by kernel_rfl)⟩
abbrev vX:=λx=>(Zk6 x _ rfl _ rfl _ rfl _ rfl _ rfl).1
abbrev vo:=λx=>(Zk6 x _ rfl _ rfl _ rfl _ rfl _ rfl).2
theorem yQ(x):Jt x=(x.1,x.2.1,x.2.2):=(KZ.v x).trans (by kernel_rfl)
theorem y5(x):Ry x=True:=(KZ.o x).trans (by kernel_rfl)
theorem Zk9(x:Cj)(b)(_:b=λ(x0:LR)=>So x (R_ x0.2) (0,0,0))(a)(_:a=λ(x0:LR)=>Jt ((b x0).1,(b x0).2.1,(b x0).2.2))(c)(_:c=(λ(x0:LR)=>(lSet x0.1 (R_ x0.2) ((a x0).1,(a x0).2.1,(a x0).2.2),V' .i64 x0.2 1)))(d)(_:d=U_ x)(e)(_:e=(λ(x0:LR)=>c_ x0.2 d))(f)(_:f=lRep d (0,0,0)):Pw x=(Al e c (f,0)).1/\Rv x=(((0:Int)<=d/\AD (Int.toNat d*3))/\Z_ e c (λ(x0:LR)=>(c_ x0.2 d=true->((0:Int)<=x0.2/\x0.2<(List.length x:Int))/\R_ x0.2<List.length x/\Ry ((b x0).1,(b x0).2.1,(b x0).2.2)/\((0:Int)<=x0.2/\x0.2<(List.length x0.1:Int))/\R_ x0.2<List.length x0.1)/\(c_ x0.2 d=false->True)) (f,0)):=by subst_vars;exact⟨(KS.v x).trans (by kernel_rfl),(KS.o x).trans (by kernel_rfl)⟩
abbrev yt:=λx=>(Zk9 x _ rfl _ rfl _ rfl _ rfl _ rfl _ rfl).1
abbrev xg:=λx=>(Zk9 x _ rfl _ rfl _ rfl _ rfl _ rfl _ rfl).2
theorem Zlb(x:CA)(a)(_:a=(λ(x0:G8)=>(lSet x0.1 (R_ x0.2) (Pw (So x (R_ x0.2) [])),V' .i64 x0.2 1)))(b)(_:b=U_ x)(c)(_:c=(λ(x0:G8)=>c_ x0.2 b)):Vg x=(Al c a (lRep b [],0)).1/\UK x=(((0:Int)<=b/\AD (Int.toNat b*1))/\Z_ c a (λ(x0:G8)=>(c_ x0.2 b=true->((0:Int)<=x0.2/\x0.2<(List.length x:Int))/\R_ x0.2<List.length x/\Rv (So x (R_ x0.2) [])/\((0:Int)<=x0.2/\x0.2<(List.length x0.1:Int))/\R_ x0.2<List.length x0.1)/\(c_ x0.2 b=false->True)) (lRep b [],0)):=by subst_vars;exact⟨(KL.v x).trans (by kernel_rfl),(KL.o x).trans (by kernel_rfl)⟩
abbrev vg:=λx=>(Zlb x _ rfl _ rfl _ rfl).1
abbrev vn:=λx=>(Zlb x _ rfl _ rfl _ rfl).2
theorem wy(x):Ah x=((Rl (x.1,x.2.1)).1,(Rl (x.1,x.2.1)).2,Vg x.2.2.1,x.2.2.2.1,VH x.2.2.2.2.1,x.2.2.2.2.2.1,x.2.2.2.2.2.2):=(FE.v x).trans (by kernel_rfl)
theorem vk(x):Nq x=(Vc (x.1,x.2.1)/\UK x.2.2.1/\Vq x.2.2.2.2.1):=(FE.o x).trans (by kernel_rfl)
theorem Zlg(x:LN)(b)(_:b=x.1.2.2.2.2.1)(d)(_:d=U_ b)(a)(_:a=(λ(x0:Int)=>W_ (c_ x0 d) (U' (g9 (So b (R_ x0) (0,0,0,0,0)).1 x.2))))(c)(_:c=(λ(x0:Int)=>V' .i64 x0 1)):PD x=Y_ (c_ (Al a c 0) d) (Al a c 0) (-1)/\VB x=Z_ a c (λ(x0:Int)=>(c_ x0 d=true->((0:Int)<=x0/\x0<(List.length b:Int))/\R_ x0<List.length b)/\(c_ x0 d=false->True)) 0:=by subst_vars;exact⟨(Is.v x).trans (by kernel_rfl),(Is.o x).trans (by kernel_rfl)⟩
abbrev zv:=λx=>(Zlg x _ rfl _ rfl _ rfl _ rfl).1
abbrev y6:=λx=>(Zlg x _ rfl _ rfl _ rfl _ rfl).2
theorem Zlj(x:LN)(b)(_:b=x.1.2.2.2.2.1)(d)(_:d=U_ b)(a)(_:a=(λ(x0:Int)=>W_ (c_ x0 d) (U' (g9 (So b (R_ x0) (0,0,0,0,0)).1 x.2))))(c)(_:c=(λ(x0:Int)=>V' .i64 x0 1)):FJ x=Y_ (c_ (Al a c 0) d) (Al a c 0) (-1)/\VE x=Z_ a c (λ(x0:Int)=>(c_ x0 d=true->((0:Int)<=x0/\x0<(List.length b:Int))/\R_ x0<List.length b)/\(c_ x0 d=false->True)) 0:=by subst_vars;exact⟨(Iv.v x).trans (by kernel_rfl),(Iv.o x).trans (by kernel_rfl)⟩
abbrev yU:=λx=>(Zlj x _ rfl _ rfl _ rfl _ rfl).1
abbrev ze:=λx=>(Zlj x _ rfl _ rfl _ rfl _ rfl).2
theorem yN(x):K6 x=W_ (U' (i_ x.1.1 x.2.1)) (W_ (U' (i_ x.1.2.1 x.2.2.1)) (U' (i_ x.1.2.2 x.2.2.2))):=(K7.v x).trans (by kernel_rfl)
theorem zj(x):RA x=True:=(K7.o x).trans (by kernel_rfl)
theorem Zlm(x:pG)(b)(_:b=λ(x0:Int)=>So x.1 (R_ x0) (0,0,0))(c)(_:c=λ(x0:Int)=>So x.2 (R_ x0) (0,0,0))(d)(_:d=U_ x.1)(a)(_:a=(λ(x0:Int)=>W_ (c_ x0 d) (U' (U' (K6 (((b x0).1,(b x0).2.1,(b x0).2.2),(c x0).1,(c x0).2.1,(c x0).2.2))))))(e)(_:e=i_ d (U_ x.2))(f)(_:f=(λ(x0:Int)=>V' .i64 x0 1))(g)(_:g=List.length x.1)(h)(_:h=List.length x.2):KR x=W_ (U' e) (U' (c_ (Al a f 0) d))/\Rs x=((e=true->True)/\(e=false->Z_ a f (λ(x0:Int)=>(c_ x0 d=true->((0:Int)<=x0/\x0<(g:Int))/\R_ x0<g/\((0:Int)<=x0/\x0<(h:Int))/\R_ x0<h/\RA (((b x0).1,(b x0).2.1,(b x0).2.2),(c x0).1,(c x0).2.1,(c x0).2.2))/\(c_ x0 d=false->True)) 0)):=by subst_vars;exact⟨(KO.v x).trans (by kernel_rfl),(KO.o x).trans (by kernel_rfl)⟩
abbrev xV:=λx=>(Zlm x _ rfl _ rfl _ rfl _ rfl _ rfl _ rfl _ rfl _ rfl).1
abbrev xU:=λx=>(Zlm x _ rfl _ rfl _ rfl _ rfl _ rfl _ rfl _ rfl _ rfl).2
theorem Zlp(x:pR)(b)(_:b=U_ x.1)(a)(_:a=(λ(x0:Int)=>W_ (c_ x0 b) (U' (U' (KR (So x.1 (R_ x0) [],So x.2 (R_ x0) []))))))(c)(_:c=i_ b (U_ x.2))(d)(_:d=(λ(x0:Int)=>V' .i64 x0 1))(e)(_:e=List.length x.1)(f)(_:f=List.length x.2):Ps x=W_ (U' c) (U' (c_ (Al a d 0) b))/\UJ x=((c=true->True)/\(c=false->Z_ a d (λ(x0:Int)=>(c_ x0 b=true->((0:Int)<=x0/\x0<(e:Int))/\R_ x0<e/\((0:Int)<=x0/\x0<(f:Int))/\R_ x0<f/\Rs (So x.1 (R_ x0) [],So x.2 (R_ x0) []))/\(c_ x0 b=false->True)) 0)):=by subst_vars;exact⟨(KK.v x).trans (by kernel_rfl),(KK.o x).trans (by kernel_rfl)⟩
abbrev wJ:=λx=>(Zlp x _ rfl _ rfl _ rfl _ rfl _ rfl _ rfl).1
abbrev uL:=λx=>(Zlp x _ rfl _ rfl _ rfl _ rfl _ rfl _ rfl).2
theorem Zlr(x:pQ)(a)(_:a=U' (Pt ((x.1.1,x.1.2.1),x.2.1,x.2.2.1)))(b)(_:b=U' (Ps (x.1.2.2.1,x.2.2.2.1)))(c)(_:c=i_ x.1.2.2.2.1 x.2.2.2.2.1):DZ x=W_ (U' a) (W_ (U' b) (W_ (U' c) (W_ (U' (U' (Vs (x.1.2.2.2.2.1,x.2.2.2.2.2.1)))) (W_ (U' (i_ x.1.2.2.2.2.2.1 x.2.2.2.2.2.2.1)) (U' (U' (bIff x.1.2.2.2.2.2.2 x.2.2.2.2.2.2.2)))))))/\Ns x=(UM ((x.1.1,x.1.2.1),x.2.1,x.2.2.1)/\(a=true->True)/\(a=false->UJ (x.1.2.2.1,x.2.2.2.1)/\(b=true->True)/\(b=false->(c=true->True)/\(c=false->Vl (x.1.2.2.2.2.1,x.2.2.2.2.2.1))))):=by subst_vars;exact⟨(ET.v x).trans (by kernel_rfl),(ET.o x).trans (by kernel_rfl)⟩
abbrev vN:=λx=>(Zlr x _ rfl _ rfl _ rfl).1
abbrev vK:=λx=>(Zlr x _ rfl _ rfl _ rfl).2
attribute [irreducible] Ez Rt Hr UW Jr UY Jt Ry Pw Rv Vg UK Ah Nq PD VB FJ VE K6 RA KR Rs Ps UJ DZ Ns
end
section
set_option maxRecDepth 8000
def rG:d4:=(A_ [3,2] 2 [O' 0 2 0,O' 1 2 1,Q_ As] (.seq [3,2] (A_ [19,3,2] 6 [J' 0 2,J_ 0 6,J' 0 3,J_ 1 8,N' 7 9,C_ 10,F' 11 (J' 1 2),F' 11 (J_ 0 12),F' 11 (L' 13),F' 11 (J' 1 3),F' 11 (J_ 1 15),F' 11 (L' 16),F' 11 (N' 14 17),L_ 11 AV 18] (.cond 19 (A_ [4] 4 [Q_ As] .ret) .skip)) (.seq [] (A_ [5,3,2] 5 [E' 0] (.block 0 (.loop [2,3,5] 1 (.seq [5,3,2] (A_ [24,5,3,2] 20 [C_ 5,J' 1 2,J_ 0 21,L' 22,M' 20 23] (.cond 24 .skip (.exit 0))) (.seq [5,3,2] (.block 1 (A_ [37,5,3,2] 27 [J' 1 2,G' (rg 1) (J_ 0 27),C_ 5,G' (rg 3) (N_ 1 28 29),G' (rg 4) (O_ 30),J' 1 3,G' [5] (J_ 1 32),C_ 5,G' [5,6,7] (N_ 1 33 34),G' [5,6,7,8] (O_ 35),G' (rg 10) (N' 31 36)] (.cond 37 (A_ [4] 4 [Q_ As] .ret) .skip))) (At 25 [C_ 5,M_ 25 AA,G_ 5 (C_ 26)])))))) (A_ [4] 4 [Q_ AV] .ret))))
def Kc:Fn:=⟨⟨2,38,2,true,[.tmp 4],rG⟩,[.agg [Au,(.Z',.sl (.one (.int .i64)))],.agg [Au,(.Z',.sl (.one (.int .i64)))]],.one (.one .own (.bool))⟩
theorem rV:Kc.A:=AM trivial
def Pa:Oz->Bool:=Kc.V
def Ui:Oz->Prop:=Kc.O
theorem sN:Kc.B:=AO trivial (by kernel_rfl) (λx=>by kernel_rfl)
def uZ:d4:=(A_ [1,0] 4 [Q_ As] (.seq [1,0] (A_ [10,1,0] 6 [D_ 0,L' 6,D_ 1,L' 8,N' 7 9] (.cond 10 (A_ [4] 4 [Q_ As] .ret) .skip)) (.seq [] (A_ [13,12,1,0] 11 [D_ 0,L' 11,E' 0] (.block 0 (.loop [0,1,12,13] 1 (A_ [14,13,12,1,0] 14 [M' 13 12] (.seq [13,12,1,0] (.cond 14 .skip (.exit 0)) (.seq [13,12,1,0] (.block 1 (A_ [13,12,5,1,0] 15 [C_ 13,G_ 5 (C_ 15)] (A_ [24,13,12,1,0] 16 [D_ 0,C_ 5,G' (rg 2) (N_ 1 16 17),G' (rg 3) (O_ 18),D_ 1,C_ 5,G' [4,5] (N_ 1 20 21),G' [4,5,6] (O_ 22),G' (rg 8) (N' 19 23)] (.cond 24 (A_ [4] 4 [Q_ As] .ret) .skip)))) (At 25 [M_ 13 AA,G_ 13 (C_ 25)]))))))) (A_ [4] 4 [Q_ AV] .ret))))
def Ik:Fn:=⟨⟨2,26,0,true,[.tmp 4],uZ⟩,[.one .Z' (.sl (.one (.int .i64))),.one .Z' (.sl (.one (.int .i64)))],.one (.one .own (.bool))⟩
theorem vi:Ik.A:=AM trivial
def Zk:Yj->Bool:=Ik.V
def Zc:Yj->Prop:=Ik.O
theorem wL:Ik.B:=AO trivial (by kernel_rfl) (λx=>by kernel_rfl)
def sF:d4:=(A_ [3,2] 2 [O' 0 2 0,O' 1 2 1,Q_ As] (A_ [4] 5 [J' 0 2,J_ 0 5,J' 0 3,J_ 1 7,Nm 6 8,C_ 9,F_ 10 (J' 1 2),F_ 10 (J_ 0 11),F_ 10 (J' 1 3),F_ 10 (J_ 1 13),F_ 10 (I' Ik [12,14]),L_ 10 15 As,G_ 4 (C_ 16)] .ret))
def Hp:Fn:=⟨⟨2,17,2,true,[.tmp 4],sF⟩,[.agg [Au,(.Z',.sl (.one (.int .i64)))],.agg [Au,(.Z',.sl (.one (.int .i64)))]],.one (.one .own (.bool))⟩
theorem sv:Hp.A:=AM ⟨vi,trivial⟩
def F7:Oz->Bool:=Hp.V
def Nj:Oz->Prop:=Hp.O
theorem sI:Hp.B:=AO ⟨wL,trivial⟩ (by kernel_rfl) (λx=>by kernel_rfl)
def zR:d4:=(A_ [1,0] 4 [Q_ As] (.seq [1,0] (A_ [10,1,0] 6 [D_ 0,L' 6,D_ 1,L' 8,N' 7 9] (.cond 10 (A_ [4] 4 [Q_ As] .ret) .skip)) (.seq [] (A_ [5,1,0] 5 [E' 0] (.block 0 (.loop [0,1,5] 1 (.seq [5,1,0] (A_ [14,5,1,0] 11 [C_ 5,D_ 0,L' 12,M' 11 13] (.cond 14 .skip (.exit 0))) (.seq [5,1,0] (.block 1 (A_ [25,5,1,0] 17 [D_ 0,C_ 5,G' (rg 2) (N_ 1 17 18),G' (rg 3) (O_ 19),D_ 1,C_ 5,G' [4,5] (N_ 1 21 22),G' [4,5,6] (O_ 23),G' (rg 8) (N' 20 24)] (.cond 25 (A_ [4] 4 [Q_ As] .ret) .skip))) (At 15 [C_ 5,M_ 15 AA,G_ 5 (C_ 16)])))))) (A_ [4] 4 [Q_ AV] .ret))))
def KY:Fn:=⟨⟨2,26,0,true,[.tmp 4],zR⟩,[.one .Z' (.sl (.one (.int .i64))),.one .Z' (.sl (.one (.int .i64)))],.one (.one .own (.bool))⟩
theorem zM:KY.A:=AM trivial
def VM:Yj->Bool:=KY.V
def VI:Yj->Prop:=KY.O
theorem zY:KY.B:=AO trivial (by kernel_rfl) (λx=>by kernel_rfl)
def vY:d4:=(A_ [3,2] 2 [O' 0 2 0,O' 1 2 1,Q_ As] (.seq [3,2] (A_ [9,3,2] 5 [J' 0 2,J_ 0 5,J' 0 3,J_ 1 7,N' 6 8] (.cond 9 (A_ [4] 4 [Q_ As] .ret) .skip)) (.seq [] (A_ [15] 10 [J' 1 2,J_ 0 10,J' 1 3,J_ 1 12,I' KY [11,13],P' 14] (.cond 15 (A_ [4] 4 [Q_ As] .ret) .skip)) (A_ [4] 4 [Q_ AV] .ret))))
def Ky:Fn:=⟨⟨2,16,2,true,[.tmp 4],vY⟩,[.agg [Au,(.Z',.sl (.one (.int .i64)))],.agg [Au,(.Z',.sl (.one (.int .i64)))]],.one (.one .own (.bool))⟩
theorem u9:Ky.A:=AM ⟨zM,trivial⟩
def KN:Oz->Bool:=Ky.V
def Rg:Oz->Prop:=Ky.O
theorem wY:Ky.B:=AO ⟨zY,trivial⟩ (by kernel_rfl) (λx=>by kernel_rfl)
end
section
set_option maxRecDepth 100000
theorem Zlu(x:Oz)(c)(_:c=U_ x.1.2)(a)(_:a=w_ (i_ x.1.1 x.2.1) (i_ c (U_ x.2.2)))(b)(_:b=(λ(x0:Int)=>W_ (c_ x0 c) (U' (i_ (So x.1.2 (R_ x0) 0) (So x.2.2 (R_ x0) 0)))))(d)(_:d=(λ(x0:Int)=>V' .i64 x0 1))(e)(_:e=List.length x.1.2)(f)(_:f=List.length x.2.2):Pa x=W_ (U' a) (U' (c_ (Al b d 0) c))/\Ui x=((a=true->True)/\(a=false->Z_ b d (λ(x0:Int)=>(c_ x0 c=true->((0:Int)<=x0/\x0<(e:Int))/\R_ x0<e/\((0:Int)<=x0/\x0<(f:Int))/\R_ x0<f)/\(c_ x0 c=false->True)) 0)):=by subst_vars;exact⟨(Kc.v x).trans (by kernel_rfl),(Kc.o x).trans (by kernel_rfl)⟩
abbrev r8:=λx=>(Zlu x _ rfl _ rfl _ rfl _ rfl _ rfl _ rfl).1
abbrev sn:=λx=>(Zlu x _ rfl _ rfl _ rfl _ rfl _ rfl _ rfl).2
theorem Zlx(x:Yj)(b)(_:b=U_ x.1)(a)(_:a=(λ(x0:Int)=>W_ (c_ x0 b) (U' (i_ (So x.1 (R_ x0) 0) (So x.2 (R_ x0) 0)))))(c)(_:c=i_ b (U_ x.2))(d)(_:d=(λ(x0:Int)=>V' .i64 x0 1))(e)(_:e=List.length x.1)(f)(_:f=List.length x.2):Zk x=W_ (U' c) (U' (c_ (Al a d 0) b))/\Zc x=((c=true->True)/\(c=false->Z_ a d (λ(x0:Int)=>(c_ x0 b=true->((0:Int)<=x0/\x0<(e:Int))/\R_ x0<e/\((0:Int)<=x0/\x0<(f:Int))/\R_ x0<f)/\(c_ x0 b=false->True)) 0)):=by subst_vars;exact⟨(Ik.v x).trans (by kernel_rfl),(Ik.o x).trans (by kernel_rfl)⟩
abbrev ga:=λx=>(Zlx x _ rfl _ rfl _ rfl _ rfl _ rfl _ rfl).1
abbrev wo:=λx=>(Zlx x _ rfl _ rfl _ rfl _ rfl _ rfl _ rfl).2
theorem fC(x):F7 x=W_ (g9 x.1.1 x.2.1) (Zk (x.1.2,x.2.2)):=(Hp.v x).trans (by kernel_rfl)
theorem rq(x):Nj x=((g9 x.1.1 x.2.1=true->Zc (x.1.2,x.2.2))/\(g9 x.1.1 x.2.1=false->True)):=(Hp.o x).trans (by kernel_rfl)
theorem ZlC(x:Yj)(b)(_:b=U_ x.1)(a)(_:a=(λ(x0:Int)=>W_ (c_ x0 b) (U' (i_ (So x.1 (R_ x0) 0) (So x.2 (R_ x0) 0)))))(c)(_:c=i_ b (U_ x.2))(d)(_:d=(λ(x0:Int)=>V' .i64 x0 1))(e)(_:e=List.length x.1)(f)(_:f=List.length x.2):VM x=W_ (U' c) (U' (c_ (Al a d 0) b))/\VI x=((c=true->True)/\(c=false->Z_ a d (λ(x0:Int)=>(c_ x0 b=true->((0:Int)<=x0/\x0<(e:Int))/\R_ x0<e/\((0:Int)<=x0/\x0<(f:Int))/\R_ x0<f)/\(c_ x0 b=false->True)) 0)):=by subst_vars;exact⟨(KY.v x).trans (by kernel_rfl),(KY.o x).trans (by kernel_rfl)⟩
abbrev zV:=λx=>(ZlC x _ rfl _ rfl _ rfl _ rfl _ rfl _ rfl).1
abbrev yM:=λx=>(ZlC x _ rfl _ rfl _ rfl _ rfl _ rfl _ rfl).2
theorem vU(x):KN x=W_ (U' (i_ x.1.1 x.2.1)) (U' (U' (VM (x.1.2,x.2.2)))):=(Ky.v x).trans (by kernel_rfl)
theorem wi(x):Rg x=((i_ x.1.1 x.2.1=true->True)/\(i_ x.1.1 x.2.1=false->VI (x.1.2,x.2.2))):=(Ky.o x).trans (by kernel_rfl)
attribute [irreducible] Pa Ui Zk Zc F7 Nj VM VI KN Rg
end
section
set_option maxRecDepth 8000
def zA:d4:=(A_ [3,0] 3 [O' 0 3 1,E' 0] (.seq [] (A_ [5,3,0] 5 [E' 0] (.block 0 (.loop [0,3,5] 1 (.seq [5,3,0] (A_ [9,5,3,0] 6 [C_ 5,D_ 0,L' 7,M' 6 8] (.cond 9 .skip (.exit 0))) (.seq [5,3,0] (.block 1 (A_ [31,5,3,0] 12 [D_ 0,C_ 5,G' (rg 2) (N_ 5 12 13),G' (rg 3) (J' 1 14),G' (rg 4) (J' 1 15),G' (rg 5) (O_ 16),J' 1 3,G' [6] (J_ 0 18),G' (rg 8) (Nm 17 19),G' (rg 9) (Q_ 20),F_ 21 (G' [0,1,2,3,4,5,6,7,8,9] (I_ (.a true (.mv 0) none))),F_ 21 (G' [0,1,2,3,4,5,6,7,8,9] (I_ (.a false (.mv 5) none))),F_ 21 (G' [0,1,2,3,4,5,6,7,8,9,10,11] (I_ (.a false (.p_ 5 22 23) none))),F_ 21 (G' [0,1,2,3,4,5,6,7,8,9,10,11,12] (I_ (.a false (.f5 1 24) none))),F_ 21 (G' [0,1,2,3,4,5,6,7,8,9,10,11,12,13] (I_ (.a false (.f5 2 25) none))),F_ 21 (G' [0,1,2,3,4,5,6,7,8,9,10,11,12,13,14] (I_ (.a false (.i5 none 26) none))),F_ 21 (G' [0,1,2,3,4,5,6,7,8,9] (I_ (.a false (.f5 2 3) none))),F_ 21 (G' [0,1,2,3,4,5,6,7,8,9,16] (I_ (.a false (.d7 0 none 28) none))),F_ 21 (G' [0,1,2,3,4,5,6,7,8,9,10,11,12,13,14,15,16,17] (I_ (.a false (.bin .eql 27 29) none))),G' (rg 19) (L_ 21 30 As)] (.cond 31 (A_ [4] 32 [C_ 5,G_ 4 (C_ 32)] .ret) .skip))) (At 10 [C_ 5,M_ 10 AA,G_ 5 (C_ 11)])))))) (A_ [4] 4 [E' (-1)] .ret)))
def It:Fn:=⟨⟨2,33,1,true,[.tmp 4],zA⟩,[.one .Z' (.sl AU),.agg [Au,Au,Au]],.one (.one .own (.int .i64))⟩
theorem hJ:It.A:=AM trivial
def CG:pH->Int:=It.V
def Nu:pH->Prop:=It.O
theorem gZ:It.B:=AO trivial (by kernel_rfl) (λx=>by kernel_rfl)
def wD:d4:=(A_ [2,1] 1 [O' 0 3 0,B_ (.e_ 1 [Ad,Ad,Ad,Ad])] (A_ [2] 3 [J' 1 1,C' (.d7 0 none 3),J' 2 1,C' (.d7 0 none 5),B_ (.build [Ad,Ad,Ad,Ad] [(0,1,(.c (.int .i64 2))),(1,1,4),(2,1,6)]),E_ (.V_ 1 4 2 7)] .ret))
def FF:Fn:=⟨⟨1,8,2,true,[.cell 2 (some 4)],wD⟩,[.agg [Au,Au,Au]],.one (.agg [AN,AN,AN,AN])⟩
theorem Y9:FF.A:=AM trivial
def Be:Dr->Int×Int×Int×Int:=FF.V
def Re:Dr->Prop:=FF.O
theorem Y6:FF.B:=AO trivial (by kernel_rfl) (λx=>by kernel_rfl)
def sR:d4:=(A_ [1,0] 4 [Q_ (.c .b_)] (.seq [4] (.region [on 1 6 0,om 2 7 1,xA 3 8 (.slice 5 6 none (some 7)) [1,2],on 5 10 0,om 6 11 1,xA 7 12 (.bin .add 11 AA) [6],xA 8 13 (.slice 5 10 (some 12) none) [5,6,7],⟨0,some 5,.a false (.d5 5 0 [] []) (some AU),none,[]⟩,xA 4 9 (.app 5 5 8) (rg 4),xA 9 14 (.app 5 9 13) (rg 9),xA 10 4 (.mv 14) (rg 10)]) .ret))
def Ih:Fn:=⟨⟨2,15,0,false,[.tmp 4],sR⟩,[.one .Z' (.sl AU),.one .Z' (.int .i64)],.one (.one .own (.sl AU))⟩
theorem fN:Ih.A:=AM trivial
def ER:DR->List Dc:=Ih.V
def O9:DR->Prop:=Ih.O
theorem fI:Ih.B:=AO trivial (by kernel_rfl) (λx=>by kernel_rfl)
def xp:d4:=(A_ [0] 2 [Q_ As] (A_ [3,0] 7 [Q' AU (.d5 5 0 [] []),G_ 3 (C_ 7)] (.seq [3,0] (A_ [4,3,0] 4 [E' 0] (.block 0 (.loop [0,3,4] 1 (.seq [4,3,0] (A_ [11,4,3,0] 8 [C_ 4,D_ 0,L' 9,M' 8 10] (.cond 11 .skip (.exit 0))) (.seq [4,3,0] (.block 1 (A_ [5,4,3,0] 14 [D_ 0,C_ 4,N_ 3 14 15,C' (.i5 (some 3) 16),G_ 5 (B_ (.e_ 0 [Ad,Ad,Ad])),E_ (.V_ 0 3 5 17)] (A_ [6,5,4,3,0] 18 [D_ 3,K_ 0 3 5,I' It [18,19],G_ 6 (C_ 20)] (.seq [6,5,4,3,0] (A_ [38,6,5,4,3,0] 21 [J' 0 5,J_ 0 21,I' BR [22,AL,(.c (.int .i64 2))],P' 23,C_ 24,F' 25 (K_ 0 3 5),F' 25 (I' FF [26]),F' 25 (I' Ef [27]),F' 25 (P' 28),L_ 25 AV 29,C_ 30,F' 31 (J' 0 5),F' 31 (J_ 0 32),F' 31 (Nm 33 (.c (.int .i64 2))),F' 31 (Q_ 6),F' 31 (B_ (.bin .geq 35 AL)),F' 31 (B_ (.eqB true 34 36)),L_ 31 AV 37] (.cond 38 (A_ [2] 2 [Q_ As] .ret) .skip)) (A_ [40,6,5,4,3,0] 39 [J' 0 5,J_ 0 39] (.block 2 (A_ [41,40,6,5,4,3,0] 42 [Nm 40 AA,G_ 41 (C_ 42)] (.cond 41 (At 43 [C_ 3,K_ 0 3 5,I' FF [44],B_ (.build [Ad,Ad,Ad,Ad,Ad] [(1,4,45)]),Q' AU (.d5 5 1 [Ad,Ad,Ad,Ad,Ad] [(0,5,46)]),B_ (.app 5 43 47),G_ 3 (C_ 48)]) (A_ [49,6,4,3,0] 50 [Nm 40 (.c (.int .i64 2)),G_ 49 (C_ 50)] (.cond 49 (At 51 [D_ 3,C_ 6,I' Ih [51,52],G_ 3 (C_ 53)]) .skip)))))))))) (At 12 [C_ 4,M_ 12 AA,G_ 4 (C_ 13)])))))) (A_ [2] 54 [D_ 0,L' 54,B_ (.bin .leq 55 (.c (.int .i64 8))),C_ 56,F_ 57 (I_ (.a true (.mv 3) none)),F_ 57 (L' 58),F_ 57 (Nm 59 AL),L_ 57 60 As,G_ 2 (C_ 61)] .ret))))
def GM:Fn:=⟨⟨1,62,1,true,[.tmp 2],xp⟩,[.one .Z' (.sl AQ)],.one (.one .own (.bool))⟩
theorem gE:GM.A:=AM ⟨hJ,Gb,Y9,UI,Y9,fN,trivial⟩
def GL:Cj->Bool:=GM.V
def Pu:Cj->Prop:=GM.O
theorem gN:GM.B:=AO ⟨gZ,Ga,Y6,Va,Y6,fI,trivial⟩ (by kernel_rfl) (λx=>by kernel_rfl)
def yS:d4:=(A_ [3,0] 3 [O' 0 2 1,E' 0] (.seq [] (A_ [9,8,7,3] 7 [D_ 0,L' 7,E' 0] (.block 0 (.loop [3,7,8,9] 1 (A_ [10,9,8,7,3] 10 [M' 9 8] (.seq [9,8,7,3] (.cond 10 .skip (.exit 0)) (.seq [9,8,7,3] (.block 1 (A_ [9,8,7,6,5,3] 11 [C_ 9,N_ 2 7 9,C' (.i5 (some 2) 12),G_ 6 (B_ (.e_ 1 [Ad,Ad])),G_ 5 (C_ 11),E_ (.V_ 1 2 6 13)] (A_ [16,9,8,7,5,3] 14 [K_ 1 2 6,K_ 0 2 3,B_ (.eqA 2 false 14 15)] (.cond 16 (A_ [4] 17 [C_ 5,G_ 4 (C_ 17)] .ret) .skip)))) (At 18 [M_ 9 AA,G_ 9 (C_ 18)]))))))) (A_ [4] 4 [E' (-1)] .ret)))
def Iw:Fn:=⟨⟨2,19,2,true,[.tmp 4],yS⟩,[.one .Z' (.sl (.cons (.int .i64) (.one (.int .i64)))),.agg [Au,Au]],.one (.one .own (.int .i64))⟩
theorem gX:Iw.A:=AM trivial
def Bp:pq->Int:=Iw.V
def Pv:pq->Prop:=Iw.O
theorem gY:Iw.B:=AO trivial (by kernel_rfl) (λx=>by kernel_rfl)
def xK:d4:=(A_ [0] 2 [Q_ As] (.seq [0] (A_ [10,0] 8 [D_ 0,L' 8,B_ (.bin .gtr 9 (.c (.int .i64 8)))] (.cond 10 (A_ [2] 2 [Q_ As] .ret) .skip)) (A_ [3,0] 3 [I_ (.aw [(0,2)] false (.mv (.c .b_)) none)] (.seq [3] (A_ [13,12,11,3] 11 [D_ 0,L' 11,E' 0] (.block 0 (.loop [3,11,12,13] 1 (A_ [14,13,12,11,3] 14 [M' 13 12] (.seq [13,12,11,3] (.cond 14 .skip (.exit 0)) (.seq [13,12,11,3] (.block 1 (A_ [13,12,11,5,3] 15 [N_ 3 11 13,C' (.i5 (some 3) 15),G_ 5 (B_ (.e_ 0 [Ad,Ad,Ad])),E_ (.V_ 0 3 5 16)] (A_ [13,12,11,6,5,3] 17 [J' 1 5,C' (.d7 0 none 17),J' 2 5,C' (.d7 0 none 19),B_ (.build [Ad,Ad] [(0,1,18),(1,1,20)]),G_ 6 (B_ (.e_ 1 [Ad,Ad])),E_ (.V_ 1 2 6 21)] (A_ [13,12,11,7,6,5,3] 22 [D_ 3,K_ 1 2 6,I' Iw [22,23],G_ 7 (C_ 24)] (.seq [13,12,11,7,6,5,3] (A_ [31,13,12,11,7,6,5,3] 25 [J' 1 5,C' (.d7 0 none 25),J' 2 5,C' (.d7 0 none 27),B_ (.build [Ad,Ad,Ad,Ad] [(0,1,(.c (.int .i64 2))),(1,1,26),(2,1,28)]),I' EX [29],P' 30] (.cond 31 (A_ [2] 2 [Q_ As] .ret) .skip)) (A_ [33,13,12,11,7,6,5,3] 32 [J' 0 5,J_ 0 32] (.block 2 (.seq [34,33,13,12,11,7,6,5,3] (A_ [34,33,13,12,11,7,6,5,3] 35 [Nm 33 AL,G_ 34 (C_ 35)] (.cond 34 .skip (At 36 [Nm 33 AA,G_ 34 (C_ 36)]))) (.cond 34 (.seq [13,12,11,6,5,3] (A_ [38,13,12,11,6,5,3] 37 [C_ 7,B_ (.bin .geq 37 AL)] (.cond 38 (A_ [2] 2 [Q_ As] .ret) .skip)) (A_ [41,13,12,11,6,3] 39 [J' 0 5,J_ 0 39,Nm 40 AA] (.cond 41 (At 42 [C_ 3,C' (.d7 1 (some 2) 6),Q' (.cons (.int .i64) (.one (.int .i64))) (.d5 2 1 [Ad,Ad] [(0,2,43)]),I_ (.aw [(0,2)] false (.app 2 42 44) none),G_ 3 (I_ (.aw [(0,2)] false (.mv 45) none))]) .skip))) (A_ [46,13,12,11,7,3] 47 [Nm 33 (.c (.int .i64 2)),G_ 46 (C_ 47)] (.cond 46 (.seq [13,12,11,7,3] (A_ [49,13,12,11,7,3] 48 [C_ 7,M' 48 AL] (.cond 49 (A_ [2] 2 [Q_ As] .ret) .skip)) (At 50 [D_ 3,C_ 7,G' (rg 2) (B_ (.slice 2 50 none (some 51))),D_ 3,C_ 7,G' [4] (M_ 54 AA),G' [3,4,5] (B_ (.slice 2 53 (some 55) none)),G' [0,1,2,3,4,5,6] (I_ (.aw [(0,2)] false (.app 2 52 56) none)),G_ 3 (G' [0,1,2,3,4,5,6,7] (I_ (.aw [(0,2)] false (.mv 57) none)))])) (A_ [2] 2 [Q_ As] .ret)))))))))))) (At 58 [M_ 13 AA,G_ 13 (C_ 58)]))))))) (A_ [2] 59 [D_ 3,L' 59,Nm 60 AL,G_ 2 (C_ 61)] .ret)))))
def GN:Fn:=⟨⟨1,62,2,true,[.tmp 2],xK⟩,[.one .Z' (.sl AQ)],.one (.one .own (.bool))⟩
theorem gA:GN.A:=AM ⟨gX,U8,trivial⟩
def Iq:Cj->Bool:=GN.V
def Pp:Cj->Prop:=GN.O
theorem gK:GN.B:=AO ⟨gY,U1,trivial⟩ (by kernel_rfl) (λx=>by kernel_rfl)
end
section
set_option maxRecDepth 100000
theorem ZlH(x:pH)(b)(_:b=λ(x0:Int)=>g9 (So x.1 (R_ x0) (0,0,0,0,0)).2.2.1 x.2.2.1)(e)(_:e=U_ x.1)(a)(_:a=(λ(x0:Int)=>W_ (c_ x0 e) (U' (W_ (b x0) (g9 (So x.1 (R_ x0) (0,0,0,0,0)).2.2.2.1 x.2.2.2)))))(c)(_:c=(λ(x0:Int)=>V' .i64 x0 1))(d)(_:d=List.length x.1):CG x=Y_ (c_ (Al a c 0) e) (Al a c 0) (-1)/\Nu x=Z_ a c (λ(x0:Int)=>(c_ x0 e=true->((0:Int)<=x0/\x0<(d:Int))/\R_ x0<d/\(b x0=true->((0:Int)<=x0/\x0<(d:Int))/\R_ x0<d)/\(b x0=false->True))/\(c_ x0 e=false->True)) 0:=by subst_vars;exact⟨(It.v x).trans (by kernel_rfl),(It.o x).trans (by kernel_rfl)⟩
abbrev zJ:=λx=>(ZlH x _ rfl _ rfl _ rfl _ rfl _ rfl).1
abbrev yH:=λx=>(ZlH x _ rfl _ rfl _ rfl _ rfl _ rfl).2
theorem Q9(x):Be x=(2,x.2.1,x.2.2,0):=(FF.v x).trans (by kernel_rfl)
theorem gp(x):Re x=True:=(FF.o x).trans (by kernel_rfl)
theorem UE(x):ER x=i9 (i9 [] (lSub x.1 0 (R_ x.2))) (lSub x.1 (R_ (V' .i64 x.2 1)) (lN x.1)):=(Ih.v x).trans (by kernel_rfl)
theorem ZlI(x:DR)(a)(_:a=List.length x.1)(b)(_:b=V' .i64 x.2 1)(c)(_:c=R_ x.2):O9 x=(((0:Int)<=x.2/\0<=c/\c<=a/\0<a)/\((0:Int)<=b/\R_ b<=lN x.1/\lN x.1<=a/\0<a)/\AD ((List.length ([]:List Dc)+List.length (lSub x.1 0 c))*5)/\AD ((List.length (i9 [] (lSub x.1 0 c))+List.length (lSub x.1 (R_ b) (lN x.1)))*5)):=by subst_vars;exact(Ih.o x).trans (by kernel_rfl)
abbrev tw:=λx=>ZlI x _ rfl _ rfl _ rfl
theorem ZlM(x:Cj)(a)(_:a=λ(x0:DR)=>So x (R_ x0.2) (0,0,0))(b)(_:b=λ(x0:DR)=>Be ((a x0).1,(a x0).2.1,(a x0).2.2))(f)(_:f=λ(x0:DR)=>CG (x0.1,(a x0).1,(a x0).2.1,(a x0).2.2))(h)(_:h=λ(x0:DR)=>U' (BM ((a x0).1,0,2)))(c)(_:c=λ(x0:DR)=>w_ (h x0) (w_ (U' (D7 ((b x0).1,(b x0).2.1,(b x0).2.2.1,(b x0).2.2.2))) (U' (bIff (g9 (a x0).1 2) (iGe (f x0) 0)))))(d)(_:d=(λ(x0:DR)=>(Y_ (g9 (a x0).1 1) (i9 x0.1 [(0,(b x0).1,(b x0).2.1,(b x0).2.2.1,(b x0).2.2.2)]) (Y_ (g9 (a x0).1 2) (ER (x0.1,f x0)) x0.1),V' .i64 x0.2 1)))(g)(_:g=U_ x)(e)(_:e=(λ(x0:DR)=>W_ (c_ x0.2 g) (U' (c x0)))):GL x=W_ (U' (c_ (Al e d ([],0)).2 g)) (W_ (iLe g 8) (g9 (U_ (Al e d ([],0)).1) 0))/\Pu x=Z_ e d (λ(x0:DR)=>(c_ x0.2 g=true->((0:Int)<=x0.2/\x0.2<(List.length x:Int))/\R_ x0.2<List.length x/\Nu (x0.1,(a x0).1,(a x0).2.1,(a x0).2.2)/\(D8 ((a x0).1,0,2)/\(h x0=true->True)/\(h x0=false->Re ((a x0).1,(a x0).2.1,(a x0).2.2)/\Nr ((b x0).1,(b x0).2.1,(b x0).2.2.1,(b x0).2.2.2)))/\(c x0=true->True)/\(c x0=false->(g9 (a x0).1 1=true->Re ((a x0).1,(a x0).2.1,(a x0).2.2)/\AD ((List.length x0.1+List.length [(0,(b x0).1,(b x0).2.1,(b x0).2.2.1,(b x0).2.2.2)])*5))/\(g9 (a x0).1 1=false->(g9 (a x0).1 2=true->O9 (x0.1,f x0))/\(g9 (a x0).1 2=false->True))))/\(c_ x0.2 g=false->True)) ([],0):=by subst_vars;exact⟨(GM.v x).trans (by kernel_rfl),(GM.o x).trans (by kernel_rfl)⟩
abbrev gB:=λx=>(ZlM x _ rfl _ rfl _ rfl _ rfl _ rfl _ rfl _ rfl _ rfl).1
abbrev yz:=λx=>(ZlM x _ rfl _ rfl _ rfl _ rfl _ rfl _ rfl _ rfl _ rfl).2
theorem ZlP(x:pq)(c)(_:c=U_ x.1)(a)(_:a=(λ(x0:Int)=>W_ (c_ x0 c) (U' (W_ (g9 (So x.1 (R_ x0) (0,0)).1 x.2.1) (g9 (So x.1 (R_ x0) (0,0)).2 x.2.2)))))(b)(_:b=(λ(x0:Int)=>V' .i64 x0 1))(d)(_:d=List.length x.1):Bp x=Y_ (c_ (Al a b 0) c) (Al a b 0) (-1)/\Pv x=Z_ a b (λ(x0:Int)=>(c_ x0 c=true->((0:Int)<=x0/\x0<(d:Int))/\R_ x0<d)/\(c_ x0 c=false->True)) 0:=by subst_vars;exact⟨(Iw.v x).trans (by kernel_rfl),(Iw.o x).trans (by kernel_rfl)⟩
abbrev Zv:=λx=>(ZlP x _ rfl _ rfl _ rfl _ rfl).1
abbrev yR:=λx=>(ZlP x _ rfl _ rfl _ rfl _ rfl).2
theorem ZlS(x:Cj)(a)(_:a=λ(x0:Jc)=>So x (R_ x0.2) (0,0,0))(b)(_:b=λ(x0:Jc)=>Bp (x0.1,(a x0).2.1,(a x0).2.2))(e)(_:e=λ(x0:Jc)=>w_ (g9 (a x0).1 0) (g9 (a x0).1 1))(i)(_:i=λ(x0:Jc)=>lSub x0.1 (R_ (V' .i64 (b x0) 1)) (lN x0.1))(j)(_:j=λ(x0:Jc)=>lSub x0.1 0 (R_ (b x0)))(c)(_:c=(λ(x0:Jc)=>(Y_ (e x0) (Y_ (g9 (a x0).1 1) (i9 x0.1 [((a x0).2.1,(a x0).2.2)]) x0.1) (i9 (lTake x0.1 (lN (j x0))) (i x0)),V' .i64 x0.2 1)))(g)(_:g=λ(x0:Jc)=>U' (B4 (2,(a x0).2.1,(a x0).2.2,0)))(h)(_:h=U_ x)(d)(_:d=(λ(x0:Jc)=>W_ (c_ x0.2 h) (W_ (U' (g x0)) (Y_ (e x0) (U' (iGe (b x0) 0)) (W_ (g9 (a x0).1 2) (U' (c_ (b x0) 0)))))))(f)(_:f=λ(x0:Jc)=>List.length x0.1)(k)(_:k=iGt h 8):Iq x=W_ (U' k) (W_ (U' (c_ (Al d c ([],0)).2 h)) (g9 (U_ (Al d c ([],0)).1) 0))/\Pp x=((k=true->True)/\(k=false->Z_ d c (λ(x0:Jc)=>(c_ x0.2 h=true->((0:Int)<=x0.2/\x0.2<(List.length x:Int))/\R_ x0.2<List.length x/\Pv (x0.1,(a x0).2.1,(a x0).2.2)/\Np (2,(a x0).2.1,(a x0).2.2,0)/\(g x0=true->True)/\(g x0=false->(e x0=true->(iGe (b x0) 0=true->True)/\(iGe (b x0) 0=false->(g9 (a x0).1 1=true->AD ((f x0+List.length [((a x0).2.1,(a x0).2.2)])*2))/\(g9 (a x0).1 1=false->True)))/\(e x0=false->(g9 (a x0).1 2=true->(c_ (b x0) 0=true->True)/\(c_ (b x0) 0=false->((0:Int)<=b x0/\0<=R_ (b x0)/\R_ (b x0)<=f x0/\0<f x0)/\((0:Int)<=V' .i64 (b x0) 1/\R_ (V' .i64 (b x0) 1)<=lN x0.1/\lN x0.1<=f x0/\0<f x0)/\0<f x0/\List.length (j x0)<=f x0/\AD ((List.length (j x0)+List.length (i x0))*2)))/\(g9 (a x0).1 2=false->True))))/\(c_ x0.2 h=false->True)) ([],0))):=by subst_vars;exact⟨(GN.v x).trans (by kernel_rfl),(GN.o x).trans (by kernel_rfl)⟩
abbrev xl:=λx=>(ZlS x _ rfl _ rfl _ rfl _ rfl _ rfl _ rfl _ rfl _ rfl _ rfl _ rfl _ rfl).1
abbrev yi:=λx=>(ZlS x _ rfl _ rfl _ rfl _ rfl _ rfl _ rfl _ rfl _ rfl _ rfl _ rfl _ rfl).2
attribute [irreducible] CG Nu Be Re ER O9 GL Pu Bp Pv Iq Pp
end
section
set_option maxRecDepth 8000
def gv:ACode:=(.seq (.region [⟨0,some 4,.mv (.c (.int .i64 0)),none,[]⟩]) (.seq (.seq (.region [⟨0,some 5,.mv (.c (.int .i64 0)),none,[]⟩]) (.block 0 (.loop [0,1,5] (.seq (.seq (.region [⟨0,some 6,.mv (.t 5),none,[]⟩,⟨1,some 7,.mv (.t 0),none,[]⟩,⟨2,some 8,.len (.t 7),none,[]⟩,⟨3,some 9,.bin .lss (.t 6) (.t 8),none,[]⟩]) (.cond (.t 9) .skip (.exit 0))) (.seq (.block 1 (.seq (.region [⟨0,some 12,.mv (.t 0),none,[]⟩,⟨1,some 13,.mv (.t 5),none,[]⟩,⟨2,some 14,.mv (.t 1),none,[]⟩,⟨3,some 15,.p_ 1 (.t 12) (.t 13),none,[]⟩,⟨4,none,.f8 1 (.t 15) (.t 14),none,[]⟩]) (.region [⟨0,some 16,.mv (.t 1),none,[]⟩,⟨1,some 17,.bin .add (.t 16) (.c (.int .i64 1)),none,[]⟩,⟨2,some 1,.mv (.t 17),none,[]⟩]))) (.region [⟨0,some 10,.mv (.t 5),none,[]⟩,⟨1,some 11,.bin .add (.t 10) (.c (.int .i64 1)),none,[]⟩,⟨2,some 5,.mv (.t 11),none,[]⟩])))))) (.seq (.region [⟨0,some 18,.mv (.t 1),none,[]⟩,⟨1,some 4,.mv (.t 18),none,[]⟩]) .ret)))
def Zo:AFun:=⟨2,19,0,false,[.tmp 4],gv⟩
@[irreducible] def Pr:Bc:=EG Zo
@[irreducible] def GG(x:B3)(m:Int):B3×Int:=(shut λ(x:B3) (m:Int)=>AW (RT.mkI (.one (.int .i64))) x m).1 x m
@[irreducible] def UB(x:B3):Prop:=(shut λ(x:B3)=>CT.wl (.sl (.one (.int .i64))) x).1 x
theorem fP:GG=λx m=>AW (RT.mkI (.one (.int .i64))) x m:=by unfold GG;exact(shut _).2
theorem tg:UB=λx=>CT.wl (.sl (.one (.int .i64))) x:=by unfold UB;exact(shut _).2
theorem w8:SlC Pr (.one (.int .i64)):=by
 rintro h ω hd p l u m Q d8 hinj hM hQ;have C:=hM.len;have Y:l.length<=9223372036854775807:=d8.1;unfold Pr;refine Jy rfl ?_;unfold gv;simp only[go_sem,reduceIte,reduceCtorEq,Nat.reduceAdd,Nat.reduceBEq,Int.reduceLT,Int.reduceLE,Int.reduceGT,Int.reduceGE,Int.reduceBEq,Int.reduceBNe,Nat.reduceEqDiff,Nat.reduceLeDiff,Nat.reduceLT,C];refine MA l.length (λi st=>∃h',st=⟨[u,.int .i64 (Bb (RT.mkI (.one (.int .i64))) l m i).2,.undef,.undef,.undef,.int .i64 (i:Int)]++Es 13,[],h'⟩/\x_ (Gv ω hd p) h h'/\MS h' ω hd p (.one (.int .i64)) (Bb (RT.mkI (.one (.int .i64))) l m i).1 u) ?_ ?_
 ·refine⟨h,?_,x_.refl _ _,hM⟩;simp only[Mo,keep,MN];rfl
 rintro i st next hi ⟨h1,rfl,I,s⟩ A
 by_cases t:i<l.length
 ·have G:decide ((i:Int)<(l.length:Int))=true:=Gj (by omega);have U:IntKind.i64.wrap ((i:Int)+1)=((i+1:Nat):Int):=(by rw[LM (by omega)];omega);obtain⟨b,n⟩:=s.slice (by rw[Fk];omega);rw[Fk]at n;subst n;cases J:Bb (RT.mkI (.one (.int .i64))) l m i with
  |mk L z=>
  rw[J]at s;obtain⟨Z,hs,g⟩:=NF t J;have q:i<L.length:=(by omega);have j:=On d8 t;rw[<- g]at j;have N:=MS.frame s q;clear g;generalize g:List.getD L i (RT.dflt (.one (.int .i64)))=x0 at N hs j;clear g;have R:=ME (b:=b) (w:=1) t (k:=.i64);simp only;obtain⟨M,x,O,R1⟩:=MS.st N q (off:=0) (by decide) (v:=(.int .i64 z)) rfl rfl (y:=(z:RT.D (.one (.int .i64)))) rfl hinj [];replace x:Ek [] h1 1 (.ptr b (i*1)) (.int .i64 z)=some (.undef,[],M):=x;simp only[go_sem,reduceIte,reduceCtorEq,Nat.reduceAdd,Nat.reduceBEq,Int.reduceLT,Int.reduceLE,Int.reduceGT,Int.reduceGE,Int.reduceBEq,Int.reduceBNe,Nat.reduceEqDiff,Nat.reduceLeDiff,Nat.reduceLT,C,G,U,R,x];exact A _ t ⟨M,by rw[hs];rfl,(x_.trans I O),by rw[hs];exact R1⟩
 have G:decide ((i:Int)<(l.length:Int))=false:=Dl (by omega);have F:i=l.length:=by omega
 subst F;simp only[go_sem,reduceIte,reduceCtorEq,Nat.reduceAdd,Nat.reduceBEq,Int.reduceLT,Int.reduceLE,Int.reduceGT,Int.reduceGE,Int.reduceBEq,Int.reduceBNe,Nat.reduceEqDiff,Nat.reduceLeDiff,Nat.reduceLT,C,G];have e:=IC (RT.mkI (.one (.int .i64))) l m;rw[e]at s ⊢;exact hQ h1 I s
def vz:d4:=(A_ [1,0] 4 [E' 0] (.seq [1] (A_ [5,1,0] 5 [E' 0] (.block 0 (.loop [0,1,5] 1 (.seq [5,1,0] (A_ [9,5,1,0] 6 [C_ 5,D_ 0,L' 7,M' 6 8] (.cond 9 .skip (.exit 0))) (.seq [5,1,0] (.block 1 (.seq [5,1,0] (A_ [17,5,1,0] 12 [D_ 0,C_ 5,N_ 1 12 13,O_ 14,C_ 1,N' 15 16] (.cond 17 (A_ [4] 4 [E' (-1)] .ret) .skip)) (At 18 [C_ 1,M_ 18 AA,G_ 1 (C_ 19)]))) (At 10 [C_ 5,M_ 10 AA,G_ 5 (C_ 11)])))))) (A_ [4] 20 [C_ 1,G_ 4 (C_ 20)] .ret)))
def KD:Fn:=⟨⟨2,21,0,true,[.tmp 4],vz⟩,[.one .Z' (.sl (.one (.int .i64))),.one .Z' (.int .i64)],.one (.one .own (.int .i64))⟩
theorem xd:KD.A:=AM trivial
def EU:EM->Int:=KD.V
def Rb:EM->Prop:=KD.O
theorem uC:KD.B:=AO trivial (by kernel_rfl) (λx=>by kernel_rfl)
end
section
set_option maxRecDepth 100000
theorem ZlV(x:EM)(c)(_:c=U_ x.1)(a)(_:a=(λ(x0:Ar)=>W_ (c_ x0.2 c) (U' (i_ (So x.1 (R_ x0.2) 0) x0.1))))(b)(_:b=(λ(x0:Ar)=>(V' .i64 x0.1 1,V' .i64 x0.2 1)))(d)(_:d=List.length x.1)(e)(_:e=Al a b (x.2,0)):EU x=Y_ (c_ e.2 c) (-1) e.1/\Rb x=Z_ a b (λ(x0:Ar)=>(c_ x0.2 c=true->((0:Int)<=x0.2/\x0.2<(d:Int))/\R_ x0.2<d)/\(c_ x0.2 c=false->True)) (x.2,0):=by subst_vars;exact⟨(KD.v x).trans (by kernel_rfl),(KD.o x).trans (by kernel_rfl)⟩
abbrev vp:=λx=>(ZlV x _ rfl _ rfl _ rfl _ rfl _ rfl).1
abbrev vx:=λx=>(ZlV x _ rfl _ rfl _ rfl _ rfl _ rfl).2
attribute [irreducible] EU Rb
end
section
set_option maxRecDepth 8000
def vI:d4:=(A_ [0] 2 [Q_ (.c .b_)] (A_ [2] 3 [D_ 0,B_ (.app 1 (.c .b_) 3),G_ 2 (C_ 4)] .ret))
def Io:Fn:=⟨⟨1,5,0,false,[.tmp 2],vI⟩,[.one .Z' (.sl (.one (.int .i64)))],.one (.one .own (.sl (.one (.int .i64))))⟩
theorem gj:Io.A:=AM trivial
def C7:B3->List (Int):=Io.V
def Ri:B3->Prop:=Io.O
theorem gq:Io.B:=AO trivial (by kernel_rfl) (λx=>by kernel_rfl)
end
section
set_option maxRecDepth 100000
theorem Vd(x):C7 x=x:=(Io.v x).trans (by kernel_rfl)
theorem gb(x):Ri x=AD (List.length x*1):=(Io.o x).trans (by kernel_rfl)
attribute [irreducible] C7 Ri
end
section
set_option maxRecDepth 8000
def fy:ACode:=(.seq (.region [⟨0,some 4,.mv (.c (.int .i64 0)),none,[]⟩]) (.seq (.seq (.region [⟨0,some 5,.mv (.c (.int .i64 0)),none,[]⟩]) (.block 0 (.loop [0,1,5] (.seq (.seq (.region [⟨0,some 6,.mv (.t 5),none,[]⟩,⟨1,some 7,.mv (.t 0),none,[]⟩,⟨2,some 8,.len (.t 7),none,[]⟩,⟨3,some 9,.bin .lss (.t 6) (.t 8),none,[]⟩]) (.cond (.t 9) .skip (.exit 0))) (.seq (.block 1 (.seq (.region [⟨0,some 12,.mv (.t 0),none,[]⟩,⟨1,some 13,.mv (.t 5),none,[]⟩,⟨2,some 14,.mv (.t 1),none,[]⟩,⟨3,some 15,.p_ 4 (.t 12) (.t 13),none,[]⟩,⟨4,some 16,.f5 0 (.t 15),none,[]⟩,⟨5,none,.f8 1 (.t 16) (.t 14),none,[]⟩]) (.seq (.region [⟨0,some 17,.mv (.t 1),none,[]⟩,⟨1,some 18,.bin .add (.t 17) (.c (.int .i64 1)),none,[]⟩,⟨2,some 1,.mv (.t 18),none,[]⟩]) (.seq (.region [⟨0,some 19,.mv (.t 0),none,[]⟩,⟨1,some 20,.mv (.t 5),none,[]⟩,⟨2,some 21,.mv (.t 1),none,[]⟩,⟨3,some 22,.p_ 4 (.t 19) (.t 20),none,[]⟩,⟨4,some 23,.f5 1 (.t 22),none,[]⟩,⟨5,none,.f8 1 (.t 23) (.t 21),none,[]⟩]) (.seq (.region [⟨0,some 24,.mv (.t 1),none,[]⟩,⟨1,some 25,.bin .add (.t 24) (.c (.int .i64 1)),none,[]⟩,⟨2,some 1,.mv (.t 25),none,[]⟩]) (.seq (.region [⟨0,some 26,.mv (.t 0),none,[]⟩,⟨1,some 27,.mv (.t 5),none,[]⟩,⟨2,some 28,.mv (.t 1),none,[]⟩,⟨3,some 29,.p_ 4 (.t 26) (.t 27),none,[]⟩,⟨4,some 30,.f5 2 (.t 29),none,[]⟩,⟨5,none,.f8 1 (.t 30) (.t 28),none,[]⟩]) (.seq (.region [⟨0,some 31,.mv (.t 1),none,[]⟩,⟨1,some 32,.bin .add (.t 31) (.c (.int .i64 1)),none,[]⟩,⟨2,some 1,.mv (.t 32),none,[]⟩]) (.seq (.region [⟨0,some 33,.mv (.t 0),none,[]⟩,⟨1,some 34,.mv (.t 5),none,[]⟩,⟨2,some 35,.mv (.t 1),none,[]⟩,⟨3,some 36,.p_ 4 (.t 33) (.t 34),none,[]⟩,⟨4,some 37,.f5 3 (.t 36),none,[]⟩,⟨5,none,.f8 1 (.t 37) (.t 35),none,[]⟩]) (.region [⟨0,some 38,.mv (.t 1),none,[]⟩,⟨1,some 39,.bin .add (.t 38) (.c (.int .i64 1)),none,[]⟩,⟨2,some 1,.mv (.t 39),none,[]⟩]))))))))) (.region [⟨0,some 10,.mv (.t 5),none,[]⟩,⟨1,some 11,.bin .add (.t 10) (.c (.int .i64 1)),none,[]⟩,⟨2,some 5,.mv (.t 11),none,[]⟩])))))) (.seq (.region [⟨0,some 40,.mv (.t 1),none,[]⟩,⟨1,some 4,.mv (.t 40),none,[]⟩]) .ret)))
def YP:AFun:=⟨2,41,0,false,[.tmp 4],fy⟩
@[irreducible] def O5:Bc:=EG YP
@[irreducible] def GB(x:Dp)(m:Int):Dp×Int:=(shut λ(x:Dp) (m:Int)=>AW (RT.mkI AB) x m).1 x m
@[irreducible] def T1(x:Dp):Prop:=(shut λ(x:Dp)=>CT.wl (.sl AB) x).1 x
theorem fg:GB=λx m=>AW (RT.mkI AB) x m:=by unfold GB;exact(shut _).2
theorem qw:T1=λx=>CT.wl (.sl AB) x:=by unfold T1;exact(shut _).2
theorem qW:SlC O5 AB:=by
 rintro h ω hd p l u m Q d8 hinj hM hQ;have I:=hM.len;have hlb:l.length<=9223372036854775807:=d8.1;unfold O5;refine Jy rfl ?_;unfold fy;simp only[go_sem,reduceIte,reduceCtorEq,Nat.reduceAdd,Nat.reduceBEq,Int.reduceLT,Int.reduceLE,Int.reduceGT,Int.reduceGE,Int.reduceBEq,Int.reduceBNe,Nat.reduceEqDiff,Nat.reduceLeDiff,Nat.reduceLT,I];refine MA l.length (λi st=>∃h',st=⟨[u,.int .i64 (Bb (RT.mkI AB) l m i).2,.undef,.undef,.undef,.int .i64 (i:Int)]++Es 35,[],h'⟩/\x_ (Gv ω hd p) h h'/\MS h' ω hd p AB (Bb (RT.mkI AB) l m i).1 u) ?_ ?_
 ·refine⟨h,?_,x_.refl _ _,hM⟩;simp only[Mo,keep,MN];rfl
 rintro i st next hi ⟨h1,rfl,N,t⟩ G
 by_cases x:i<l.length
 ·have M:decide ((i:Int)<(l.length:Int))=true:=Gj (by omega);have hw:IntKind.i64.wrap ((i:Int)+1)=((i+1:Nat):Int):=(by rw[LM (by omega)];omega);obtain⟨b,s⟩:=t.slice (by rw[Fk];omega);rw[Fk]at s;subst s;cases O:Bb (RT.mkI AB) l m i with
  |mk L g=>
  rw[O]at t;obtain⟨hLl,hs,n⟩:=NF x O;have j:i<L.length:=(by omega);have q:=On d8 x;rw[<- n]at q;have R0:=MS.frame t j;clear n;generalize n:List.getD L i (RT.dflt AB)=x0 at R0 hs q;clear n;have hx:=ME (b:=b) (w:=4) x (k:=.i64);simp only;obtain⟨Z,F,o0,R1⟩:=MS.st R0 j (off:=0) (by decide) (v:=(.int .i64 g)) rfl rfl (y:=((g,x0.2.1,x0.2.2.1,x0.2.2.2):RT.D AB)) rfl hinj [];replace F:Ek [] h1 1 (.ptr b (i*4)) (.int .i64 g)=some (.undef,[],Z):=F;obtain⟨Y,C,o1,R2⟩:=MS.st R1 j (off:=1) (by decide) (v:=(.int .i64 (IntKind.i64.wrap (g+1)))) rfl rfl (y:=((g,(IntKind.i64.wrap (g+1)),x0.2.2.1,x0.2.2.2):RT.D AB)) rfl hinj [];replace C:Ek [] Z 1 (.ptr b (i*4+1)) (.int .i64 (IntKind.i64.wrap (g+1)))=some (.undef,[],Y):=C;obtain⟨U,A,o2,R3⟩:=MS.st R2 j (off:=2) (by decide) (v:=(.int .i64 (IntKind.i64.wrap (IntKind.i64.wrap (g+1)+1)))) rfl rfl (y:=((g,(IntKind.i64.wrap (g+1)),(IntKind.i64.wrap (IntKind.i64.wrap (g+1)+1)),x0.2.2.2):RT.D AB)) rfl hinj [];replace A:Ek [] Y 1 (.ptr b (i*4+2)) (.int .i64 (IntKind.i64.wrap (IntKind.i64.wrap (g+1)+1)))=some (.undef,[],U):=A;obtain⟨R,z,o3,R4⟩:=MS.st R3 j (off:=3) (by decide) (v:=(.int .i64 (IntKind.i64.wrap (IntKind.i64.wrap (IntKind.i64.wrap (g+1)+1)+1)))) rfl rfl (y:=((g,(IntKind.i64.wrap (g+1)),(IntKind.i64.wrap (IntKind.i64.wrap (g+1)+1)),(IntKind.i64.wrap (IntKind.i64.wrap (IntKind.i64.wrap (g+1)+1)+1))):RT.D AB)) rfl hinj [];replace z:Ek [] U 1 (.ptr b (i*4+3)) (.int .i64 (IntKind.i64.wrap (IntKind.i64.wrap (IntKind.i64.wrap (g+1)+1)+1)))=some (.undef,[],R):=z;simp only[go_sem,reduceIte,reduceCtorEq,Nat.reduceAdd,Nat.reduceBEq,Int.reduceLT,Int.reduceLE,Int.reduceGT,Int.reduceGE,Int.reduceBEq,Int.reduceBNe,Nat.reduceEqDiff,Nat.reduceLeDiff,Nat.reduceLT,I,M,hw,hx,F,C,A,z];exact G _ x ⟨R,by rw[hs];rfl,(x_.trans (x_.trans (x_.trans (x_.trans N o0) o1) o2) o3),by rw[hs];exact R4⟩
 have M:decide ((i:Int)<(l.length:Int))=false:=Dl (by omega);have J:i=l.length:=by omega
 subst J;simp only[go_sem,reduceIte,reduceCtorEq,Nat.reduceAdd,Nat.reduceBEq,Int.reduceLT,Int.reduceLE,Int.reduceGT,Int.reduceGE,Int.reduceBEq,Int.reduceBNe,Nat.reduceEqDiff,Nat.reduceLeDiff,Nat.reduceLT,I,M];have e:=IC (RT.mkI AB) l m;rw[e]at t ⊢;exact hQ h1 N t
def fq:ACode:=(.seq (.region [⟨0,some 4,.mv (.c (.int .i64 0)),none,[]⟩]) (.seq (.seq (.region [⟨0,some 5,.mv (.c (.int .i64 0)),none,[]⟩]) (.block 0 (.loop [0,1,5] (.seq (.seq (.region [⟨0,some 6,.mv (.t 5),none,[]⟩,⟨1,some 7,.mv (.t 0),none,[]⟩,⟨2,some 8,.len (.t 7),none,[]⟩,⟨3,some 9,.bin .lss (.t 6) (.t 8),none,[]⟩]) (.cond (.t 9) .skip (.exit 0))) (.seq (.block 1 (.region [⟨0,some 12,.mv (.t 0),none,[]⟩,⟨1,some 13,.mv (.t 5),none,[]⟩,⟨2,some 14,.p_ 1 (.t 12) (.t 13),none,[]⟩,⟨3,some 15,.i5 none (.t 14),none,[]⟩,⟨4,some 16,.mv (.t 1),none,[]⟩,⟨5,some 17,.call O5 [(.t 15),(.t 16)],none,[]⟩,⟨6,some 1,.mv (.t 17),none,[]⟩])) (.region [⟨0,some 10,.mv (.t 5),none,[]⟩,⟨1,some 11,.bin .add (.t 10) (.c (.int .i64 1)),none,[]⟩,⟨2,some 5,.mv (.t 11),none,[]⟩])))))) (.seq (.region [⟨0,some 18,.mv (.t 1),none,[]⟩,⟨1,some 4,.mv (.t 18),none,[]⟩]) .ret)))
def YE:AFun:=⟨2,19,0,false,[.tmp 4],fq⟩
@[irreducible] def OY:Bc:=EG YE
@[irreducible] def H6(x:Cv)(m:Int):Cv×Int:=(shut λ(x:Cv) (m:Int)=>AW (RT.mkI (.one (.sl AB))) x m).1 x m
@[irreducible] def TZ(x:Cv):Prop:=(shut λ(x:Cv)=>CT.wl (.sl (.one (.sl AB))) x).1 x
theorem fe:H6=λx m=>AW (RT.mkI (.one (.sl AB))) x m:=by unfold H6;exact(shut _).2
theorem qk:TZ=λx=>CT.wl (.sl (.one (.sl AB))) x:=by unfold TZ;exact(shut _).2
theorem qt:SlC OY (.one (.sl AB)):=by
 rintro h ω hd p l u m Q d8 hinj hM hQ;have y:=hM.len;have hlb:l.length<=9223372036854775807:=d8.1;unfold OY;refine Jy rfl ?_;unfold fq;simp only[go_sem,reduceIte,reduceCtorEq,Nat.reduceAdd,Nat.reduceBEq,Int.reduceLT,Int.reduceLE,Int.reduceGT,Int.reduceGE,Int.reduceBEq,Int.reduceBNe,Nat.reduceEqDiff,Nat.reduceLeDiff,Nat.reduceLT,y];refine MA l.length (λi st=>∃h',st=⟨[u,.int .i64 (Bb (RT.mkI (.one (.sl AB))) l m i).2,.undef,.undef,.undef,.int .i64 (i:Int)]++Es 13,[],h'⟩/\x_ (Gv ω hd p) h h'/\MS h' ω hd p (.one (.sl AB)) (Bb (RT.mkI (.one (.sl AB))) l m i).1 u) ?_ ?_
 ·refine⟨h,?_,x_.refl _ _,hM⟩;simp only[Mo,keep,MN];rfl
 rintro i st next hi ⟨h1,rfl,N,t⟩ C
 by_cases A:i<l.length
 ·have z:decide ((i:Int)<(l.length:Int))=true:=Gj (by omega);have M:IntKind.i64.wrap ((i:Int)+1)=((i+1:Nat):Int):=(by rw[LM (by omega)];omega);obtain⟨b,q⟩:=t.slice (by rw[Fk];omega);rw[Fk]at q;subst q;cases O:Bb (RT.mkI (.one (.sl AB))) l m i with
  |mk L I=>
  rw[O]at t;obtain⟨hLl,hs,g⟩:=NF A O;have s:i<L.length:=(by omega);have j:=On d8 A;rw[<- g]at j;have U:=MS.frame t s;clear g;generalize g:List.getD L i (RT.dflt (.one (.sl AB)))=x0 at U hs j;clear g;have J:=ME (b:=b) (w:=1) A (k:=.i64);simp only;obtain⟨G,x,Y,f0⟩:=MS.sb U s (off:=0) (by decide) (r':=AB) (l':=x0) rfl;replace x:Lq h1 none (.ptr b (i*1))=some G:=x;have n:=(MS.ok1 Y).1;simp only[go_sem,reduceIte,reduceCtorEq,Nat.reduceAdd,Nat.reduceBEq,Int.reduceLT,Int.reduceLE,Int.reduceGT,Int.reduceGE,Int.reduceBEq,Int.reduceBNe,Nat.reduceEqDiff,Nat.reduceLeDiff,Nat.reduceLT,y,z,M,J,x,n];refine LO (qW h1 ω hd _ x0 G I _ j hinj Y λR O0 N0=>?_);obtain⟨Z,R1⟩:=f0 R _ ((AW (RT.mkI AB) x0 I).1:RT.D (.one (.sl AB))) O0 N0 rfl;simp only[go_sem,reduceIte,reduceCtorEq,Nat.reduceAdd,Nat.reduceBEq,Int.reduceLT,Int.reduceLE,Int.reduceGT,Int.reduceGE,Int.reduceBEq,Int.reduceBNe,Nat.reduceEqDiff,Nat.reduceLeDiff,Nat.reduceLT,y,z,M,J,x,n];exact C _ A ⟨R,by rw[hs];rfl,(x_.trans N Z),by rw[hs];exact R1⟩
 have z:decide ((i:Int)<(l.length:Int))=false:=Dl (by omega);have F:i=l.length:=by omega
 subst F;simp only[go_sem,reduceIte,reduceCtorEq,Nat.reduceAdd,Nat.reduceBEq,Int.reduceLT,Int.reduceLE,Int.reduceGT,Int.reduceGE,Int.reduceBEq,Int.reduceBNe,Nat.reduceEqDiff,Nat.reduceLeDiff,Nat.reduceLT,y,z];have e:=IC (RT.mkI (.one (.sl AB))) l m;rw[e]at t ⊢;exact hQ h1 N t
def fT:ACode:=(.seq (.region [⟨0,some 2,.boxB 0 2 (.t 0),none,[]⟩,⟨1,some 4,.mv (.c (.int .i64 0)),none,[]⟩]) (.seq (.region [⟨0,some 5,.f5 1 (.t 2),none,[]⟩,⟨1,some 6,.d7 0 none (.t 5),none,[]⟩,⟨2,some 7,.mv (.t 1),none,[]⟩,⟨3,some 8,.call OY [(.t 6),(.t 7)],none,[]⟩,⟨4,some 1,.mv (.t 8),none,[]⟩]) (.seq (.region [⟨0,some 9,.mv (.t 1),none,[]⟩,⟨1,some 4,.mv (.t 9),none,[]⟩]) .ret)))
def YT:AFun:=⟨2,10,1,false,[.tmp 4],fT⟩
@[irreducible] def Nn:Bc:=EG YT
@[irreducible] def EP(x:B1)(m:Int):B1×Int:=(shut λ(x:B1) (m:Int)=>RT.mkT (.cons (.int .i64) (.one (.sl (.one (.sl AB))))) x m).1 x m
@[irreducible] def Ub(x:B1):Prop:=(shut λ(x:B1)=>RT.wl (.cons (.int .i64) (.one (.sl (.one (.sl AB))))) x).1 x
theorem fw:EP=λx m=>RT.mkT (.cons (.int .i64) (.one (.sl (.one (.sl AB))))) x m:=by unfold EP;exact(shut _).2
theorem qL:Ub=λx=>RT.wl (.cons (.int .i64) (.one (.sl (.one (.sl AB))))) x:=by unfold Ub;exact(shut _).2
theorem rn:Lz Nn (eX (.cons (.int .i64) (.one (.sl (.one (.sl AB)))))).P:=by
 rintro h ω hd P b AH us u m K Q hinj n hl hr ⟨x,rfl,d8,hK⟩ hQ;have n:u= .agg us:=n;subst n;show Nn [.agg us,.int .i64 m] h Q;obtain⟨F,j,rfl⟩:=Zi9 hl;have C:RM h ω hd (P++[b+0]) (CT.enc (.int .i64) x.1) F:=hr 0 (FU (by decide));have i:RM h ω hd (P++[b+1]) (CT.enc (.sl (.one (.sl AB))) x.2) j:=hr 1 (FU (by decide));have A:=C.cellV rfl;have z:=i.cellV rfl;have y:=(RM.own1 i).1;have G:=(RM.own1 i).2.2;unfold Nn;refine Jy rfl ?_;unfold fT;simp only[go_sem,reduceIte,reduceCtorEq,Nat.reduceAdd,Nat.reduceBEq,Int.reduceLT,Int.reduceLE,Int.reduceGT,Int.reduceGE,Int.reduceBEq,Int.reduceBNe,Nat.reduceEqDiff,Nat.reduceLeDiff,Nat.reduceLT,A,z,y];refine LO (qt h ω hd (P++[b+1]) x.2 j m _ d8.2 hinj i λh1 D s=>?_);replace s:RM h1 ω hd (P++[b+1]) (CT.enc (.sl (.one (.sl AB))) (AW (RT.mkI (.one (.sl AB))) x.2 m).1) j:=s;have g:=RM.beside C D (λl hs=>by obtain⟨q,e⟩:=hs;exact⟨b+1,q,by omega,by rw[e];simp⟩);simp only[go_sem,reduceIte,reduceCtorEq,Nat.reduceAdd,Nat.reduceBEq,Int.reduceLT,Int.reduceLE,Int.reduceGT,Int.reduceGE,Int.reduceBEq,Int.reduceBNe,Nat.reduceEqDiff,Nat.reduceLeDiff,Nat.reduceLT,A,z,y];refine hQ _ _ h1 hK rfl ((x_.mono D λl hs=>by obtain⟨q,e⟩:=hs;exact⟨1,_,q,FU (by decide),rfl,by rw[e];simp⟩)) λc t=>?_;have t:c<2:=t;rcases (show c=0\/c=1 by omega)with rfl|rfl
 ·exact g
 exact s
def qV:d4:=(A_ [1,0] 4 [E' 0] (.seq [1] (A_ [5,1,0] 5 [E' 0] (.block 0 (.loop [0,1,5] 1 (.seq [5,1,0] (A_ [9,5,1,0] 6 [C_ 5,D_ 0,L' 7,M' 6 8] (.cond 9 .skip (.exit 0))) (.seq [5,1,0] (.block 1 (.seq [5,1,0] (A_ [18,5,1,0] 12 [D_ 0,C_ 5,N_ 4 12 13,J' 0 14,O_ 15,C_ 1,N' 16 17] (.cond 18 (A_ [4] 4 [E' (-1)] .ret) .skip)) (A_ [5,1,0] 19 [C_ 1,M_ 19 AA,G_ 1 (C_ 20)] (.seq [5,1,0] (A_ [27,5,1,0] 21 [D_ 0,C_ 5,N_ 4 21 22,J' 1 23,O_ 24,C_ 1,N' 25 26] (.cond 27 (A_ [4] 4 [E' (-1)] .ret) .skip)) (A_ [5,1,0] 28 [C_ 1,M_ 28 AA,G_ 1 (C_ 29)] (.seq [5,1,0] (A_ [36,5,1,0] 30 [D_ 0,C_ 5,N_ 4 30 31,J' 2 32,O_ 33,C_ 1,N' 34 35] (.cond 36 (A_ [4] 4 [E' (-1)] .ret) .skip)) (A_ [5,1,0] 37 [C_ 1,M_ 37 AA,G_ 1 (C_ 38)] (.seq [5,1,0] (A_ [45,5,1,0] 39 [D_ 0,C_ 5,N_ 4 39 40,J' 3 41,O_ 42,C_ 1,N' 43 44] (.cond 45 (A_ [4] 4 [E' (-1)] .ret) .skip)) (At 46 [C_ 1,M_ 46 AA,G_ 1 (C_ 47)]))))))))) (At 10 [C_ 5,M_ 10 AA,G_ 5 (C_ 11)])))))) (A_ [4] 48 [C_ 1,G_ 4 (C_ 48)] .ret)))
def J8:Fn:=⟨⟨2,49,0,true,[.tmp 4],qV⟩,[.one .Z' (.sl AB),.one .Z' (.int .i64)],.one (.one .own (.int .i64))⟩
theorem qN:J8.A:=AM trivial
def GC:LQ->Int:=J8.V
def QS:LQ->Prop:=J8.O
theorem qO:J8.B:=AO trivial (by kernel_rfl) (λx=>by kernel_rfl)
def qA:d4:=(A_ [1,0] 4 [E' 0] (.seq [1] (A_ [5,1,0] 5 [E' 0] (.block 0 (.loop [0,1,5] 1 (.seq [5,1,0] (A_ [9,5,1,0] 6 [C_ 5,D_ 0,L' 7,M' 6 8] (.cond 9 .skip (.exit 0))) (.seq [5,1,0] (.block 1 (A_ [5,1,0] 12 [D_ 0,C_ 5,N_ 1 12 13,O_ 14,C_ 1,I' J8 [15,16],G_ 1 (C_ 17)] (A_ [19,5,1,0] 18 [C_ 1,M' 18 AL] (.cond 19 (A_ [4] 4 [E' (-1)] .ret) .skip)))) (At 10 [C_ 5,M_ 10 AA,G_ 5 (C_ 11)])))))) (A_ [4] 20 [C_ 1,G_ 4 (C_ 20)] .ret)))
def J4:Fn:=⟨⟨2,21,0,true,[.tmp 4],qA⟩,[.one .Z' (.sl (.one (.sl AB))),.one .Z' (.int .i64)],.one (.one .own (.int .i64))⟩
theorem qy:J4.A:=AM ⟨qN,trivial⟩
def QU:LG->Int:=J4.V
def T5:LG->Prop:=J4.O
theorem qx:J4.B:=AO ⟨qO,trivial⟩ (by kernel_rfl) (λx=>by kernel_rfl)
def rS:d4:=(A_ [2,1] 2 [O' 0 2 0,G_ 4 (E' 0)] (A_ [1] 5 [J' 1 2,J_ 0 5,C_ 1,I' J4 [6,7],G_ 1 (C_ 8)] (.seq [1] (A_ [10,1] 9 [C_ 1,M' 9 AL] (.cond 10 (A_ [4] 4 [E' (-1)] .ret) .skip)) (A_ [4] 11 [C_ 1,G_ 4 (C_ 11)] .ret))))
def Km:Fn:=⟨⟨2,12,1,true,[.tmp 4],rS⟩,[.agg [Au,(.Z',.sl (.one (.sl AB)))],.one .Z' (.int .i64)],.one (.one .own (.int .i64))⟩
theorem rP:Km.A:=AM ⟨qy,trivial⟩
def GF:Yf->Int:=Km.V
def Ul:Yf->Prop:=Km.O
theorem rj:Km.B:=AO ⟨qx,trivial⟩ (by kernel_rfl) (λx=>by kernel_rfl)
end
section
set_option maxRecDepth 100000
theorem ZlY(x:LQ)(c)(_:c=λ(x0:Ar)=>So x.1 (R_ x0.2) (0,0,0,0))(d)(_:d=λ(x0:Ar)=>V' .i64 (V' .i64 x0.1 1) 1)(i)(_:i=λ(x0:Ar)=>i_ (c x0).2.1 (V' .i64 x0.1 1))(j)(_:j=U_ x.1)(k)(_:k=λ(x0:Ar)=>i_ (c x0).2.2.1 (d x0))(b)(_:b=(λ(x0:Ar)=>W_ (c_ x0.2 j) (W_ (U' (i_ (c x0).1 x0.1)) (W_ (U' (i x0)) (W_ (U' (k x0)) (U' (i_ (c x0).2.2.2 (V' .i64 (d x0) 1))))))))(f)(_:f=(λ(x0:Ar)=>(V' .i64 (V' .i64 (d x0) 1) 1,V' .i64 x0.2 1)))(a)(_:a=Al b f (x.2,0))(e)(_:e=List.length x.1)(g)(_:g=So x.1 (R_ a.2) (0,0,0,0))(h)(_:h=λ(x0:Ar)=>(0:Int)<=x0.2/\x0.2<(e:Int))(l)(_:l=V' .i64 a.1 1):GC x=Y_ (c_ a.2 j) (Y_ (i_ g.1 a.1) (-1) (Y_ (i_ g.2.1 l) (-1) (Y_ (i_ g.2.2.1 (V' .i64 l 1)) (-1) (-1)))) a.1/\QS x=Z_ b f (λ(x0:Ar)=>(c_ x0.2 j=true->h x0/\R_ x0.2<e/\(i_ (c x0).1 x0.1=true->True)/\(i_ (c x0).1 x0.1=false->h x0/\R_ x0.2<e/\(i x0=true->True)/\(i x0=false->h x0/\R_ x0.2<e/\(k x0=true->True)/\(k x0=false->h x0/\R_ x0.2<e))))/\(c_ x0.2 j=false->True)) (x.2,0):=by subst_vars;exact⟨(J8.v x).trans (by kernel_rfl),(J8.o x).trans (by kernel_rfl)⟩
abbrev qZ:=λx=>(ZlY x _ rfl _ rfl _ rfl _ rfl _ rfl _ rfl _ rfl _ rfl _ rfl _ rfl _ rfl _ rfl).1
abbrev qY:=λx=>(ZlY x _ rfl _ rfl _ rfl _ rfl _ rfl _ rfl _ rfl _ rfl _ rfl _ rfl _ rfl _ rfl).2
theorem Zl1(x:LG)(c)(_:c=U_ x.1)(d)(_:d=λ(x0:Ar)=>So x.1 (R_ x0.2) [])(a)(_:a=(λ(x0:Ar)=>W_ (c_ x0.2 c) (U' (c_ (GC (d x0,x0.1)) 0))))(b)(_:b=(λ(x0:Ar)=>(GC (d x0,x0.1),V' .i64 x0.2 1)))(e)(_:e=List.length x.1)(f)(_:f=Al a b (x.2,0)):QU x=Y_ (c_ f.2 c) (-1) f.1/\T5 x=Z_ a b (λ(x0:Ar)=>(c_ x0.2 c=true->((0:Int)<=x0.2/\x0.2<(e:Int))/\R_ x0.2<e/\QS (d x0,x0.1))/\(c_ x0.2 c=false->True)) (x.2,0):=by subst_vars;exact⟨(J4.v x).trans (by kernel_rfl),(J4.o x).trans (by kernel_rfl)⟩
abbrev qE:=λx=>(Zl1 x _ rfl _ rfl _ rfl _ rfl _ rfl _ rfl).1
abbrev qq:=λx=>(Zl1 x _ rfl _ rfl _ rfl _ rfl _ rfl _ rfl).2
theorem se(x):GF x=Y_ (c_ (QU (x.1.2,x.2)) 0) (-1) (QU (x.1.2,x.2)):=(Km.v x).trans (by kernel_rfl)
theorem sq(x):Ul x=T5 (x.1.2,x.2):=(Km.o x).trans (by kernel_rfl)
attribute [irreducible] GC QS QU T5 GF Ul
end
open Go.Sort
def Dq(l:B3):List Int:=l.mergeSort λx y=>decide (x<=y)
theorem ak(l:B3):(Dq l).length=l.length:=List.length_mergeSort l
def Dx(l:B3):List V:=l.map λn=>.int .i64 n
def Nz:Bc:=λargs h Q=>match args with
 |[.b_]=>Q .undef h|[.slice l o n]=>(n=0/\Q .undef h)\/o=0/\∃(b:Blk) (g:B3),h[l]?=some b/\b.k= .own/\g.length=n/\0<n/\n<4611686018427387904/\b.cs=Dx g++b.cs.drop n/\Q .undef (h.set l { b with cs:=Dx (Dq g)++b.cs.drop n })|_=>False
def ZfV(P:Program)(g:FuncId):Prop:=
 (∀(X_ off cap:Nat) (b:B3) (w:World),Holds (Value.int .i64) w X_ off b.toArray->X_<w.heap.size->b.length<4611686018427387904 ->
  Calls P g #[.slice (some ⟨X_,off,none⟩) b.length cap] w λe w'=>e= .returned (.tuple #[])/\∃n os,w'=grow (putRow (Value.int .i64) (Sort.ahead w n) X_ off (b.mergeSort λx y=>decide (x<=y)).toArray) os) /\
 ∀(p:Option Addr) (cap:Nat) (w:World),Calls P g #[.slice p 0 cap] w λe w'=>e= .returned (.tuple #[])/\w'=w
theorem ZdZ {ι:AF} {k:Ab} {w w':World} {l:Nat} {X_:Blk} {cs':List V} {arr':Array Value} {e:TypeId} (H:HRel ι k w) (C:k[l]?=some X_) (N:X_.k= .own) (hl:cs'.length=X_.cs.length) (y:w.heap.size<=w'.heap.size)
 (F:∀j,j<w.heap.size->j≠(ι l).b->w'.heap[j]?=w.heap[j]?) (D:w'.heap[(ι l).b]?=some (.cells arr' e (0,0))) (Z:arr'.size=(ι l).c) (A:∀(i:Nat) u,cs'[i]?=some u->u.cell=true/\∃z,arr'[i]?=some z/\∀β,Rel ι k β u z)
 (ho:w'.os=w.os) (O:w'.output=w.output) (ht:w'.tape=w.tape):HRel ι (k.set l { X_ with cs:=cs' }) w'/\Step ι k w ι (k.set l { X_ with cs:=cs' }) w':=by
 have K:=WA ι k l X_ { X_ with cs:=cs' } C rfl;have s:∀(j:Nat) (b:Blk),(k.set l { X_ with cs:=cs' })[j]?=some b->(j=l/\b={ X_ with cs:=cs' })\/(j≠l/\k[j]?=some b):=by
  intro j b q;rcases Hy q with⟨h1,h2,_⟩|h
  ·exact .inl ⟨h1,h2⟩
  exact .inr h
 obtain⟨z0,L,_⟩:=H.own l X_ C N;have G:∀(j:Nat) (b:Blk),j≠l->k[j]?=some b->b.k≠.dead->w'.heap[(ι j).b]?=w.heap[(ι j).b]?:=λj b t q n=>F _ (H.there j b q n) λg=>H.apart l j X_ b (HB t) C q N n g.symm;refine⟨⟨λj b q n i u hu=>?_,λj b q n=>?_,λj j' b M Y q x n I=>?_,λj b q n=>?_⟩,{ keeps:=K,kinds:=λj b M q x=>?_,fresh:=λj M hle' q n=>?_,frame:=λb hb' hf=>F b hb' λg=>hf l X_ C N g.symm,size:=y,os:=ho,output:=O,tape:=ht }⟩
 ·rcases s j b q with⟨rfl,rfl⟩|⟨t,q⟩
  ·obtain⟨J,z,L,U⟩:=A i u hu;refine⟨J,z,?_,λβ=>(U β).cellMono K J⟩;rw[z0,BF];simp only[World.cell?,D];exact L
  obtain⟨J,z,L,U⟩:=H.cells j b q n i u hu;exact⟨J,z,by rw[Xb (w:=w) (G j b t q n)];exact L,λβ=>(U β).cellMono K J⟩
 ·rcases s j b q with⟨rfl,rfl⟩|⟨t,q⟩
  ·exact⟨z0,by simp only;omega,_,e,D,Z⟩
  obtain⟨J,L,arr',e',U,g4⟩:=H.own j b q n;exact⟨J,L,arr',e',by rw[G j b t q (by rw[n];decide)];exact U,g4⟩
 ·rcases s j b q with⟨rfl,rfl⟩|⟨t,hg⟩<;>rcases s j' M x with⟨rfl,rfl⟩|⟨hjl',R⟩
  ·exact absurd rfl Y
  ·exact H.apart _ _ _ _ Y C R N I
  ·exact H.apart _ _ _ _ Y hg C n (by rw[N];decide)
  exact H.apart j j' b M Y hg R n I
 ·refine HJ ?_ y;rcases s j b q with⟨rfl,rfl⟩|⟨t,q⟩
  ·exact H.there _ _ C n
  exact H.there j b q n
 ·rcases s j M x with⟨rfl,rfl⟩|⟨t,x⟩
  ·rw[C]at q;cases q;exact .inl rfl
  rw[q]at x;cases x;exact .inl rfl
 rcases s j M q with⟨rfl,rfl⟩|⟨t,q⟩
 ·have:=Bw C;omega
 have:=Bw q;omega
theorem Zc6{P:Program}{g:FuncId}(hs:ZfV P g):Ay P g Nz:=by
 intro Φ ι σ w args xs Q hΦ H hargs q _;have G:=hargs.1;unfold Nz at q;split at q
 ·match xs,G with
  | [x],_=>
    have M:=hargs.2 0 _ _ rfl rfl (λ_=>0);obtain⟨a,rfl⟩:=P1 M;refine(hs.2 a 0 w).mono ?_;rintro e w' ⟨rfl,rfl⟩;exact⟨_,.undef,σ,ι,rfl,q,hΦ,λβ=>.undef _,H,.refl _ _ _⟩
 ·rename_i l o n
  match xs,G with
  | [x],_=>
    have M:=hargs.2 0 _ _ rfl rfl (λ_=>0);rcases q with⟨rfl,hq⟩|⟨rfl,q⟩
    ·obtain⟨b1,g1,hc⟩:=Ge M;obtain⟨p,a,rfl⟩:∃p a,x= .slice p 0 a:=(by rcases hc with⟨c,rfl,_,_⟩|⟨_,_,rfl⟩<;>exact⟨_,_,rfl⟩);refine(hs.2 p a w).mono ?_;rintro e w' ⟨rfl,rfl⟩;exact⟨_,.undef,σ,ι,rfl,hq,hΦ,λβ=>.undef _,H,.refl _ _ _⟩
    obtain⟨b,s,hb,U,hz,hn0,hn,N,hQ⟩:=q;have R:Φ l=none:=(cG M).1 l 0 n rfl;have D:(kill Φ σ)[l]?=some b:=(by rw[Qn R];exact hb);obtain⟨b1,g1,hc⟩:=Ge M;rw[D]at g1;cases g1;rcases hc with⟨c,rfl,c1,c2⟩|⟨rfl,_⟩
    ·obtain⟨z0,arr,el,F,hsz,I⟩:=H.ownCells D U;rw[z0,E1];have hle:b.cs.length<=arr.size:=(by simpa using I.1);have hcl:n<=b.cs.length:=(by rw[N,CO];simp[Dx];omega);have A:∀j (J:j<n),arr[j]?=some (.int .i64 (s[j]'(by omega))):=by
      intro j J;have hcj:b.cs[j]?=some (.int .i64 (s[j]'(by omega))):=by
       rw[N,Bi (by simp[Dx];omega)];simp[Dx,A9 (show j<s.length by omega)]
      obtain⟨_,z,Z,Y⟩:=I.2 j _ hcj;have:=E0 (Y (λ_=>0));subst this;simpa using Z
     have hH:Holds (Value.int .i64) w (ι l).b 0 s.toArray:=by
      intro j J;have J:j<n:=(by simpa [hz]using J);refine⟨?_,?_⟩
      ·simp only[World.cell?,F,BF,A j J];rw[getElem!_pos _ j (by simp;omega)];simp
      simp only[World.frozen?,F];simp
     have C:=hs.1 (ι l).b 0 c s w hH (H.there l b D (by rw[U];decide)) (by omega);rw[hz]at C;refine C.mono ?_;rintro e w' ⟨rfl,m,os,rfl⟩;have O:=H.there l b D (by rw[U];decide);have t:=ak s;have y:(grow (putRow (Value.int .i64) (Sort.ahead w m) (ι l).b 0 (Dq s).toArray) os).heap=w.heap.modify (ι l).b (onCells (putCells (Value.int .i64) 0 (Dq s).toArray))++os:=rfl;have W:=ZdZ (w':=grow (putRow (Value.int .i64) (Sort.ahead w m) (ι l).b 0 (Dq s).toArray) os) (cs':=Dx (Dq s)++b.cs.drop n) (arr':=putCells (Value.int .i64) 0 (Dq s).toArray arr) (e:=el) H D U
      (by simp[Dx,t];omega) (by rw[y];simp) (λj J f9=>by
       rw[y,Array.getElem?_append_left (by simpa using J),Array.getElem?_modify,Ae (HB f9)]) (by
       rw[y,Array.getElem?_append_left (by simpa using O),Array.getElem?_modify,Ac rfl,F];rfl) (by simp[putCells,hsz]) (λi u L=>by
       have hpi:(putCells (Value.int .i64) 0 (Dq s).toArray arr)[i]?=(arr[i]?).map λx=>if i<n then .int .i64 ((Dq s).toArray)[i]! else x:=by
        simp[putCells,Array.getElem?_mapIdx,t,hz]
       rw[hpi];by_cases hi:i<n
       ·rw[Bi (by simp[Dx,t];omega)]at L;simp only[Dx,HI,A9 (show i<(Dq s).length by omega),Cq,Ao]at L;subst L;refine⟨rfl,_,by rw[A i hi];rfl,λβ=>?_⟩;simp only[Ac hi];rw[getElem!_pos _ i (by simp;omega)];simpa using Rel.int .i64 _
       rw[Da (by simp[Dx,t];omega)]at L;have hu':b.cs[i]?=some u:=by
        rw[LB]at L;rw[<- L];congr 1;simp[Dx,t];omega
       obtain⟨q0,z,Z,Y⟩:=I.2 i u hu';refine⟨q0,z,?_,Y⟩;have:arr[i]?=some z:=(by simpa using Z);rw[this,Cq,Ae hi]) rfl rfl rfl
     refine⟨_,.undef,_,ι,rfl,hQ,hΦ.set R _,λβ=>.undef _,?_,?_⟩
     ·rw[WQ R];exact W.1
     rw[WQ R];exact W.2
    omega
 exact q.elim
@[irreducible] def D0(x:B3)(m:Int):B3×Int:=(shut λ(x:B3) (m:Int)=>(Dq x,m)).1 x m
@[irreducible] def VN(x:B3):Prop:=(shut λ(x:B3)=>x.length<4611686018427387904).1 x
theorem ie:D0=λx m=>(Dq x,m):=by unfold D0;exact(shut _).2
theorem iy:VN=λx=>x.length<4611686018427387904:=by unfold VN;exact(shut _).2
def ZM:DMk:=⟨.one (.sl (.one (.int .i64))),false,VN,D0,true⟩
def Fs(l:B3):List (List PV):=l.map λn=>[.fl (.int .i64 n)]
theorem ZcJ(l:B3):(Fs l).flatten=l.map λn=>.fl (.int .i64 n):=by
 induction l with
 |nil=>rfl
 |cons n r b=>simpa [Fs]using b
theorem kj{l:List Int}{k:Nat}(h:k<l.length):Aa (Fs l).flatten k= .fl (.int .i64 (l[k])):=by
 rw[ZcJ,DM,HI,A9 h];rfl
theorem Zat:Lz Nz (DMk.P ZM):=by
 unfold ZM;rw[iy,ie];rintro h ω hd P b AH us u m K Q hinj R hl hr ⟨(x:B3),rfl,d8,hK⟩ C;have R:us=[u]:=R;subst R;have s:RM h ω hd (P++[b+0]) (.sl .own (Fs x)) u:=hr 0 (by exact Nat.one_pos);have C:=λh' hO (U:RM h' ω hd (P++[b+0]) (.sl .own (Fs (Dq x))) u)=>C _ m h' hK rfl hO λc O=>by
  have O:c<1:=O;have:c=0:=(by omega);subst this;exact U
 show Nz [u] h Q;have d8:x.length<4611686018427387904:=d8;have g:=ak x;generalize M:Fs x=es at s;have N:es=[]->Fs (Dq x)=[]:=by
  rintro rfl;have:x=[]:=by
   cases x with
   |nil=>rfl
   |cons=>cases M
  subst this;rw[Df g];rfl
 rcases s with s|⟨e,l,o,rfl⟩;case inr=>
  cases e;rw[N rfl]at C;exact .inl ⟨rfl,C h (x_.refl _ _) (.inr ⟨rfl,l,o,rfl⟩)⟩
 cases s with
 | nil=>
   rw[N rfl]at C;exact C h (x_.refl _ _) (.inl (.nil _ _))
 | sl _ _ _ l o n X_ hb q O f9 hn hw hle hcell=>
   subst M;obtain⟨Z,rfl,A⟩:=O;have hx:x≠[]:=λe=>(by subst e;exact f9 rfl (.inl rfl) rfl);obtain⟨y,ys,rfl⟩:=List.exists_cons_of_ne_nil hx;generalize D:y::ys=zs at *;have t:0<zs.length:=(by rw[<- D];simp);have G:(Fs zs).length=zs.length:=(by simp[Fs]);have i:X_.w=1:=by
    have:=hw [.fl (.int .i64 y)] (by rw[<- D];simp[Fs]);simpa using this.symm
   rw[G]at hn hle hcell;rw[i,S6,BF]at hle;rw[i,S6]at hcell;have L:∀k (q:k<zs.length),X_.cs[k]?=some (.int .i64 (zs[k])):=by
    intro k q;have r:=hcell k q;rw[BF,kj q]at r;have e:get X_.cs k= .int .i64 (zs[k]):=by
     generalize get X_.cs k=z at r;cases r with
     |v=>rfl
    rw[CP,A9 (show k<X_.cs.length by omega)]at e;rw[A9 (show k<X_.cs.length by omega)];simpa using e
   have Y:X_.cs=Dx zs++X_.cs.drop n:=by
    apply IU;intro k;by_cases q:k<zs.length
    ·rw[Bi (by simp[Dx];omega),L k q];simp[Dx,A9 q]
    rw[Da (by simp[Dx];omega),LB];congr 1;simp[Dx];omega
   have h_:=Bw hb;have F:(Dx (Dq zs)++X_.cs.drop n).length=X_.cs.length:=(by simp[Dx,g];omega);refine .inr ⟨rfl,X_,zs,hb,A,hn.symm,by omega,by omega,Y,?_⟩;refine C _ ⟨by simp,λj J=>?_,λj c J=>?_⟩ (.inl (.sl _ _ _ _ _ _ { X_ with cs:=Dx (Dq zs)++X_.cs.drop n } (by simp[h_]) q ⟨Z,rfl,A⟩ (λ_ _ e=>?_) ?_ ?_ ?_ ?_))
   ·rw[G3,Ae];intro e;subst e;exact J ⟨0,Fs zs,[],Nat.one_pos,rfl,by simpa using Z⟩
   ·rw[G3];by_cases e:l=j
    ·subst e;rw[hb]at J;cases J;exact⟨{ X_ with cs:=Dx (Dq zs)++X_.cs.drop n },by simp[h_],rfl,rfl,F⟩
    exact⟨c,by rw[Ae e];exact J,rfl,rfl,rfl⟩
   ·have:=congrArg List.length e;simp[Fs,g]at this;rw[this]at t;simp at t
   ·rw[hn];simp[Fs,g]
   ·intro e he;simp only[Fs,List.mem_map]at he;obtain⟨_,_,rfl⟩:=he;simp[i]
   ·simp only[Fs,Bd,g,i,F];omega
   intro k q;simp only[Fs,Bd,g,i,S6]at q;have I:k<(Dq zs).length:=(by omega);rw[BF,kj I];have:get (Dx (Dq zs)++X_.cs.drop n) k= .int .i64 ((Dq zs)[k]):=by
    rw[CP,Bi (by simp[Dx];omega)];simp[Dx,A9 I]
   simp only[this];exact .v _ _ rfl
section
set_option maxRecDepth 8000
def wC:d4:=(A_ [2,0] 2 [B_ (.e_ 0 [Ad,.b_])] (A_ [3,2,0] 7 [Q' (.one (.int .i64)) (.d5 1 0 [] []),B_ (.build [Ad,.b_] [(1,1,7)]),G_ 3 (B_ (.e_ 1 [Ad,.b_])),E_ (.V_ 1 2 3 8)] (.seq [3,2,0] (A_ [11,3,2,0] 9 [D_ 0,I' Eg [9],P' 10] (.cond 11 (A_ [2] 12 [C' (.d7 1 (some 2) 3),E_ (.V_ 0 2 2 12)] .ret) .skip)) (.seq [3,2,0] (A_ [4,3,2,0] 4 [E' 0] (.block 0 (.loop [0,2,3,4] 1 (.seq [4,3,2,0] (A_ [16,4,3,2,0] 13 [C_ 4,D_ 0,L' 14,M' 13 15] (.cond 16 .skip (.exit 0))) (.seq [4,3,2,0] (.block 1 (A_ [34,4,3,2,0] 19 [D_ 0,C_ 4,N_ 5 19 20,J' 1 21,J' 0 22,O_ 23,Nm 24 (.c (.int .i64 2)),C_ 25,F' 26 (I_ (.a true (.mv 0) none)),F' 26 (Q_ 4),F' 26 (N_ 5 27 28),F' 26 (J' 1 29),F' 26 (J' 0 30),F' 26 (O_ 31),F' 26 (Nm 32 (.c (.int .i64 8))),L_ 26 AV 33] (.cond 34 (At 35 [J' 0 3,G' (rg 1) (J_ 1 35),D_ 0,C_ 4,G' [2,3] (N_ 5 37 38),G' [2,3,4] (J' 1 39),G' [2,3,4,5] (J' 2 40),G' [2,3,4,5,6] (O_ 41),G' (rg 8) (B_ (.bin .or 36 42)),G' (rg 9) (J' 0 3),G' (rg 10) (E_ (.V_ 1 1 44 43))]) .skip))) (At 17 [C_ 4,M_ 17 AA,G_ 4 (C_ 18)])))))) (.seq [3,2] (A_ [5,3,2,0] 5 [E' 1] (.block 2 (.loop [0,2,3,5] 1 (.seq [5,3,2,0] (A_ [46,5,3,2,0] 45 [C_ 5,B_ (.bin .leq 45 (.c (.int .i64 56)))] (.cond 46 .skip (.exit 2))) (.seq [5,3,2,0] (.block 3 (A_ [6,5,3,2,0] 6 [E' 0] (.block 4 (.loop [0,2,3,5,6] 1 (.seq [6,5,3,2,0] (A_ [52,6,5,3,2,0] 49 [C_ 6,D_ 0,L' 50,M' 49 51] (.cond 52 .skip (.exit 4))) (.seq [6,5,3,2,0] (.block 5 (A_ [62,6,5,3,2,0] 55 [D_ 0,C_ 6,N_ 5 55 56,J' 1 57,J' 1 58,O_ 59,C_ 5,Nm 60 61] (.cond 62 (A_ [5,3,2,0] 63 [J' 1 3,C' (.d7 1 none 63),C_ 5,Q' (.one (.int .i64)) (.d5 1 1 [Ad] [(0,1,65)]),B_ (.app 1 64 66),J' 1 3,E_ (.V_ 1 1 68 67)] (.exit 4)) .skip))) (At 53 [C_ 6,M_ 53 AA,G_ 6 (C_ 54)]))))))) (At 47 [C_ 5,M_ 47 AA,G_ 5 (C_ 48)])))))) (A_ [2] 69 [C' (.d7 1 (some 2) 3),E_ (.V_ 0 2 2 69)] .ret))))))
def GI:Fn:=⟨⟨1,70,2,false,[.cell 2 (some 2)],wC⟩,[.one .Z' (.sl AU)],.one (.agg [AN,(.own,.sl (.one (.int .i64)))])⟩
theorem Y0:GI.A:=AM ⟨VF,trivial⟩
def CF:Bg->Int×List (Int):=GI.V
def Pj:Bg->Prop:=GI.O
theorem Ze:GI.B:=AO ⟨VL,trivial⟩ (by kernel_rfl) (λx=>by kernel_rfl)
def yO:d4:=(A_ [1,0] 4 [Q_ As] (.seq [] (A_ [9,8,7,1] 7 [D_ 0,L' 7,E' 0] (.block 0 (.loop [1,7,8,9] 1 (A_ [10,9,8,7,1] 10 [M' 9 8] (.seq [9,8,7,1] (.cond 10 .skip (.exit 0)) (.seq [9,8,7,1] (.block 1 (A_ [9,8,7,6,1] 11 [N_ 1 7 9,O_ 11,G_ 6 (C_ 12)] (A_ [15,9,8,7,1] 13 [C_ 6,C_ 1,Nm 13 14] (.cond 15 (A_ [4] 4 [Q_ AV] .ret) .skip)))) (At 16 [M_ 9 AA,G_ 9 (C_ 16)]))))))) (A_ [4] 4 [Q_ As] .ret)))
def Iu:Fn:=⟨⟨2,17,0,true,[.tmp 4],yO⟩,[.one .Z' (.sl (.one (.int .i64))),.one .Z' (.int .i64)],.one (.one .own (.bool))⟩
theorem zH:Iu.A:=AM trivial
def PA:EM->Bool:=Iu.V
def VG:EM->Prop:=Iu.O
theorem zN:Iu.B:=AO trivial (by kernel_rfl) (λx=>by kernel_rfl)
def yo:d4:=(A_ [0] 2 [Q_ (.c .b_)] (A_ [3] 7 [D_ 0,I' Io [7],G_ 3 (C_ 8)] (A_ [3] 9 [D_ 3,I_ (.mark Nz ZM 9 AL)] (A_ [4,3] 4 [Q_ (.c .b_)] (.seq [4] (A_ [13,12,11,4] 11 [D_ 3,L' 11,E' 0] (.block 0 (.loop [4,11,12,13] 1 (A_ [14,13,12,11,4] 14 [M' 13 12] (.seq [13,12,11,4] (.cond 14 .skip (.exit 0)) (.seq [13,12,11,4] (.block 1 (A_ [13,12,11,6,4] 15 [N_ 1 11 13,C' (.i5 none 15),G_ 6 (C_ 16)] (A_ [24,13,12,11,6,4] 17 [C_ 6,N' 17 AL,C_ 18,F_ 19 (I_ (.a true (.mv 4) none)),F_ 19 (Q_ 6),F_ 19 (I' Iu [20,21]),F_ 19 (P' 22),L_ 19 23 As] (.cond 24 (At 25 [C_ 4,C_ 6,Q' (.one (.int .i64)) (.d5 1 1 [Ad] [(0,1,26)]),B_ (.app 1 25 27),G_ 4 (C_ 28)]) .skip)))) (At 29 [M_ 13 AA,G_ 13 (C_ 29)]))))))) (A_ [2] 30 [C_ 4,G_ 2 (C_ 30)] .ret))))))
def Ir:Fn:=⟨⟨1,31,0,false,[.tmp 2],yo⟩,[.one .Z' (.sl (.one (.int .i64)))],.one (.one .own (.sl (.one (.int .i64))))⟩
theorem gG:Ir.A:=AM ⟨gj,Zat,zH,trivial⟩
def Mg:B3->List (Int):=Ir.V
def Rw:B3->Prop:=Ir.O
theorem gC:Ir.B:=AO ⟨gq,zN,trivial⟩ (by kernel_rfl) (λx=>by kernel_rfl)
def vw:d4:=(A_ [2,0] 2 [B_ (.e_ 0 [Ad,.b_])] (.seq [2,0] (A_ [9,2,0] 7 [D_ 0,I' EY [7],P' 8] (.cond 9 (A_ [2] 10 [B_ (.build [Ad,.b_] []),E_ (.V_ 0 2 2 10)] .ret) .skip)) (A_ [3,2,0] 3 [B_ (.e_ 1 [Ad,.b_])] (A_ [4,3,2,0] 4 [Q_ (.c .b_)] (.seq [4,3,2] (A_ [13,12,11,4,3,2] 11 [D_ 0,L' 11,E' 0] (.block 0 (.loop [2,3,4,11,12,13] 1 (A_ [14,13,12,11,4,3,2] 14 [M' 13 12] (.seq [13,12,11,4,3,2] (.cond 14 .skip (.exit 0)) (.seq [13,12,11,4,3,2] (.block 1 (A_ [13,12,11,6,4,3,2] 15 [N_ 5 11 13,C' (.i5 (some 5) 15),G_ 6 (B_ (.e_ 2 [Ad,Ad,Ad,Ad,Ad])),E_ (.V_ 2 5 6 16)] (.seq [13,12,11,6,4,3,2] (A_ [26,13,12,11,6,4,3,2] 17 [J' 1 6,J' 0 17,J_ 2 18,Nm 19 (.c (.int .i64 2)),C_ 20,F' 21 (J' 1 6),F' 21 (J' 0 22),F' 21 (J_ 2 23),F' 21 (Nm 24 (.c (.int .i64 8))),L_ 21 AV 25] (.cond 26 (At 27 [J' 0 3,J_ 1 27,J' 1 6,J' 2 29,J_ 2 30,B_ (.bin .or 28 31),J' 0 3,E_ (.V_ 1 1 33 32)]) .skip)) (At 34 [C_ 4,J' 1 6,J' 1 35,C' (.d7 2 none 36),Q' (.one (.int .i64)) (.d5 1 1 [Ad] [(0,1,37)]),B_ (.app 1 34 38),G_ 4 (C_ 39)])))) (At 40 [M_ 13 AA,G_ 13 (C_ 40)]))))))) (A_ [3,2] 41 [D_ 4,I' Ir [41],J' 1 3,E_ (.V_ 1 1 43 42)] (A_ [2] 44 [C' (.d7 1 (some 2) 3),E_ (.V_ 0 2 2 44)] .ret)))))))
def GK:Fn:=⟨⟨1,45,3,false,[.cell 2 (some 2)],vw⟩,[.one .Z' (.sl AU)],.one (.agg [AN,(.own,.sl (.one (.int .i64)))])⟩
theorem Zb:GK.A:=AM ⟨Vw,gG,trivial⟩
def Cd:Bg->Int×List (Int):=GK.V
def Pf:Bg->Prop:=GK.O
theorem Zf:GK.B:=AO ⟨Vy,gC,trivial⟩ (by kernel_rfl) (λx=>by kernel_rfl)
end
section
set_option maxRecDepth 100000
def Nk(x:Bg)(x0:Ar):Bool:=(c_ x0.1 (U_ x))
def OZ(x:Bg)(x0:Ar):Ar:=((V' .i64 x0.1 1),(Y_ (w_ (g9 (So x (R_ x0.1) (0,0,0,0,0)).2.1 2) (g9 (So x (R_ x0.1) (0,0,0,0,0)).2.1 8)) (iOr .i64 x0.2 (So x (R_ x0.1) (0,0,0,0,0)).2.2.2.1) x0.2))
def Ka(x0:BE):Bool:=(iLe x0.1 56)
def O6(x:Bg)(x0:BE)(b:Int):Bool:=(W_ (c_ b (U_ x)) (U' (g9 (So x (R_ b) (0,0,0,0,0)).2.2.1 x0.1)))
def Q1(b:Int):Int:=(V' .i64 b 1)
def L6(x:Bg)(x0:BE):BE:=((V' .i64 x0.1 1),(Y_ (c_ (Al (O6 x x0) Q1 0) (U_ x)) (i9 x0.2 [x0.1]) x0.2))
def Uv(x:Bg)(x0:Ar):Prop:=(((c_ x0.1 (U_ x))=true->(((((0:Int)<=x0.1)/\(x0.1<(((List.length x):Int))))/\(((R_ x0.1)<(List.length x))/\(((g9 (So x (R_ x0.1) (0,0,0,0,0)).2.1 2)=true->True)/\((g9 (So x (R_ x0.1) (0,0,0,0,0)).2.1 2)=false->((((0:Int)<=x0.1)/\(x0.1<(((List.length x):Int))))/\((R_ x0.1)<(List.length x)))))))/\(((w_ (g9 (So x (R_ x0.1) (0,0,0,0,0)).2.1 2) (g9 (So x (R_ x0.1) (0,0,0,0,0)).2.1 8))=true->((((0:Int)<=x0.1)/\(x0.1<(((List.length x):Int))))/\((R_ x0.1)<(List.length x))))/\((w_ (g9 (So x (R_ x0.1) (0,0,0,0,0)).2.1 2) (g9 (So x (R_ x0.1) (0,0,0,0,0)).2.1 8))=false->True))))/\((c_ x0.1 (U_ x))=false->True))
def Uw(x:Bg)(x0:BE)(b:Int):Prop:=(((c_ b (U_ x))=true->((((0:Int)<=b)/\(b<(((List.length x):Int))))/\(((R_ b)<(List.length x))/\(((g9 (So x (R_ b) (0,0,0,0,0)).2.2.1 x0.1)=true->(AD (((List.length x0.2)+(List.length [x0.1]))*1)))/\((g9 (So x (R_ b) (0,0,0,0,0)).2.2.1 x0.1)=false->True)))))/\((c_ b (U_ x))=false->True))
def YF(x:Bg)(x0:BE):Prop:=(((iLe x0.1 56)=true->(Z_ (O6 x x0) Q1 (Uw x x0) 0))/\((iLe x0.1 56)=false->True))
theorem gd(x):CF x=Y_ (U' (EA x)) (0,[]) ((Al (Nk x) (OZ x) (0,0)).2,(Al Ka (L6 x) (1,[])).2):=(GI.v x).trans (by kernel_rfl)
theorem uX(x):Pj x=(Nt x/\(U' (EA x)=true->True)/\(U' (EA x)=false->Z_ (Nk x) (OZ x) (Uv x) (0,0)/\Z_ Ka (L6 x) (YF x) (1,[]))):=(GI.o x).trans (by kernel_rfl)
def UT(x:EM)(x0:Int):Bool:=(W_ (c_ x0 (U_ x.1)) (U' (g9 (So x.1 (R_ x0) 0) x.2)))
def Zi(x0:Int):Int:=(V' .i64 x0 1)
def Y7(x:EM)(x0:Int):Prop:=(((c_ x0 (U_ x.1))=true->((((0:Int)<=x0)/\(x0<(((List.length x.1):Int))))/\((R_ x0)<(List.length x.1))))/\((c_ x0 (U_ x.1))=false->True))
theorem zL(x):PA x=c_ (Al (UT x) Zi 0) (U_ x.1):=(Iu.v x).trans (by kernel_rfl)
theorem yL(x):VG x=Z_ (UT x) Zi (Y7 x) 0:=(Iu.o x).trans (by kernel_rfl)
def Q5(x:B3)(x0:EM):Bool:=(c_ x0.2 (U_ (D0 (C7 x) 0).1))
def UC(x:B3)(x0:EM):EM:=((Y_ (W_ (i_ (So (D0 (C7 x) 0).1 (R_ x0.2) 0) 0) (U' (PA (x0.1,(So (D0 (C7 x) 0).1 (R_ x0.2) 0))))) (i9 x0.1 [(So (D0 (C7 x) 0).1 (R_ x0.2) 0)]) x0.1),(V' .i64 x0.2 1))
def YZ(x:B3)(x0:EM):Prop:=(((c_ x0.2 (U_ (D0 (C7 x) 0).1))=true->((((0:Int)<=x0.2)/\(x0.2<(((List.length (D0 (C7 x) 0).1):Int))))/\(((R_ x0.2)<(List.length (D0 (C7 x) 0).1))/\((((i_ (So (D0 (C7 x) 0).1 (R_ x0.2) 0) 0)=true->(VG (x0.1,(So (D0 (C7 x) 0).1 (R_ x0.2) 0))))/\((i_ (So (D0 (C7 x) 0).1 (R_ x0.2) 0) 0)=false->True))/\(((W_ (i_ (So (D0 (C7 x) 0).1 (R_ x0.2) 0) 0) (U' (PA (x0.1,(So (D0 (C7 x) 0).1 (R_ x0.2) 0)))))=true->(AD (((List.length x0.1)+(List.length [(So (D0 (C7 x) 0).1 (R_ x0.2) 0)]))*1)))/\((W_ (i_ (So (D0 (C7 x) 0).1 (R_ x0.2) 0) 0) (U' (PA (x0.1,(So (D0 (C7 x) 0).1 (R_ x0.2) 0)))))=false->True))))))/\((c_ x0.2 (U_ (D0 (C7 x) 0).1))=false->True))
theorem xW(x):Mg x=(Al (Q5 x) (UC x) ([],0)).1:=(Ir.v x).trans (by kernel_rfl)
theorem x9(x):Rw x=(Ri x/\(List.length (C7 x)=List.length (C7 x)/\DMk.ok (DMk.mk (RT.one (CT.sl (RT.one (CT.int IntKind.i64)))) false VN D0 true) (C7 x))/\Z_ (Q5 x) (UC x) (YZ x) ([],0)):=(Ir.o x).trans (by kernel_rfl)
def J7(x:Bg)(x0:MY):Bool:=(c_ x0.2.1 (U_ x))
def Kb(x:Bg)(x0:MY):MY:=((i9 x0.1 [(So x (R_ x0.2.1) (0,0,0,0,0)).2.2.1]),(V' .i64 x0.2.1 1),(Y_ (w_ (g9 (So x (R_ x0.2.1) (0,0,0,0,0)).2.1 2) (g9 (So x (R_ x0.2.1) (0,0,0,0,0)).2.1 8)) (iOr .i64 x0.2.2 (So x (R_ x0.2.1) (0,0,0,0,0)).2.2.2.1) x0.2.2))
def Uu(x:Bg)(x0:MY):Prop:=(((c_ x0.2.1 (U_ x))=true->((((0:Int)<=x0.2.1)/\(x0.2.1<(((List.length x):Int))))/\(((R_ x0.2.1)<(List.length x))/\(AD (((List.length x0.1)+(List.length [(So x (R_ x0.2.1) (0,0,0,0,0)).2.2.1]))*1)))))/\((c_ x0.2.1 (U_ x))=false->True))
theorem uR(x):Cd x=Y_ (U' (Ct x)) (0,[]) ((Al (J7 x) (Kb x) ([],0,0)).2.2,Mg (Al (J7 x) (Kb x) ([],0,0)).1):=(GK.v x).trans (by kernel_rfl)
theorem wU(x):Pf x=(Nw x/\(U' (Ct x)=true->True)/\(U' (Ct x)=false->Z_ (J7 x) (Kb x) (Uu x) ([],0,0)/\Rw (Al (J7 x) (Kb x) ([],0,0)).1)):=(GK.o x).trans (by kernel_rfl)
attribute [irreducible] CF Pj PA VG Mg Rw Cd Pf
end
section
set_option maxRecDepth 8000
def zE:d4:=(A_ [2,1] 1 [O' 0 2 0,B_ (.e_ 1 [Ad,.b_])] (A_ [3,2,1] 5 [J' 0 1,C' (.d7 0 none 5),B_ (.build [Ad,.b_] [(0,1,6)]),G_ 3 (B_ (.e_ 2 [Ad,.b_])),E_ (.V_ 2 2 3 7)] (.seq [3,2] (A_ [4,3,2,1] 4 [E' 0] (.block 0 (.loop [1,2,3,4] 1 (.seq [4,3,2,1] (A_ [12,4,3,2,1] 8 [C_ 4,J' 1 1,J_ 0 9,L' 10,M' 8 11] (.cond 12 .skip (.exit 0))) (.seq [4,3,2,1] (.block 1 (.region [oa 0 15 (.f5 1 3),xB 1 16 (.d7 2 none 15) (rg 1),oa 3 18 (.f5 1 1),xA 4 19 (.d7 0 none 18) [3],om 5 20 4,xA 6 21 (.p_ 1 19 20) [3,4,5],xA 7 22 (.i5 none 21) [3,4,5,6],⟨2,some 17,.a false (.d5 4 0 [] []) (some AB),none,[]⟩,xA 8 23 (.app 4 17 22) [2,3,4,5,6,7],⟨9,some 24,.a false (.d5 1 1 [.b_] [(0,1,23)]) (some (.one (.sl AB))),none,[2,3,4,5,6,7,8]⟩,xA 10 25 (.app 1 16 24) (rg 10),xA 11 26 (.f5 1 3) (rg 11),xS 12 (.V_ 2 1 26 25) (rg 12)])) (At 13 [C_ 4,M_ 13 AA,G_ 4 (C_ 14)])))))) (A_ [2] 27 [C' (.d7 2 (some 2) 3),E_ (.V_ 1 2 2 27)] .ret))))
def La:Fn:=⟨⟨1,28,3,false,[.cell 2 (some 2)],zE⟩,[.agg [Au,(.Z',.sl (.one (.sl AB)))]],.one (.agg [AN,(.own,.sl (.one (.sl AB)))])⟩
theorem y8:La.A:=AM trivial
def RE:B1->Int×Cv:=La.V
def Vv:B1->Prop:=La.O
theorem zt:La.B:=AO trivial (by kernel_rfl) (λx=>by kernel_rfl)
def sK:d4:=(A_ [2,1] 1 [O' 0 2 0,B_ (.e_ 1 [Ad,.b_])] (A_ [3,2,1] 6 [J' 0 1,C' (.d7 0 none 6),B_ (.build [Ad,.b_] [(0,1,7)]),G_ 3 (B_ (.e_ 2 [Ad,.b_])),E_ (.V_ 2 2 3 8)] (.seq [3,2] (A_ [12,11,10,3,2] 9 [J' 1 1,J_ 0 9,L' 10,E' 0] (.block 0 (.loop [2,3,10,11,12] 1 (A_ [13,12,11,10,3,2] 13 [M' 12 11] (.seq [12,11,10,3,2] (.cond 13 .skip (.exit 0)) (.seq [12,11,10,3,2] (.block 1 (A_ [12,11,10,5,3,2] 14 [N_ 1 10 12,O_ 14,G_ 5 (D_ 15)] (At 16 [J' 1 3,G' (rg 1) (C' (.d7 2 none 16)),D_ 5,G' [2] (B_ (.app 4 (.c .b_) 18)),G' [2,3] (Q' (.one (.sl AB)) (.d5 1 1 [.b_] [(0,1,19)])),G' (rg 5) (B_ (.app 1 17 20)),G' (rg 6) (J' 1 3),G' (rg 7) (E_ (.V_ 2 1 22 21))]))) (At 23 [M_ 12 AA,G_ 12 (C_ 23)]))))))) (A_ [2] 24 [C' (.d7 2 (some 2) 3),E_ (.V_ 1 2 2 24)] .ret))))
def Ke:Fn:=⟨⟨1,25,3,false,[.cell 2 (some 2)],sK⟩,[.agg [Au,(.Z',.sl (.one (.sl AB)))]],.one (.agg [AN,(.own,.sl (.one (.sl AB)))])⟩
theorem sd:Ke.A:=AM trivial
def Q3:B1->Int×Cv:=Ke.V
def Ut:B1->Prop:=Ke.O
theorem rI:Ke.B:=AO trivial (by kernel_rfl) (λx=>by kernel_rfl)
end
section
set_option maxRecDepth 100000
def UP(x:B1)(x0:B1):Bool:=(c_ x0.1 (U_ x.2))
def UX(x:B1)(x0:B1):B1:=((V' .i64 x0.1 1),(i9 x0.2 [(i9 [] (So x.2 (R_ x0.1) []))]))
def Za(x:B1)(x0:B1):Prop:=(((c_ x0.1 (U_ x.2))=true->((((0:Int)<=x0.1)/\(x0.1<(((List.length x.2):Int))))/\(((R_ x0.1)<(List.length x.2))/\((AD (((List.length ([]:List Cw))+(List.length (So x.2 (R_ x0.1) [])))*4))/\(AD (((List.length x0.2)+(List.length [(i9 [] (So x.2 (R_ x0.1) []))]))*1))))))/\((c_ x0.1 (U_ x.2))=false->True))
theorem Zac(x):RE x=(x.1,(Al (UP x) (UX x) (0,[])).2):=(La.v x).trans (by kernel_rfl)
theorem zy(x):Vv x=Z_ (UP x) (UX x) (Za x) (0,[]):=(La.o x).trans (by kernel_rfl)
def T6(x:B1)(x0:B1):Bool:=(c_ x0.1 (U_ x.2))
def T4(x:B1)(x0:B1):B1:=((V' .i64 x0.1 1),(i9 x0.2 [(So x.2 (R_ x0.1) [])]))
def YC(x:B1)(x0:B1):Prop:=(((c_ x0.1 (U_ x.2))=true->((((0:Int)<=x0.1)/\(x0.1<(((List.length x.2):Int))))/\(((R_ x0.1)<(List.length x.2))/\((AD ((List.length (So x.2 (R_ x0.1) []))*4))/\(AD (((List.length x0.2)+(List.length [(So x.2 (R_ x0.1) [])]))*1))))))/\((c_ x0.1 (U_ x.2))=false->True))
theorem sw(x):Q3 x=(x.1,(Al (T6 x) (T4 x) (0,[])).2):=(Ke.v x).trans (by kernel_rfl)
theorem rO(x):Ut x=Z_ (T6 x) (T4 x) (YC x) (0,[]):=(Ke.o x).trans (by kernel_rfl)
attribute [irreducible] RE Vv Q3 Ut
end
end
end Go.Ag
