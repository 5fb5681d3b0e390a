/- Part 6 of what FnExactPress needs. No conditions. -/
import Derived.Sort.Row
import Derived.Sort.Grow
import Derived.Test.YtbkpfpcnjpggaaaGreatLibE
namespace Go.Ag
set_option linter.unusedSimpArgs false
set_option linter.unusedVariables false
noncomputable section
section
set_option maxRecDepth 8000
def ye:d4:=(A_ [1,0] 4 [E' 0] (A_ [1] 5 [C_ 1,D_ 0,L' 6,B_ (.bin .sub 5 7),G_ 1 (C_ 8)] (.seq [1] (A_ [10,1] 9 [C_ 1,M' 9 AL] (.cond 10 (A_ [4] 4 [E' (-1)] .ret) .skip)) (A_ [4] 11 [C_ 1,G_ 4 (C_ 11)] .ret))))
def KT:Fn:=⟨⟨2,12,0,true,[.tmp 4],ye⟩,[.one .Z' (.sl AU),.one .Z' (.int .i64)],.one (.one .own (.int .i64))⟩
theorem yt:KT.A:=AM trivial
def Me:DR->Int:=KT.V
def Vi:DR->Prop:=KT.O
theorem xT:KT.B:=AO trivial (by kernel_rfl) (λx=>by kernel_rfl)
def uS:d4:=(A_ [2,1] 1 [O' 0 4 0,B_ (.e_ 1 [Ad,Ad,Ad,Ad])] (A_ [3,2,1] 3 [B_ (.e_ 2 [Ad,Ad,Ad,Ad])] (A_ [3,2,1] 4 [J' 0 1,C' (.d7 0 none 4),J' 0 3,E_ (.V_ 2 1 6 5)] (A_ [3,2,1] 7 [J' 1 1,C' (.d7 0 none 7),J' 1 3,E_ (.V_ 2 1 9 8)] (A_ [3,2,1] 10 [J' 2 1,C' (.d7 0 none 10),J' 2 3,E_ (.V_ 2 1 12 11)] (A_ [3,2] 13 [J' 3 1,C' (.d7 0 none 13),J' 3 3,E_ (.V_ 2 1 15 14)] (A_ [2] 16 [C' (.d7 2 (some 4) 3),E_ (.V_ 1 4 2 16)] .ret)))))))
def Im:Fn:=⟨⟨1,17,3,true,[.cell 2 (some 4)],uS⟩,[.agg [Au,Au,Au,Au]],.one (.agg [AN,AN,AN,AN])⟩
theorem fY:Im.A:=AM trivial
def Fg:Cw->Int×Int×Int×Int:=Im.V
def Pg:Cw->Prop:=Im.O
theorem gu:Im.B:=AO trivial (by kernel_rfl) (λx=>by kernel_rfl)
def zN:d4:=(A_ [2,1] 1 [O' 0 5 0,B_ (.e_ 1 [Ad,Ad,Ad,Ad,Ad])] (A_ [3,2,1] 3 [B_ (.e_ 2 [Ad,Ad,Ad,Ad,Ad])] (A_ [3,2,1] 4 [J' 0 1,C' (.d7 0 none 4),J' 0 3,E_ (.V_ 2 1 6 5)] (A_ [3,2] 7 [J' 1 1,K_ 0 4 7,I' Im [8],J' 1 3,E_ (.V_ 2 4 10 9)] (A_ [2] 11 [C' (.d7 2 (some 5) 3),E_ (.V_ 1 5 2 11)] .ret)))))
def K3:Fn:=⟨⟨1,12,3,true,[.cell 2 (some 5)],zN⟩,[.agg [Au,Au,Au,Au,Au]],.one (.agg [AN,AN,AN,AN,AN])⟩
theorem Zab:K3.A:=AM ⟨fY,trivial⟩
def F8:Dc->Int×Int×Int×Int×Int:=K3.V
def Ry:Dc->Prop:=K3.O
theorem z7:K3.B:=AO ⟨gu,trivial⟩ (by kernel_rfl) (λx=>by kernel_rfl)
def xy:d4:=(A_ [0] 2 [Q_ (.c .b_)] (A_ [3,0] 5 [D_ 0,L' 5,Q' AU (.mkSlice 5 [Ad,Ad,Ad,Ad,Ad] 6),G_ 3 (C_ 7)] (.seq [3] (A_ [4,3,0] 4 [E' 0] (.block 0 (.loop [0,3,4] 1 (.seq [4,3,0] (A_ [11,4,3,0] 8 [C_ 4,D_ 0,L' 9,M' 8 10] (.cond 11 .skip (.exit 0))) (.seq [4,3,0] (.block 1 (At 14 [D_ 3,C_ 4,D_ 0,C_ 4,N_ 5 16 17,B_ (.i5 (some 5) 18),I' K3 [19],N_ 5 14 15,E_ (.f8 5 21 20)])) (At 12 [C_ 4,M_ 12 AA,G_ 4 (C_ 13)])))))) (A_ [2] 22 [C_ 3,G_ 2 (C_ 22)] .ret))))
def KU:Fn:=⟨⟨1,23,0,false,[.tmp 2],xy⟩,[.one .Z' (.sl AU)],.one (.one .own (.sl AU))⟩
theorem yd:KU.A:=AM ⟨Zab,trivial⟩
def VL:Bg->List Dc:=KU.V
def Vm:Bg->Prop:=KU.O
theorem xw:KU.B:=AO ⟨z7,trivial⟩ (by kernel_rfl) (λx=>by kernel_rfl)
def tE:d4:=(A_ [1] 1 [O' 0 4 0,Q_ As] (A_ [2] 3 [K_ 0 4 1,I' Ef [3],C_ 4,F_ 5 (J' 0 1),F_ 5 (J_ 0 6),F_ 5 (Nm 7 (.c (.int .i64 6))),F_ 5 (Q_ 8),F' 9 (J' 0 1),F' 9 (J_ 0 10),F' 9 (Nm 11 (.c (.int .i64 7))),F_ 5 (L_ 9 AW 12),L_ 5 13 As,G_ 2 (C_ 14)] .ret))
def FC:Fn:=⟨⟨1,15,1,true,[.tmp 2],tE⟩,[.agg [Au,Au,Au,Au]],.one (.one .own (.bool))⟩
theorem YY:FC.A:=AM ⟨Vb,trivial⟩
def Kv:Cw->Bool:=FC.V
def O7:Cw->Prop:=FC.O
theorem YS:FC.B:=AO ⟨U7,trivial⟩ (by kernel_rfl) (λx=>by kernel_rfl)
def y9:d4:=(A_ [0] 2 [Q_ As] (A_ [3,0] 3 [E' 0] (.seq [] (A_ [4,3,0] 4 [E' 0] (.block 0 (.loop [0,3,4] 1 (.seq [4,3,0] (A_ [9,4,3,0] 6 [C_ 4,D_ 0,L' 7,M' 6 8] (.cond 9 .skip (.exit 0))) (.seq [4,3,0] (.block 1 (A_ [5,4,3,0] 12 [D_ 0,C_ 4,N_ 5 12 13,J' 1 14,C' (.i5 (some 4) 15),G_ 5 (B_ (.e_ 0 [Ad,Ad,Ad,Ad])),E_ (.V_ 0 4 5 16)] (.seq [4,3,0] (A_ [48,4,3,0] 17 [D_ 0,C_ 4,N_ 5 17 18,J' 0 19,O_ 20,I' BR [21,AL,(.c (.int .i64 31))],P' 22,C_ 23,F' 24 (Q_ 3),F' 24 (I_ (.a true (.mv 0) none)),F' 24 (Q_ 4),F' 24 (N_ 5 26 27),F' 24 (J' 0 28),F' 24 (O_ 29),F' 24 (B_ (.bin .shr 25 30)),F' 24 (B_ (.bin .and 31 AA)),F' 24 (Nm 32 AA),L_ 24 AW 33,C_ 34,F' 35 (K_ 0 4 5),F' 35 (I' Ef [36]),F' 35 (P' 37),L_ 35 AW 38,C_ 39,F' 40 (J' 0 5),F' 40 (J_ 0 41),F' 40 (Nm 42 AA),L_ 40 AW 43,C_ 44,F' 45 (K_ 0 4 5),F' 45 (I' FC [46]),L_ 45 AW 47] (.cond 48 (A_ [2] 2 [Q_ As] .ret) .skip)) (At 49 [C_ 3,D_ 0,C_ 4,N_ 5 50 51,J' 0 52,O_ 53,B_ (.bin .shl AA 54),B_ (.bin .or 49 55),G_ 3 (C_ 56)])))) (At 10 [C_ 4,M_ 10 AA,G_ 4 (C_ 11)])))))) (A_ [2] 2 [Q_ AW] .ret))))
def Eg:Fn:=⟨⟨1,57,1,true,[.tmp 2],y9⟩,[.one .Z' (.sl AU)],.one (.one .own (.bool))⟩
theorem Vu:Eg.A:=AM ⟨Gb,Vb,YY,trivial⟩
def EA:Bg->Bool:=Eg.V
def Nw:Bg->Prop:=Eg.O
theorem VK:Eg.B:=AO ⟨F9,U7,YS,trivial⟩ (by kernel_rfl) (λx=>by kernel_rfl)
def ZbS:d4:=(A_ [1,0] 4 [E' 0] (A_ [4] 5 [C_ 0,C_ 1,B_ (.bin .shr 5 6),B_ (.bin .and 7 AA),G_ 4 (C_ 8)] .ret))
def GR:Fn:=⟨⟨2,9,0,true,[.tmp 4],ZbS⟩,[.one .Z' (.int .i64),.one .Z' (.int .i64)],.one (.one .own (.int .i64))⟩
theorem jd:GR.A:=AM trivial
def Ei:Ar->Int:=GR.V
def V7:Ar->Prop:=GR.O
theorem je:GR.B:=AO trivial (by kernel_rfl) (λx=>by kernel_rfl)
def zm:d4:=(A_ [0] 2 [Q_ As] (A_ [3,0] 3 [E' 0] (.seq [] (A_ [8,7,6,3] 6 [D_ 0,L' 6,E' 0] (.block 0 (.loop [3,6,7,8] 1 (A_ [9,8,7,6,3] 9 [M' 8 7] (.seq [8,7,6,3] (.cond 9 .skip (.exit 0)) (.seq [8,7,6,3] (.block 1 (A_ [8,7,6,5,3] 10 [N_ 5 6 8,C' (.i5 (some 5) 10),G_ 5 (B_ (.e_ 0 [Ad,Ad,Ad,Ad,Ad])),E_ (.V_ 0 5 5 11)] (.seq [8,7,6,5,3] (A_ [32,8,7,6,5,3] 12 [J' 0 5,J_ 0 12,M' 13 AL,C_ 14,F' 15 (J' 0 5),F' 15 (J_ 0 16),F' 15 (B_ (.bin .gtr 17 (.c (.int .i64 31)))),L_ 15 AW 18,C_ 19,F' 20 (Q_ 3),F' 20 (J' 0 5),F' 20 (J_ 0 22),F' 20 (I' GR [21,23]),F' 20 (Nm 24 AA),L_ 20 AW 25,C_ 26,F' 27 (J' 1 5),F' 27 (K_ 0 4 28),F' 27 (I' ET [29]),F' 27 (P' 30),L_ 27 AW 31] (.cond 32 (A_ [2] 2 [Q_ As] .ret) .skip)) (.seq [8,7,6,5,3] (A_ [35,8,7,6,5,3] 33 [J' 1 5,J' 0 33,J_ 0 34] (.block 2 (.seq [36,8,7,6,5,3] (A_ [36,35,8,7,6,5,3] 37 [Nm 35 AA,G_ 36 (C_ 37)] (.cond 36 .skip (A_ [36,35,8,7,6,5,3] 38 [Nm 35 (.c (.int .i64 6)),G_ 36 (C_ 38)] (.cond 36 .skip (At 39 [Nm 35 (.c (.int .i64 7)),G_ 36 (C_ 39)]))))) (.cond 36 (A_ [2] 2 [Q_ As] .ret) .skip)))) (At 40 [C_ 3,J' 0 5,J_ 0 41,B_ (.bin .shl AA 42),B_ (.bin .or 40 43),G_ 3 (C_ 44)]))))) (At 45 [M_ 8 AA,G_ 8 (C_ 45)]))))))) (A_ [2] 2 [Q_ AW] .ret))))
def EY:Fn:=⟨⟨1,46,1,true,[.tmp 2],zm⟩,[.one .Z' (.sl AU)],.one (.one .own (.bool))⟩
theorem Vs:EY.A:=AM ⟨jd,UR,trivial⟩
def Ct:Bg->Bool:=EY.V
def Nu:Bg->Prop:=EY.O
theorem VG:EY.B:=AO ⟨je,U3,trivial⟩ (by kernel_rfl) (λx=>by kernel_rfl)
def yN:d4:=(A_ [3,2] 2 [O' 0 5 0,O' 1 5 1,Q_ As] (.seq [3,2] (A_ [9,3,2] 5 [J' 0 2,J_ 0 5,J' 0 3,J_ 1 7,N' 6 8] (.cond 9 (A_ [4] 4 [Q_ As] .ret) .skip)) (.seq [] (A_ [15] 10 [J' 1 2,K_ 0 4 10,J' 1 3,K_ 1 4 12,I' Il [11,13],P' 14] (.cond 15 (A_ [4] 4 [Q_ As] .ret) .skip)) (A_ [4] 4 [Q_ AW] .ret))))
def KY:Fn:=⟨⟨2,16,2,true,[.tmp 4],yN⟩,[.agg [Au,Au,Au,Au,Au],.agg [Au,Au,Au,Au,Au]],.one (.one .own (.bool))⟩
theorem zS:KY.A:=AM ⟨ga,trivial⟩
def K8:pf->Bool:=KY.V
def Rx:pf->Prop:=KY.O
theorem yV:KY.B:=AO ⟨fU,trivial⟩ (by kernel_rfl) (λx=>by kernel_rfl)
def yo:d4:=(A_ [1,0] 4 [Q_ As] (.seq [1,0] (A_ [10,1,0] 6 [D_ 0,L' 6,D_ 1,L' 8,N' 7 9] (.cond 10 (A_ [4] 4 [Q_ As] .ret) .skip)) (.seq [] (A_ [5,1,0] 5 [E' 0] (.block 0 (.loop [0,1,5] 1 (.seq [5,1,0] (A_ [14,5,1,0] 11 [C_ 5,D_ 0,L' 12,M' 11 13] (.cond 14 .skip (.exit 0))) (.seq [5,1,0] (.block 1 (A_ [26,5,1,0] 17 [D_ 0,C_ 5,G' (rg 2) (N_ 5 17 18),G' (rg 3) (B_ (.i5 (some 5) 19)),D_ 1,C_ 5,G' [4,5] (N_ 5 21 22),G' [4,5,6] (B_ (.i5 (some 5) 23)),G' (rg 8) (I' KY [20,24]),G' (rg 9) (P' 25)] (.cond 26 (A_ [4] 4 [Q_ As] .ret) .skip))) (At 15 [C_ 5,M_ 15 AA,G_ 5 (C_ 16)])))))) (A_ [4] 4 [Q_ AW] .ret))))
def KW:Fn:=⟨⟨2,27,0,true,[.tmp 4],yo⟩,[.one .Z' (.sl AU),.one .Z' (.sl AU)],.one (.one .own (.bool))⟩
theorem xf:KW.A:=AM ⟨zS,trivial⟩
def VC:FZ->Bool:=KW.V
def Vh:FZ->Prop:=KW.O
theorem xe:KW.B:=AO ⟨yV,trivial⟩ (by kernel_rfl) (λx=>by kernel_rfl)
def wU:d4:=(A_ [1,0] 4 [E' 0] (A_ [5,1,0] 5 [E' 1] (.seq [5,1] (A_ [8,5,1,0] 7 [C_ 0,I' BR [7,AL,(.c (.int .i64 15))]] (.cond 8 (At 9 [C_ 0,B_ (.bin .or AA 9),G_ 5 (C_ 10)]) .skip)) (.seq [5] (A_ [6,5,1] 6 [E' 0] (.block 0 (.loop [1,5,6] 1 (.seq [6,5,1] (A_ [18,6,5,1] 11 [C_ 6,D_ 1,L' 12,M' 11 13,C_ 14,F_ 15 (I_ (.a true (.mv 1) none)),F_ 15 (I' Eg [16]),L_ 15 17 As] (.cond 18 .skip (.exit 0))) (.seq [6,5,1] (.block 1 (A_ [27,6,5,1] 21 [D_ 1,C_ 6,N_ 5 21 22,J' 1 23,J' 0 24,O_ 25,Nm 26 (.c (.int .i64 3))] (.cond 27 (At 28 [C_ 5,D_ 1,C_ 6,N_ 5 29 30,J' 1 31,J' 3 32,O_ 33,B_ (.bin .shl AA 34),B_ (.bin .or 28 35),G_ 5 (C_ 36)]) .skip))) (At 19 [C_ 6,M_ 19 AA,G_ 6 (C_ 20)])))))) (A_ [4] 37 [C_ 5,G_ 4 (C_ 37)] .ret)))))
def KI:Fn:=⟨⟨2,38,0,true,[.tmp 4],wU⟩,[.one .Z' (.int .i64),.one .Z' (.sl AU)],.one (.one .own (.int .i64))⟩
theorem wW:KI.A:=AM ⟨Gb,Vu,trivial⟩
def Rj:X5->Int:=KI.V
def U9:X5->Prop:=KI.O
theorem vi:KI.B:=AO ⟨F9,VK,trivial⟩ (by kernel_rfl) (λx=>by kernel_rfl)
def wT:d4:=(A_ [1,0] 4 [E' 0] (A_ [5,1,0] 5 [E' 1] (.seq [5,1] (A_ [13,5,1,0] 8 [C_ 0,B_ (.bin .geq 8 AL),C_ 9,F_ 10 (Q_ 0),F_ 10 (B_ (.bin .leq 11 (.c (.int .i64 15)))),L_ 10 12 As] (.cond 13 (At 14 [C_ 5,C_ 0,B_ (.bin .or 14 15),G_ 5 (C_ 16)]) .skip)) (.seq [5,1] (A_ [19,5,1] 17 [D_ 1,I' EY [17],P' 18] (.cond 19 (A_ [4] 20 [C_ 5,G_ 4 (C_ 20)] .ret) .skip)) (.seq [5] (A_ [23,22,21,5] 21 [D_ 1,L' 21,E' 0] (.block 0 (.loop [5,21,22,23] 1 (A_ [24,23,22,21,5] 24 [M' 23 22] (.seq [23,22,21,5] (.cond 24 .skip (.exit 0)) (.seq [23,22,21,5] (.block 1 (A_ [23,22,21,7,5] 25 [N_ 5 21 23,C' (.i5 (some 5) 25),G_ 7 (B_ (.e_ 0 [Ad,Ad,Ad,Ad,Ad])),E_ (.V_ 0 5 7 26)] (A_ [30,23,22,21,7,5] 27 [J' 1 7,J' 0 27,J_ 0 28,Nm 29 (.c (.int .i64 3))] (.cond 30 (At 31 [C_ 5,J' 1 7,J' 3 32,J_ 0 33,B_ (.bin .shl AA 34),B_ (.bin .or 31 35),G_ 5 (C_ 36)]) .skip)))) (At 37 [M_ 23 AA,G_ 23 (C_ 37)]))))))) (A_ [4] 38 [C_ 5,G_ 4 (C_ 38)] .ret))))))
def KN:Fn:=⟨⟨2,39,1,true,[.tmp 4],wT⟩,[.one .Z' (.int .i64),.one .Z' (.sl AU)],.one (.one .own (.int .i64))⟩
theorem wV:KN.A:=AM ⟨Vs,trivial⟩
def EX:X5->Int:=KN.V
def Va:X5->Prop:=KN.O
theorem wy:KN.B:=AO ⟨VG,trivial⟩ (by kernel_rfl) (λx=>by kernel_rfl)
end
section
set_option maxRecDepth 100000
theorem yb(x):Me x=Y_ (c_ (iSub .i64 x.2 (U_ x.1)) 0) (-1) (iSub .i64 x.2 (U_ x.1)):=(KT.v x).trans (by kernel_rfl)
theorem xQ(x):Vi x=True:=(KT.o x).trans (by kernel_rfl)
theorem vt(x):Fg x=(x.1,x.2.1,x.2.2.1,x.2.2.2):=(Im.v x).trans (by kernel_rfl)
theorem vJ(x):Pg x=True:=(Im.o x).trans (by kernel_rfl)
theorem Zj5(x:Dc)(a)(_:a=Fg (x.2.1,x.2.2.1,x.2.2.2.1,x.2.2.2.2)):F8 x=(x.1,a.1,a.2.1,a.2.2.1,a.2.2.2):=by subst_vars;exact(K3.v x).trans (by kernel_rfl)
abbrev Zaf:=λx=>Zj5 x _ rfl
theorem zO(x):Ry x=Pg (x.2.1,x.2.2.1,x.2.2.2.1,x.2.2.2.2):=(K3.o x).trans (by kernel_rfl)
theorem Zj9(x:Bg)(b)(_:b=λ(x0:DR)=>So x (R_ x0.2) (0,0,0,0,0))(a)(_:a=λ(x0:DR)=>F8 ((b x0).1,(b x0).2.1,(b x0).2.2.1,(b x0).2.2.2.1,(b x0).2.2.2.2))(c)(_:c=(λ(x0:DR)=>(lSet x0.1 (R_ x0.2) ((a x0).1,(a x0).2.1,(a x0).2.2.1,(a x0).2.2.2.1,(a x0).2.2.2.2),V' .i64 x0.2 1)))(d)(_:d=U_ x)(e)(_:e=(λ(x0:DR)=>c_ x0.2 d))(f)(_:f=lRep d (0,0,0,0,0)):VL x=(Al e c (f,0)).1/\Vm x=(((0:Int)<=d/\AD (Int.toNat d*5))/\Z_ e c (λ(x0:DR)=>(c_ x0.2 d=true->((0:Int)<=x0.2/\x0.2<(List.length x:Int))/\R_ x0.2<List.length x/\Ry ((b x0).1,(b x0).2.1,(b x0).2.2.1,(b x0).2.2.2.1,(b x0).2.2.2.2)/\((0:Int)<=x0.2/\x0.2<(List.length x0.1:Int))/\R_ x0.2<List.length x0.1)/\(c_ x0.2 d=false->True)) (f,0)):=by subst_vars;exact⟨(KU.v x).trans (by kernel_rfl),(KU.o x).trans (by kernel_rfl)⟩
abbrev x9:=λx=>(Zj9 x _ rfl _ rfl _ rfl _ rfl _ rfl _ rfl).1
abbrev xP:=λx=>(Zj9 x _ rfl _ rfl _ rfl _ rfl _ rfl _ rfl).2
theorem YT(x):Kv x=W_ (D6 (x.1,x.2.1,x.2.2.1,x.2.2.2)) (w_ (g9 x.1 6) (g9 x.1 7)):=(FC.v x).trans (by kernel_rfl)
theorem ud(x):O7 x=Ns (x.1,x.2.1,x.2.2.1,x.2.2.2):=(FC.o x).trans (by kernel_rfl)
theorem Zkc(x:Bg)(a)(_:a=λ(x0:Ar)=>So x (R_ x0.2) (0,0,0,0,0))(c)(_:c=λ(x0:Ar)=>U' (D6 ((a x0).2.1,(a x0).2.2.1,(a x0).2.2.2.1,(a x0).2.2.2.2)))(f)(_:f=λ(x0:Ar)=>g9 (iAnd .i64 (iShr .i64 x0.1 (a x0).1) 1) 1)(i)(_:i=λ(x0:Ar)=>U' (BM ((a x0).1,0,31)))(b)(_:b=λ(x0:Ar)=>w_ (i x0) (w_ (f x0) (w_ (c x0) (w_ (g9 (a x0).2.1 1) (Kv ((a x0).2.1,(a x0).2.2.1,(a x0).2.2.2.1,(a x0).2.2.2.2))))))(d)(_:d=List.length x)(e)(_:e=(λ(x0:Ar)=>(iOr .i64 x0.1 (iShl .i64 1 (a x0).1),V' .i64 x0.2 1)))(g)(_:g=λ(x0:Ar)=>(0:Int)<=x0.2/\x0.2<(d:Int))(j)(_:j=U_ x)(h)(_:h=(λ(x0:Ar)=>W_ (c_ x0.2 j) (U' (b x0)))):EA x=U' (c_ (Al h e (0,0)).2 j)/\Nw x=Z_ h e (λ(x0:Ar)=>(c_ x0.2 j=true->g x0/\R_ x0.2<d/\(g x0/\R_ x0.2<d/\D8 ((a x0).1,0,31)/\(i x0=true->True)/\(i x0=false->g x0/\R_ x0.2<d/\(0:Int)<=(a x0).1/\(f x0=true->True)/\(f x0=false->Ns ((a x0).2.1,(a x0).2.2.1,(a x0).2.2.2.1,(a x0).2.2.2.2)/\(c x0=true->True)/\(c x0=false->(g9 (a x0).2.1 1=true->True)/\(g9 (a x0).2.1 1=false->O7 ((a x0).2.1,(a x0).2.2.1,(a x0).2.2.2.1,(a x0).2.2.2.2))))))/\(b x0=true->True)/\(b x0=false->g x0/\R_ x0.2<d/\(0:Int)<=(a x0).1))/\(c_ x0.2 j=false->True)) (0,0):=by subst_vars;exact⟨(Eg.v x).trans (by kernel_rfl),(Eg.o x).trans (by kernel_rfl)⟩
abbrev Zad:=λx=>(Zkc x _ rfl _ rfl _ rfl _ rfl _ rfl _ rfl _ rfl _ rfl _ rfl _ rfl).1
abbrev zb:=λx=>(Zkc x _ rfl _ rfl _ rfl _ rfl _ rfl _ rfl _ rfl _ rfl _ rfl _ rfl).2
theorem V8(x):Ei x=iAnd .i64 (iShr .i64 x.1 x.2) 1:=(GR.v x).trans (by kernel_rfl)
theorem jl(x):V7 x=((0:Int)<=x.2):=(GR.o x).trans (by kernel_rfl)
theorem Zkf(x:Bg)(a)(_:a=λ(x0:Ar)=>So x (R_ x0.2) (0,0,0,0,0))(f)(_:f=λ(x0:Ar)=>g9 (Ei (x0.1,(a x0).1)) 1)(b)(_:b=λ(x0:Ar)=>w_ (c_ (a x0).1 0) (w_ (iGt (a x0).1 31) (w_ (f x0) (U' (B4 ((a x0).2.1,(a x0).2.2.1,(a x0).2.2.2.1,(a x0).2.2.2.2))))))(c)(_:c=λ(x0:Ar)=>w_ (g9 (a x0).2.1 1) (w_ (g9 (a x0).2.1 6) (g9 (a x0).2.1 7)))(g)(_:g=U_ x)(d)(_:d=(λ(x0:Ar)=>W_ (c_ x0.2 g) (W_ (U' (b x0)) (U' (c x0)))))(e)(_:e=(λ(x0:Ar)=>(iOr .i64 x0.1 (iShl .i64 1 (a x0).1),V' .i64 x0.2 1))):Ct x=U' (c_ (Al d e (0,0)).2 g)/\Nu x=Z_ d e (λ(x0:Ar)=>(c_ x0.2 g=true->((0:Int)<=x0.2/\x0.2<(List.length x:Int))/\R_ x0.2<List.length x/\((c_ (a x0).1 0=true->True)/\(c_ (a x0).1 0=false->(iGt (a x0).1 31=true->True)/\(iGt (a x0).1 31=false->V7 (x0.1,(a x0).1)/\(f x0=true->True)/\(f x0=false->Nr ((a x0).2.1,(a x0).2.2.1,(a x0).2.2.2.1,(a x0).2.2.2.2)))))/\(b x0=true->True)/\(b x0=false->(c x0=true->True)/\(c x0=false->(0:Int)<=(a x0).1)))/\(c_ x0.2 g=false->True)) (0,0):=by subst_vars;exact⟨(EY.v x).trans (by kernel_rfl),(EY.o x).trans (by kernel_rfl)⟩
abbrev VB:=λx=>(Zkf x _ rfl _ rfl _ rfl _ rfl _ rfl _ rfl _ rfl).1
abbrev yB:=λx=>(Zkf x _ rfl _ rfl _ rfl _ rfl _ rfl _ rfl _ rfl).2
theorem yZ(x):K8 x=W_ (U' (i_ x.1.1 x.2.1)) (U' (U' (Jp ((x.1.2.1,x.1.2.2.1,x.1.2.2.2.1,x.1.2.2.2.2),x.2.2.1,x.2.2.2.1,x.2.2.2.2.1,x.2.2.2.2.2)))):=(KY.v x).trans (by kernel_rfl)
theorem zU(x):Rx x=((i_ x.1.1 x.2.1=true->True)/\(i_ x.1.1 x.2.1=false->Ph ((x.1.2.1,x.1.2.2.1,x.1.2.2.2.1,x.1.2.2.2.2),x.2.2.1,x.2.2.2.1,x.2.2.2.2.1,x.2.2.2.2.2))):=(KY.o x).trans (by kernel_rfl)
theorem Zkk(x:FZ)(b)(_:b=λ(x0:Int)=>So x.1 (R_ x0) (0,0,0,0,0))(c)(_:c=λ(x0:Int)=>So x.2 (R_ x0) (0,0,0,0,0))(d)(_:d=U_ x.1)(a)(_:a=(λ(x0:Int)=>W_ (c_ x0 d) (U' (U' (K8 (((b x0).1,(b x0).2.1,(b x0).2.2.1,(b x0).2.2.2.1,(b x0).2.2.2.2),(c x0).1,(c x0).2.1,(c x0).2.2.1,(c x0).2.2.2.1,(c x0).2.2.2.2))))))(e)(_:e=i_ d (U_ x.2))(f)(_:f=(λ(x0:Int)=>V' .i64 x0 1))(g)(_:g=List.length x.1)(h)(_:h=List.length x.2):VC x=W_ (U' e) (U' (c_ (Al a f 0) d))/\Vh x=((e=true->True)/\(e=false->Z_ a f (λ(x0:Int)=>(c_ x0 d=true->((0:Int)<=x0/\x0<(g:Int))/\R_ x0<g/\((0:Int)<=x0/\x0<(h:Int))/\R_ x0<h/\Rx (((b x0).1,(b x0).2.1,(b x0).2.2.1,(b x0).2.2.2.1,(b x0).2.2.2.2),(c x0).1,(c x0).2.1,(c x0).2.2.1,(c x0).2.2.2.1,(c x0).2.2.2.2))/\(c_ x0 d=false->True)) 0)):=by subst_vars;exact⟨(KW.v x).trans (by kernel_rfl),(KW.o x).trans (by kernel_rfl)⟩
abbrev xx:=λx=>(Zkk x _ rfl _ rfl _ rfl _ rfl _ rfl _ rfl _ rfl _ rfl).1
abbrev xY:=λx=>(Zkk x _ rfl _ rfl _ rfl _ rfl _ rfl _ rfl _ rfl _ rfl).2
theorem Zkm(x:X5)(b)(_:b=λ(x0:Ar)=>So x.2 (R_ x0.2) (0,0,0,0,0))(a)(_:a=(λ(x0:Ar)=>(Y_ (g9 (b x0).2.1 3) (iOr .i64 x0.1 (iShl .i64 1 (b x0).2.2.2.2)) x0.1,V' .i64 x0.2 1)))(f)(_:f=U_ x.2)(c)(_:c=λ(x0:Ar)=>W_ (c_ x0.2 f) (EA x.2))(d)(_:d=List.length x.2)(e)(_:e=Y_ (BM (x.1,0,15)) (iOr .i64 1 x.1) 1)(g)(_:g=(λ(x0:Ar)=>c x0)):Rj x=(Al g a (e,0)).1/\U9 x=(D8 (x.1,0,15)/\Z_ g a (λ(x0:Ar)=>((c_ x0.2 f=true->Nw x.2)/\(c_ x0.2 f=false->True))/\(c x0=true->((0:Int)<=x0.2/\x0.2<(d:Int))/\R_ x0.2<d/\(g9 (b x0).2.1 3=true->((0:Int)<=x0.2/\x0.2<(d:Int))/\R_ x0.2<d/\(0:Int)<=(b x0).2.2.2.2)/\(g9 (b x0).2.1 3=false->True))/\(c x0=false->True)) (e,0)):=by subst_vars;exact⟨(KI.v x).trans (by kernel_rfl),(KI.o x).trans (by kernel_rfl)⟩
abbrev vc:=λx=>(Zkm x _ rfl _ rfl _ rfl _ rfl _ rfl _ rfl _ rfl).1
abbrev v7:=λx=>(Zkm x _ rfl _ rfl _ rfl _ rfl _ rfl _ rfl _ rfl).2
theorem Zkp(x:X5)(c)(_:c=λ(x0:Ar)=>So x.2 (R_ x0.2) (0,0,0,0,0))(a)(_:a=(λ(x0:Ar)=>(Y_ (g9 (c x0).2.1 3) (iOr .i64 x0.1 (iShl .i64 1 (c x0).2.2.2.2)) x0.1,V' .i64 x0.2 1)))(b)(_:b=Y_ (W_ (iGe x.1 0) (iLe x.1 15)) (iOr .i64 1 x.1) 1)(f)(_:f=U_ x.2)(d)(_:d=(λ(x0:Ar)=>c_ x0.2 f))(e)(_:e=U' (Ct x.2))(g)(_:g=List.length x.2):EX x=Y_ e b (Al d a (b,0)).1/\Va x=(Nu x.2/\(e=true->True)/\(e=false->Z_ d a (λ(x0:Ar)=>(c_ x0.2 f=true->((0:Int)<=x0.2/\x0.2<(g:Int))/\R_ x0.2<g/\(g9 (c x0).2.1 3=true->(0:Int)<=(c x0).2.2.2.2)/\(g9 (c x0).2.1 3=false->True))/\(c_ x0.2 f=false->True)) (b,0))):=by subst_vars;exact⟨(KN.v x).trans (by kernel_rfl),(KN.o x).trans (by kernel_rfl)⟩
abbrev vU:=λx=>(Zkp x _ rfl _ rfl _ rfl _ rfl _ rfl _ rfl _ rfl).1
abbrev uB:=λx=>(Zkp x _ rfl _ rfl _ rfl _ rfl _ rfl _ rfl _ rfl).2
attribute [irreducible] Me Vi Fg Pg F8 Ry VL Vm Kv O7 EA Nw Ei V7 Ct Nu K8 Rx VC Vh Rj U9 EX Va
end
section
set_option maxRecDepth 8000
def tN:d4:=(A_ [1,0] 4 [E' 0] (A_ [1] 5 [C_ 1,D_ 0,L' 6,B_ (.bin .sub 5 7),G_ 1 (C_ 8)] (.seq [1] (A_ [10,1] 9 [C_ 1,M' 9 AL] (.cond 10 (A_ [4] 4 [E' (-1)] .ret) .skip)) (A_ [4] 11 [C_ 1,G_ 4 (C_ 11)] .ret))))
def Kr:Fn:=⟨⟨2,12,0,true,[.tmp 4],tN⟩,[.one .Z' (.sl AB),.one .Z' (.int .i64)],.one (.one .own (.int .i64))⟩
theorem tJ:Kr.A:=AM trivial
def Ew:LN->Int:=Kr.V
def Q1:LN->Prop:=Kr.O
theorem tz:Kr.B:=AO trivial (by kernel_rfl) (λx=>by kernel_rfl)
def sx:d4:=(A_ [1,0] 4 [E' 0] (A_ [1,0] 6 [C_ 1,D_ 0,L' 7,B_ (.bin .sub 6 8),G_ 1 (C_ 9)] (.seq [1,0] (A_ [11,1,0] 10 [C_ 1,M' 10 AL] (.cond 11 (A_ [4] 4 [E' (-1)] .ret) .skip)) (.seq [1] (A_ [5,1,0] 5 [E' 0] (.block 0 (.loop [0,1,5] 1 (.seq [5,1,0] (A_ [15,5,1,0] 12 [C_ 5,D_ 0,L' 13,M' 12 14] (.cond 15 .skip (.exit 0))) (.seq [5,1,0] (.block 1 (A_ [5,1,0] 18 [D_ 0,C_ 5,N_ 1 18 19,O_ 20,C_ 1,I' Kr [21,22],G_ 1 (C_ 23)] (A_ [25,5,1,0] 24 [C_ 1,M' 24 AL] (.cond 25 (A_ [4] 4 [E' (-1)] .ret) .skip)))) (At 16 [C_ 5,M_ 16 AA,G_ 5 (C_ 17)])))))) (A_ [4] 26 [C_ 1,G_ 4 (C_ 26)] .ret)))))
def Kl:Fn:=⟨⟨2,27,0,true,[.tmp 4],sx⟩,[.one .Z' (.sl (.one (.sl AB))),.one .Z' (.int .i64)],.one (.one .own (.int .i64))⟩
theorem r7:Kl.A:=AM ⟨tJ,trivial⟩
def L9:LP->Int:=Kl.V
def Ux:LP->Prop:=Kl.O
theorem rj:Kl.B:=AO ⟨tz,trivial⟩ (by kernel_rfl) (λx=>by kernel_rfl)
def vH:d4:=(A_ [2,1] 2 [O' 0 2 0,G_ 4 (E' 0)] (A_ [1] 5 [J' 1 2,J_ 0 5,C_ 1,I' Kl [6,7],G_ 1 (C_ 8)] (.seq [1] (A_ [10,1] 9 [C_ 1,M' 9 AL] (.cond 10 (A_ [4] 4 [E' (-1)] .ret) .skip)) (A_ [4] 11 [C_ 1,G_ 4 (C_ 11)] .ret))))
def KJ:Fn:=⟨⟨2,12,1,true,[.tmp 4],vH⟩,[.agg [Au,(.Z',.sl (.one (.sl AB)))],.one .Z' (.int .i64)],.one (.one .own (.int .i64))⟩
theorem vG:KJ.A:=AM ⟨r7,trivial⟩
def Fh:X3->Int:=KJ.V
def UL:X3->Prop:=KJ.O
theorem vD:KJ.B:=AO ⟨rj,trivial⟩ (by kernel_rfl) (λx=>by kernel_rfl)
def tH:d4:=(A_ [0] 2 [Q_ (.c .b_)] (A_ [3,0] 5 [D_ 0,L' 5,Q' AB (.mkSlice 4 [Ad,Ad,Ad,Ad] 6),G_ 3 (C_ 7)] (.seq [3] (A_ [4,3,0] 4 [E' 0] (.block 0 (.loop [0,3,4] 1 (.seq [4,3,0] (A_ [11,4,3,0] 8 [C_ 4,D_ 0,L' 9,M' 8 10] (.cond 11 .skip (.exit 0))) (.seq [4,3,0] (.block 1 (At 14 [D_ 3,C_ 4,D_ 0,C_ 4,N_ 4 16 17,B_ (.i5 (some 4) 18),I' Im [19],N_ 4 14 15,E_ (.f8 4 21 20)])) (At 12 [C_ 4,M_ 12 AA,G_ 4 (C_ 13)])))))) (A_ [2] 22 [C_ 3,G_ 2 (C_ 22)] .ret))))
def Kx:Fn:=⟨⟨1,23,0,false,[.tmp 2],tH⟩,[.one .Z' (.sl AB)],.one (.one .own (.sl AB))⟩
theorem tU:Kx.A:=AM ⟨fY,trivial⟩
def Pj:Dp->List Cw:=Kx.V
def Q2:Dp->Prop:=Kx.O
theorem tM:Kx.B:=AO ⟨gu,trivial⟩ (by kernel_rfl) (λx=>by kernel_rfl)
def rp:d4:=(A_ [0] 2 [Q_ (.c .b_)] (A_ [3,0] 5 [D_ 0,L' 5,Q' (.one (.sl AB)) (.mkSlice 1 [.b_] 6),G_ 3 (C_ 7)] (.seq [3] (A_ [4,3,0] 4 [E' 0] (.block 0 (.loop [0,3,4] 1 (.seq [4,3,0] (A_ [11,4,3,0] 8 [C_ 4,D_ 0,L' 9,M' 8 10] (.cond 11 .skip (.exit 0))) (.seq [4,3,0] (.block 1 (At 14 [D_ 3,C_ 4,D_ 0,C_ 4,N_ 1 16 17,O_ 18,I' Kx [19],N_ 1 14 15,E_ (.f8 1 21 20)])) (At 12 [C_ 4,M_ 12 AA,G_ 4 (C_ 13)])))))) (A_ [2] 22 [C_ 3,G_ 2 (C_ 22)] .ret))))
def Km:Fn:=⟨⟨1,23,0,false,[.tmp 2],rp⟩,[.one .Z' (.sl (.one (.sl AB)))],.one (.one .own (.sl (.one (.sl AB))))⟩
theorem sL:Km.A:=AM ⟨tU,trivial⟩
def UG:Cv->List Dp:=Km.V
def Up:Cv->Prop:=Km.O
theorem sd:Km.B:=AO ⟨tM,trivial⟩ (by kernel_rfl) (λx=>by kernel_rfl)
def uC:d4:=(A_ [2,1] 1 [O' 0 2 0,B_ (.e_ 1 [Ad,.b_])] (A_ [3,2,1] 3 [B_ (.e_ 2 [Ad,.b_])] (A_ [3,2,1] 4 [J' 0 1,C' (.d7 0 none 4),J' 0 3,E_ (.V_ 2 1 6 5)] (A_ [3,2] 7 [J' 1 1,J_ 0 7,I' Km [8],J' 1 3,E_ (.V_ 2 1 10 9)] (A_ [2] 11 [C' (.d7 2 (some 2) 3),E_ (.V_ 1 2 2 11)] .ret)))))
def KF:Fn:=⟨⟨1,12,3,false,[.cell 2 (some 2)],uC⟩,[.agg [Au,(.Z',.sl (.one (.sl AB)))]],.one (.agg [AN,(.own,.sl (.one (.sl AB)))])⟩
theorem wc:KF.A:=AM ⟨sL,trivial⟩
def Rn:B0->Int×Cv:=KF.V
def UO:B0->Prop:=KF.O
theorem wJ:KF.B:=AO ⟨sd,trivial⟩ (by kernel_rfl) (λx=>by kernel_rfl)
def w8:d4:=(A_ [1] 1 [O' 0 2 0,Q_ As] (.seq [1] (A_ [3,1] 3 [E' 0] (.block 0 (.loop [1,3] 1 (.seq [3,1] (A_ [10,3,1] 6 [C_ 3,J' 1 1,J_ 0 7,L' 8,M' 6 9] (.cond 10 .skip (.exit 0))) (.seq [3,1] (.block 1 (.seq [3,1] (A_ [21,3,1] 13 [J' 1 1,G' (rg 1) (J_ 0 13),C_ 3,G' (rg 3) (N_ 1 14 15),G' (rg 4) (O_ 16),G' (rg 5) (L' 17),J' 0 1,G' [6] (J_ 0 19),G' (rg 8) (N' 18 20)] (.cond 21 (A_ [2] 2 [Q_ As] .ret) .skip)) (A_ [4,3,1] 4 [E' 0] (.block 2 (.loop [1,3,4] 1 (.seq [4,3,1] (A_ [29,4,3,1] 22 [C_ 4,J' 1 1,J_ 0 23,C_ 3,N_ 1 24 25,O_ 26,L' 27,M' 22 28] (.cond 29 .skip (.exit 2))) (.seq [4,3,1] (.block 3 (A_ [5,4,3,1] 32 [J' 1 1,J_ 0 32,C_ 3,N_ 1 33 34,O_ 35,C_ 4,N_ 4 36 37,C' (.i5 (some 4) 38),G_ 5 (B_ (.e_ 1 [Ad,Ad,Ad,Ad])),E_ (.V_ 1 4 5 39)] (A_ [64,4,3,1] 40 [K_ 1 4 5,I' Ef [40],P' 41,C_ 42,F' 43 (J' 0 5),F' 43 (J_ 1 44),F' 43 (Nm 45 AA),F' 43 (Q_ 46),F_ 47 (Q_ 3),F_ 47 (Nm 48 AL),F' 43 (L_ 47 49 As),L_ 43 AW 50,C_ 51,F' 52 (J' 0 5),F' 52 (J_ 1 53),F' 52 (N' 54 (.c (.int .i64 9))),F' 52 (Q_ 55),F_ 56 (J' 3 5),F_ 56 (J_ 1 57),F_ 56 (J' 1 1),F_ 56 (J_ 0 59),F_ 56 (L' 60),F_ 56 (B_ (.bin .geq 58 61)),F' 52 (L_ 56 62 As),L_ 52 AW 63] (.cond 64 (A_ [2] 2 [Q_ As] .ret) .skip)))) (At 30 [C_ 4,M_ 30 AA,G_ 4 (C_ 31)])))))))) (At 11 [C_ 3,M_ 11 AA,G_ 3 (C_ 12)])))))) (A_ [2] 65 [J' 0 1,J_ 0 65,I' BR [66,AA,(.c (.int .i64 32))],C_ 67,F_ 68 (J' 1 1),F_ 68 (J_ 0 69),F_ 68 (L' 70),F_ 68 (I' BR [71,AA,(.c (.int .i64 4))]),L_ 68 72 As,G_ 2 (C_ 73)] .ret)))
def Ik:Fn:=⟨⟨1,74,2,true,[.tmp 2],w8⟩,[.agg [Au,(.Z',.sl (.one (.sl AB)))]],.one (.one .own (.bool))⟩
theorem gn:Ik.A:=AM ⟨Vb,Gb,Gb,trivial⟩
def GJ:B0->Bool:=Ik.V
def Ra:B0->Prop:=Ik.O
theorem fZ:Ik.B:=AO ⟨U7,F9,F9,trivial⟩ (by kernel_rfl) (λx=>by kernel_rfl)
def vn:d4:=(A_ [1] 1 [O' 0 2 0,Q_ As] (.seq [1] (A_ [26,1] 7 [J' 0 1,J_ 0 7,M' 8 AA,C_ 9,F' 10 (J' 0 1),F' 10 (J_ 0 11),F' 10 (B_ (.bin .gtr 12 (.c (.int .i64 32)))),L_ 10 AW 13,C_ 14,F' 15 (J' 1 1),F' 15 (J_ 0 16),F' 15 (L' 17),F' 15 (M' 18 AA),L_ 15 AW 19,C_ 20,F' 21 (J' 1 1),F' 21 (J_ 0 22),F' 21 (L' 23),F' 21 (B_ (.bin .gtr 24 (.c (.int .i64 4)))),L_ 21 AW 25] (.cond 26 (A_ [2] 2 [Q_ As] .ret) .skip)) (.seq [] (A_ [30,29,28,1] 27 [J' 1 1,J_ 0 27,L' 28,E' 0] (.block 0 (.loop [1,28,29,30] 1 (A_ [31,30,29,28,1] 31 [M' 30 29] (.seq [30,29,28,1] (.cond 31 .skip (.exit 0)) (.seq [30,29,28,1] (.block 1 (A_ [30,29,28,4,3,1] 32 [C_ 30,N_ 1 28 30,O_ 33,H_ 3 (C_ 32),D_ 34] (.seq [30,29,28,4,3,1] (A_ [39,30,29,28,4,3,1] 35 [D_ 4,L' 35,J' 0 1,J_ 0 37,N' 36 38] (.cond 39 (A_ [2] 2 [Q_ As] .ret) .skip)) (A_ [42,41,40,30,29,28,3,1] 40 [D_ 4,L' 40,E' 0] (.block 2 (.loop [1,3,28,29,30,40,41,42] 1 (A_ [43,42,41,40,30,29,28,3,1] 43 [M' 42 41] (.seq [42,41,40,30,29,28,3,1] (.cond 43 .skip (.exit 2)) (.seq [42,41,40,30,29,28,3,1] (.block 3 (A_ [42,41,40,30,29,28,6,3,1] 44 [N_ 4 40 42,C' (.i5 (some 4) 44),G_ 6 (B_ (.e_ 1 [Ad,Ad,Ad,Ad])),E_ (.V_ 1 4 6 45)] (A_ [70,42,41,40,30,29,28,3,1] 46 [K_ 1 4 6,I' ET [46],P' 47,C_ 48,F' 49 (Q_ 3),F' 49 (Nm 50 AL),F' 49 (Q_ 51),F_ 52 (J' 0 6),F_ 52 (J_ 1 53),F_ 52 (Nm 54 AA),F' 49 (L_ 52 55 As),L_ 49 AW 56,C_ 57,F' 58 (J' 0 6),F' 58 (J_ 1 59),F' 58 (N' 60 (.c (.int .i64 9))),F' 58 (Q_ 61),F_ 62 (J' 3 6),F_ 62 (J_ 1 63),F_ 62 (J' 1 1),F_ 62 (J_ 0 65),F_ 62 (L' 66),F_ 62 (B_ (.bin .geq 64 67)),F' 58 (L_ 62 68 As),L_ 58 AW 69] (.cond 70 (A_ [2] 2 [Q_ As] .ret) .skip)))) (At 71 [M_ 42 AA,G_ 42 (C_ 71)])))))))))) (At 72 [M_ 30 AA,G_ 30 (C_ 72)]))))))) (A_ [2] 2 [Q_ AW] .ret))))
def KB:Fn:=⟨⟨1,73,2,true,[.tmp 2],vn⟩,[.agg [Au,(.Z',.sl (.one (.sl AB)))]],.one (.one .own (.bool))⟩
theorem uO:KB.A:=AM ⟨UR,trivial⟩
def D7:B0->Bool:=KB.V
def Re:B0->Prop:=KB.O
theorem uJ:KB.B:=AO ⟨U3,trivial⟩ (by kernel_rfl) (λx=>by kernel_rfl)
def sR:d4:=(A_ [1,0] 4 [Q_ As] (.seq [1,0] (A_ [10,1,0] 6 [D_ 0,L' 6,D_ 1,L' 8,N' 7 9] (.cond 10 (A_ [4] 4 [Q_ As] .ret) .skip)) (.seq [] (A_ [5,1,0] 5 [E' 0] (.block 0 (.loop [0,1,5] 1 (.seq [5,1,0] (A_ [14,5,1,0] 11 [C_ 5,D_ 0,L' 12,M' 11 13] (.cond 14 .skip (.exit 0))) (.seq [5,1,0] (.block 1 (A_ [26,5,1,0] 17 [D_ 0,C_ 5,G' (rg 2) (N_ 4 17 18),G' (rg 3) (B_ (.i5 (some 4) 19)),D_ 1,C_ 5,G' [4,5] (N_ 4 21 22),G' [4,5,6] (B_ (.i5 (some 4) 23)),G' (rg 8) (I' Il [20,24]),G' (rg 9) (P' 25)] (.cond 26 (A_ [4] 4 [Q_ As] .ret) .skip))) (At 15 [C_ 5,M_ 15 AA,G_ 5 (C_ 16)])))))) (A_ [4] 4 [Q_ AW] .ret))))
def Kq:Fn:=⟨⟨2,27,0,true,[.tmp 4],sR⟩,[.one .Z' (.sl AB),.one .Z' (.sl AB)],.one (.one .own (.bool))⟩
theorem tf:Kq.A:=AM ⟨ga,trivial⟩
def Kw:pq->Bool:=Kq.V
def Q3:pq->Prop:=Kq.O
theorem tx:Kq.B:=AO ⟨fU,trivial⟩ (by kernel_rfl) (λx=>by kernel_rfl)
def sm:d4:=(A_ [1,0] 4 [Q_ As] (.seq [1,0] (A_ [10,1,0] 6 [D_ 0,L' 6,D_ 1,L' 8,N' 7 9] (.cond 10 (A_ [4] 4 [Q_ As] .ret) .skip)) (.seq [] (A_ [5,1,0] 5 [E' 0] (.block 0 (.loop [0,1,5] 1 (.seq [5,1,0] (A_ [14,5,1,0] 11 [C_ 5,D_ 0,L' 12,M' 11 13] (.cond 14 .skip (.exit 0))) (.seq [5,1,0] (.block 1 (A_ [26,5,1,0] 17 [D_ 0,C_ 5,G' (rg 2) (N_ 1 17 18),G' (rg 3) (O_ 19),D_ 1,C_ 5,G' [4,5] (N_ 1 21 22),G' [4,5,6] (O_ 23),G' (rg 8) (I' Kq [20,24]),G' (rg 9) (P' 25)] (.cond 26 (A_ [4] 4 [Q_ As] .ret) .skip))) (At 15 [C_ 5,M_ 15 AA,G_ 5 (C_ 16)])))))) (A_ [4] 4 [Q_ AW] .ret))))
def Kk:Fn:=⟨⟨2,27,0,true,[.tmp 4],sm⟩,[.one .Z' (.sl (.one (.sl AB))),.one .Z' (.sl (.one (.sl AB)))],.one (.one .own (.bool))⟩
theorem rY:Kk.A:=AM ⟨tf,trivial⟩
def Uz:ph->Bool:=Kk.V
def Ut:ph->Prop:=Kk.O
theorem ru:Kk.B:=AO ⟨tx,trivial⟩ (by kernel_rfl) (λx=>by kernel_rfl)
def wE:d4:=(A_ [3,2] 2 [O' 0 2 0,O' 1 2 1,Q_ As] (.seq [3,2] (A_ [9,3,2] 5 [J' 0 2,J_ 0 5,J' 0 3,J_ 1 7,N' 6 8] (.cond 9 (A_ [4] 4 [Q_ As] .ret) .skip)) (.seq [] (A_ [15] 10 [J' 1 2,J_ 0 10,J' 1 3,J_ 1 12,I' Kk [11,13],P' 14] (.cond 15 (A_ [4] 4 [Q_ As] .ret) .skip)) (A_ [4] 4 [Q_ AW] .ret))))
def KE:Fn:=⟨⟨2,16,2,true,[.tmp 4],wE⟩,[.agg [Au,(.Z',.sl (.one (.sl AB)))],.agg [Au,(.Z',.sl (.one (.sl AB)))]],.one (.one .own (.bool))⟩
theorem uQ:KE.A:=AM ⟨rY,trivial⟩
def Pt:pG->Bool:=KE.V
def UK:pG->Prop:=KE.O
theorem vE:KE.B:=AO ⟨ru,trivial⟩ (by kernel_rfl) (λx=>by kernel_rfl)
def ym:d4:=(A_ [3,2,1] 3 [O' 0 2 0,G_ 6 (E' 0)] (.seq [3,2,1] (A_ [18,3,2,1] 8 [K_ 0 2 3,I' Ik [8],P' 9,C_ 10,F' 11 (Q_ 2),F' 11 (J' 0 3),F' 11 (J_ 0 13),F' 11 (B_ (.bin .sub 14 AA)),F' 11 (I' BR [12,AL,15]),F' 11 (P' 16),L_ 11 AW 17] (.cond 18 (A_ [6] 6 [E' (-1)] .ret) .skip)) (.seq [] (A_ [7,3,2,1] 19 [J' 1 3,J_ 0 19,L' 20,B_ (.bin .sub 21 AA),G_ 7 (C_ 22)] (.block 0 (.loop [1,2,3,7] 1 (.seq [7,3,2,1] (A_ [24,7,3,2,1] 23 [C_ 7,B_ (.bin .gtr 23 AL)] (.cond 24 .skip (.exit 0))) (.seq [7,3,2,1] (.block 1 (A_ [43,7,3,2,1] 27 [C_ 1,C_ 7,B_ (.bin .shr 27 28),B_ (.bin .and 29 AA),Nm 30 AA,C_ 31,F_ 32 (J' 1 3),F_ 32 (J_ 0 33),F_ 32 (Q_ 7),F_ 32 (N_ 1 34 35),F_ 32 (O_ 36),F_ 32 (Q_ 2),F_ 32 (N_ 4 37 38),F_ 32 (J' 0 39),F_ 32 (O_ 40),F_ 32 (N' 41 AA),L_ 32 42 As] (.cond 43 (A_ [6] 44 [C_ 7,G_ 6 (C_ 44)] .ret) .skip))) (At 25 [C_ 7,B_ (.bin .sub 25 AA),G_ 7 (C_ 26)])))))) (A_ [6] 6 [E' 0] .ret))))
def KR:Fn:=⟨⟨3,45,1,true,[.tmp 6],ym⟩,[.agg [Au,(.Z',.sl (.one (.sl AB)))],.one .Z' (.int .i64),.one .Z' (.int .i64)],.one (.one .own (.int .i64))⟩
theorem xz:KR.A:=AM ⟨gn,Gb,trivial⟩
def FH:JS->Int:=KR.V
def Vk:JS->Prop:=KR.O
theorem xg:KR.B:=AO ⟨fZ,F9,trivial⟩ (by kernel_rfl) (λx=>by kernel_rfl)
def xo:d4:=(A_ [3,2,1] 3 [O' 0 2 0,G_ 6 (E' 0)] (.seq [] (A_ [7,3,2,1] 8 [J' 1 3,J_ 0 8,L' 9,B_ (.bin .sub 10 AA),G_ 7 (C_ 11)] (.block 0 (.loop [1,2,3,7] 1 (.seq [7,3,2,1] (A_ [13,7,3,2,1] 12 [C_ 7,B_ (.bin .gtr 12 AL)] (.cond 13 .skip (.exit 0))) (.seq [7,3,2,1] (.block 1 (A_ [31,7,3,2,1] 16 [C_ 1,C_ 7,I' GR [16,17],Nm 18 AA,C_ 19,F_ 20 (J' 1 3),F_ 20 (J_ 0 21),F_ 20 (Q_ 7),F_ 20 (N_ 1 22 23),F_ 20 (O_ 24),F_ 20 (Q_ 2),F_ 20 (N_ 4 25 26),F_ 20 (J' 0 27),F_ 20 (O_ 28),F_ 20 (N' 29 AA),L_ 20 30 As] (.cond 31 (A_ [6] 32 [C_ 7,G_ 6 (C_ 32)] .ret) .skip))) (At 14 [C_ 7,B_ (.bin .sub 14 AA),G_ 7 (C_ 15)])))))) (A_ [6] 6 [E' 0] .ret)))
def KV:Fn:=⟨⟨3,33,1,true,[.tmp 6],xo⟩,[.agg [Au,(.Z',.sl (.one (.sl AB)))],.one .Z' (.int .i64),.one .Z' (.int .i64)],.one (.one .own (.int .i64))⟩
theorem xK:KV.A:=AM ⟨jd,trivial⟩
def Rz:JS->Int:=KV.V
def Rt:JS->Prop:=KV.O
theorem yk:KV.B:=AO ⟨je,trivial⟩ (by kernel_rfl) (λx=>by kernel_rfl)
def uR:d4:=(A_ [6,3,2,1] 3 [O' 0 2 0,G_ 6 (B_ (.e_ 1 [Ad,Ad,Ad,Ad]))] (A_ [7,6,3,2] 8 [K_ 0 2 3,C_ 1,C_ 2,I' KR [8,9,10],G_ 7 (C_ 11)] (.seq [7,6,3,2] (A_ [13,7,6,3,2] 12 [C_ 7,M' 12 AL] (.cond 13 (A_ [6] 14 [B_ (.build [Ad,Ad,Ad,Ad] []),E_ (.V_ 1 4 6 14)] .ret) .skip)) (A_ [6] 15 [J' 1 3,J_ 0 15,C_ 7,N_ 1 16 17,O_ 18,C_ 2,N_ 4 19 20,C' (.i5 (some 4) 21),E_ (.V_ 1 4 6 22)] .ret))))
def KH:Fn:=⟨⟨3,23,2,true,[.cell 6 (some 4)],uR⟩,[.agg [Au,(.Z',.sl (.one (.sl AB)))],.one .Z' (.int .i64),.one .Z' (.int .i64)],.one (.agg [AN,AN,AN,AN])⟩
theorem xc:KH.A:=AM ⟨xz,trivial⟩
def Vf:JS->Int×Int×Int×Int:=KH.V
def U2:JS->Prop:=KH.O
theorem uK:KH.B:=AO ⟨xg,trivial⟩ (by kernel_rfl) (λx=>by kernel_rfl)
end
section
set_option maxRecDepth 100000
theorem sZ(x):Ew x=Y_ (c_ (iSub .i64 x.2 (U_ x.1)) 0) (-1) (iSub .i64 x.2 (U_ x.1)):=(Kr.v x).trans (by kernel_rfl)
theorem tC(x):Q1 x=True:=(Kr.o x).trans (by kernel_rfl)
theorem Zku(x:LP)(e)(_:e=U_ x.1)(b)(_:b=iSub .i64 x.2 e)(f)(_:f=λ(x0:Ar)=>So x.1 (R_ x0.2) [])(c)(_:c=(λ(x0:Ar)=>W_ (c_ x0.2 e) (U' (c_ (Ew (f x0,x0.1)) 0))))(d)(_:d=(λ(x0:Ar)=>(Ew (f x0,x0.1),V' .i64 x0.2 1)))(a)(_:a=Al c d (b,0))(g)(_:g=List.length x.1)(h)(_:h=c_ b 0):L9 x=Y_ h (-1) (Y_ (c_ a.2 e) (-1) a.1)/\Ux x=((h=true->True)/\(h=false->Z_ c d (λ(x0:Ar)=>(c_ x0.2 e=true->((0:Int)<=x0.2/\x0.2<(g:Int))/\R_ x0.2<g/\Q1 (f x0,x0.1))/\(c_ x0.2 e=false->True)) (b,0))):=by subst_vars;exact⟨(Kl.v x).trans (by kernel_rfl),(Kl.o x).trans (by kernel_rfl)⟩
abbrev rV:=λx=>(Zku x _ rfl _ rfl _ rfl _ rfl _ rfl _ rfl _ rfl _ rfl).1
abbrev sD:=λx=>(Zku x _ rfl _ rfl _ rfl _ rfl _ rfl _ rfl _ rfl _ rfl).2
theorem xd(x):Fh x=Y_ (c_ (L9 (x.1.2,x.2)) 0) (-1) (L9 (x.1.2,x.2)):=(KJ.v x).trans (by kernel_rfl)
theorem wq(x):UL x=Ux (x.1.2,x.2):=(KJ.o x).trans (by kernel_rfl)
theorem Zkz(x:Dp)(b)(_:b=λ(x0:LN)=>So x (R_ x0.2) (0,0,0,0))(a)(_:a=λ(x0:LN)=>Fg ((b x0).1,(b x0).2.1,(b x0).2.2.1,(b x0).2.2.2))(c)(_:c=(λ(x0:LN)=>(lSet x0.1 (R_ x0.2) ((a x0).1,(a x0).2.1,(a x0).2.2.1,(a x0).2.2.2),V' .i64 x0.2 1)))(d)(_:d=U_ x)(e)(_:e=(λ(x0:LN)=>c_ x0.2 d))(f)(_:f=lRep d (0,0,0,0)):Pj x=(Al e c (f,0)).1/\Q2 x=(((0:Int)<=d/\AD (Int.toNat d*4))/\Z_ e c (λ(x0:LN)=>(c_ x0.2 d=true->((0:Int)<=x0.2/\x0.2<(List.length x:Int))/\R_ x0.2<List.length x/\Pg ((b x0).1,(b x0).2.1,(b x0).2.2.1,(b x0).2.2.2)/\((0:Int)<=x0.2/\x0.2<(List.length x0.1:Int))/\R_ x0.2<List.length x0.1)/\(c_ x0.2 d=false->True)) (f,0)):=by subst_vars;exact⟨(Kx.v x).trans (by kernel_rfl),(Kx.o x).trans (by kernel_rfl)⟩
abbrev uk:=λx=>(Zkz x _ rfl _ rfl _ rfl _ rfl _ rfl _ rfl).1
abbrev sX:=λx=>(Zkz x _ rfl _ rfl _ rfl _ rfl _ rfl _ rfl).2
theorem ZkB(x:Cv)(a)(_:a=(λ(x0:LP)=>(lSet x0.1 (R_ x0.2) (Pj (So x (R_ x0.2) [])),V' .i64 x0.2 1)))(b)(_:b=U_ x)(c)(_:c=(λ(x0:LP)=>c_ x0.2 b)):UG x=(Al c a (lRep b [],0)).1/\Up x=(((0:Int)<=b/\AD (Int.toNat b*1))/\Z_ c a (λ(x0:LP)=>(c_ x0.2 b=true->((0:Int)<=x0.2/\x0.2<(List.length x:Int))/\R_ x0.2<List.length x/\Q2 (So x (R_ x0.2) [])/\((0:Int)<=x0.2/\x0.2<(List.length x0.1:Int))/\R_ x0.2<List.length x0.1)/\(c_ x0.2 b=false->True)) (lRep b [],0)):=by subst_vars;exact⟨(Km.v x).trans (by kernel_rfl),(Km.o x).trans (by kernel_rfl)⟩
abbrev rR:=λx=>(ZkB x _ rfl _ rfl _ rfl).1
abbrev sH:=λx=>(ZkB x _ rfl _ rfl _ rfl).2
theorem uN(x):Rn x=(x.1,UG x.2):=(KF.v x).trans (by kernel_rfl)
theorem wX(x):UO x=Up x.2:=(KF.o x).trans (by kernel_rfl)
theorem ZkE(x:B0)(d)(_:d=λ(x0:Int)=>So x.2 (R_ x0) [])(c)(_:c=λ(x0:Int)(n:Int)=>So (d x0) (R_ n) (0,0,0,0))(g)(_:g=U_ x.2)(k)(_:k=λ(x0:Int)=>U_ (d x0))(a)(_:a=λ(x0:Int)=>λ(n:Int)=>W_ (c_ n (k x0)) (U' (w_ (U' (D6 ((c x0 n).1,(c x0 n).2.1,(c x0 n).2.2.1,(c x0 n).2.2.2))) (Y_ (g9 (c x0 n).1 1) (w_ (g9 x0 0) (W_ (i_ (c x0 n).1 9) (iGe (c x0 n).2.2.2 g))) (W_ (i_ (c x0 n).1 9) (iGe (c x0 n).2.2.2 g))))))(i)(_:i=(λ(n:Int)=>V' .i64 n 1))(b)(_:b=(λ(x0:Int)=>W_ (c_ x0 g) (W_ (U' (i_ (k x0) x.1)) (U' (c_ (Al (a x0) i 0) (k x0))))))(h)(_:h=(λ(x0:Int)=>V' .i64 x0 1))(e)(_:e=c_ (Al b h 0) g)(f)(_:f=List.length x.2)(j)(_:j=BM (x.1,1,32))(l)(_:l=λ(x0:Int)=>(0:Int)<=x0/\x0<(f:Int)):GJ x=W_ (U' e) (W_ j (BM (g,1,4)))/\Ra x=(Z_ b h (λ(x0:Int)=>(c_ x0 g=true->l x0/\R_ x0<f/\(i_ (k x0) x.1=true->True)/\(i_ (k x0) x.1=false->Z_ (a x0) i (λ(n:Int)=>l x0/\R_ x0<f/\(c_ n (k x0)=true->l x0/\R_ x0<f/\((0:Int)<=n/\n<(List.length (d x0):Int))/\R_ n<List.length (d x0)/\Ns ((c x0 n).1,(c x0 n).2.1,(c x0 n).2.2.1,(c x0 n).2.2.2))/\(c_ n (k x0)=false->True)) 0))/\(c_ x0 g=false->True)) 0/\(e=true->True)/\(e=false->D8 (x.1,1,32)/\(j=true->D8 (g,1,4))/\(j=false->True))):=by subst_vars;exact⟨(Ik.v x).trans (by kernel_rfl),(Ik.o x).trans (by kernel_rfl)⟩
abbrev vl:=λx=>(ZkE x _ rfl _ rfl _ rfl _ rfl _ rfl _ rfl _ rfl _ rfl _ rfl _ rfl _ rfl _ rfl).1
abbrev wF:=λx=>(ZkE x _ rfl _ rfl _ rfl _ rfl _ rfl _ rfl _ rfl _ rfl _ rfl _ rfl _ rfl _ rfl).2
theorem ZkH(x:B0)(e)(_:e=λ(x0:Int)=>So x.2 (R_ x0) [])(b)(_:b=λ(x0:Int)(n:Int)=>So (e x0) (R_ n) (0,0,0,0))(f)(_:f=U_ x.2)(i)(_:i=λ(x0:Int)=>U_ (e x0))(a)(_:a=λ(x0:Int)=>λ(n:Int)=>W_ (c_ n (i x0)) (U' (w_ (U' (B4 ((b x0 n).1,(b x0 n).2.1,(b x0 n).2.2.1,(b x0 n).2.2.2))) (Y_ (g9 x0 0) (w_ (g9 (b x0 n).1 1) (W_ (i_ (b x0 n).1 9) (iGe (b x0 n).2.2.2 f))) (W_ (i_ (b x0 n).1 9) (iGe (b x0 n).2.2.2 f))))))(h)(_:h=(λ(n:Int)=>V' .i64 n 1))(c)(_:c=(λ(x0:Int)=>W_ (c_ x0 f) (W_ (U' (i_ (i x0) x.1)) (U' (c_ (Al (a x0) h 0) (i x0))))))(d)(_:d=w_ (c_ x.1 1) (w_ (iGt x.1 32) (w_ (c_ f 1) (iGt f 4))))(g)(_:g=(λ(x0:Int)=>V' .i64 x0 1))(j)(_:j=List.length x.2):D7 x=W_ (U' d) (U' (c_ (Al c g 0) f))/\Re x=((d=true->True)/\(d=false->Z_ c g (λ(x0:Int)=>(c_ x0 f=true->((0:Int)<=x0/\x0<(j:Int))/\R_ x0<j/\(i_ (i x0) x.1=true->True)/\(i_ (i x0) x.1=false->Z_ (a x0) h (λ(n:Int)=>(c_ n (i x0)=true->((0:Int)<=n/\n<(List.length (e x0):Int))/\R_ n<List.length (e x0)/\Nr ((b x0 n).1,(b x0 n).2.1,(b x0 n).2.2.1,(b x0 n).2.2.2))/\(c_ n (i x0)=false->True)) 0))/\(c_ x0 f=false->True)) 0)):=by subst_vars;exact⟨(KB.v x).trans (by kernel_rfl),(KB.o x).trans (by kernel_rfl)⟩
abbrev Zb:=λx=>(ZkH x _ rfl _ rfl _ rfl _ rfl _ rfl _ rfl _ rfl _ rfl _ rfl _ rfl).1
abbrev vj:=λx=>(ZkH x _ rfl _ rfl _ rfl _ rfl _ rfl _ rfl _ rfl _ rfl _ rfl _ rfl).2
theorem ZkK(x:pq)(b)(_:b=λ(x0:Int)=>So x.1 (R_ x0) (0,0,0,0))(c)(_:c=λ(x0:Int)=>So x.2 (R_ x0) (0,0,0,0))(d)(_:d=U_ x.1)(a)(_:a=(λ(x0:Int)=>W_ (c_ x0 d) (U' (U' (Jp (((b x0).1,(b x0).2.1,(b x0).2.2.1,(b x0).2.2.2),(c x0).1,(c x0).2.1,(c x0).2.2.1,(c x0).2.2.2))))))(e)(_:e=i_ d (U_ x.2))(f)(_:f=(λ(x0:Int)=>V' .i64 x0 1))(g)(_:g=List.length x.1)(h)(_:h=List.length x.2):Kw x=W_ (U' e) (U' (c_ (Al a f 0) d))/\Q3 x=((e=true->True)/\(e=false->Z_ a f (λ(x0:Int)=>(c_ x0 d=true->((0:Int)<=x0/\x0<(g:Int))/\R_ x0<g/\((0:Int)<=x0/\x0<(h:Int))/\R_ x0<h/\Ph (((b x0).1,(b x0).2.1,(b x0).2.2.1,(b x0).2.2.2),(c x0).1,(c x0).2.1,(c x0).2.2.1,(c x0).2.2.2))/\(c_ x0 d=false->True)) 0)):=by subst_vars;exact⟨(Kq.v x).trans (by kernel_rfl),(Kq.o x).trans (by kernel_rfl)⟩
abbrev tu:=λx=>(ZkK x _ rfl _ rfl _ rfl _ rfl _ rfl _ rfl _ rfl _ rfl).1
abbrev uj:=λx=>(ZkK x _ rfl _ rfl _ rfl _ rfl _ rfl _ rfl _ rfl _ rfl).2
theorem ZkN(x:ph)(b)(_:b=U_ x.1)(a)(_:a=(λ(x0:Int)=>W_ (c_ x0 b) (U' (U' (Kw (So x.1 (R_ x0) [],So x.2 (R_ x0) []))))))(c)(_:c=i_ b (U_ x.2))(d)(_:d=(λ(x0:Int)=>V' .i64 x0 1))(e)(_:e=List.length x.1)(f)(_:f=List.length x.2):Uz x=W_ (U' c) (U' (c_ (Al a d 0) b))/\Ut x=((c=true->True)/\(c=false->Z_ a d (λ(x0:Int)=>(c_ x0 b=true->((0:Int)<=x0/\x0<(e:Int))/\R_ x0<e/\((0:Int)<=x0/\x0<(f:Int))/\R_ x0<f/\Q3 (So x.1 (R_ x0) [],So x.2 (R_ x0) []))/\(c_ x0 b=false->True)) 0)):=by subst_vars;exact⟨(Kk.v x).trans (by kernel_rfl),(Kk.o x).trans (by kernel_rfl)⟩
abbrev sw:=λx=>(ZkN x _ rfl _ rfl _ rfl _ rfl _ rfl _ rfl).1
abbrev rH:=λx=>(ZkN x _ rfl _ rfl _ rfl _ rfl _ rfl _ rfl).2
theorem wO(x):Pt x=W_ (U' (i_ x.1.1 x.2.1)) (U' (U' (Uz (x.1.2,x.2.2)))):=(KE.v x).trans (by kernel_rfl)
theorem vL(x):UK x=((i_ x.1.1 x.2.1=true->True)/\(i_ x.1.1 x.2.1=false->Ut (x.1.2,x.2.2))):=(KE.o x).trans (by kernel_rfl)
theorem ZkS(x:JS)(d)(_:d=λ(x0:Int)=>g9 (iAnd .i64 (iShr .i64 x.2.1 x0) 1) 1)(h)(_:h=λ(x0:Int)=>So x.1.2 (R_ x0) [])(a)(_:a=(λ(x0:Int)=>W_ (iGt x0 0) (U' (W_ (d x0) (i_ (So (h x0) (R_ x.2.2) (0,0,0,0)).1 1)))))(e)(_:e=U' (GJ (x.1.1,x.1.2)))(i)(_:i=iSub .i64 x.1.1 1)(b)(_:b=w_ e (U' (BM (x.2.2,0,i))))(f)(_:f=(λ(x0:Int)=>iSub .i64 x0 1))(g)(_:g=iSub .i64 (U_ x.1.2) 1)(c)(_:c=Al a f g)(j)(_:j=List.length x.1.2):FH x=Y_ b (-1) (Y_ (iGt c 0) c 0)/\Vk x=((Ra (x.1.1,x.1.2)/\(e=true->True)/\(e=false->D8 (x.2.2,0,i)))/\(b=true->True)/\(b=false->Z_ a f (λ(x0:Int)=>(iGt x0 0=true->(0:Int)<=x0/\(d x0=true->((0:Int)<=x0/\x0<(j:Int))/\R_ x0<j/\((0:Int)<=x.2.2/\x.2.2<(List.length (h x0):Int))/\R_ x.2.2<List.length (h x0))/\(d x0=false->True))/\(iGt x0 0=false->True)) g)):=by subst_vars;exact⟨(KR.v x).trans (by kernel_rfl),(KR.o x).trans (by kernel_rfl)⟩
abbrev xE:=λx=>(ZkS x _ rfl _ rfl _ rfl _ rfl _ rfl _ rfl _ rfl _ rfl _ rfl _ rfl).1
abbrev xC:=λx=>(ZkS x _ rfl _ rfl _ rfl _ rfl _ rfl _ rfl _ rfl _ rfl _ rfl _ rfl).2
theorem ZkV(x:JS)(e)(_:e=λ(x0:Int)=>So x.1.2 (R_ x0) [])(g)(_:g=λ(x0:Int)=>g9 (Ei (x.2.1,x0)) 1)(a)(_:a=(λ(x0:Int)=>W_ (iGt x0 0) (U' (W_ (g x0) (i_ (So (e x0) (R_ x.2.2) (0,0,0,0)).1 1)))))(c)(_:c=(λ(x0:Int)=>iSub .i64 x0 1))(d)(_:d=iSub .i64 (U_ x.1.2) 1)(b)(_:b=Al a c d)(f)(_:f=List.length x.1.2):Rz x=Y_ (iGt b 0) b 0/\Rt x=Z_ a c (λ(x0:Int)=>(iGt x0 0=true->V7 (x.2.1,x0)/\(g x0=true->((0:Int)<=x0/\x0<(f:Int))/\R_ x0<f/\((0:Int)<=x.2.2/\x.2.2<(List.length (e x0):Int))/\R_ x.2.2<List.length (e x0))/\(g x0=false->True))/\(iGt x0 0=false->True)) d:=by subst_vars;exact⟨(KV.v x).trans (by kernel_rfl),(KV.o x).trans (by kernel_rfl)⟩
abbrev Zp:=λx=>(ZkV x _ rfl _ rfl _ rfl _ rfl _ rfl _ rfl _ rfl).1
abbrev xG:=λx=>(ZkV x _ rfl _ rfl _ rfl _ rfl _ rfl _ rfl _ rfl).2
@[irreducible] def BW(x:JS):Int:=(Y_ (w_ (U' (D7 (x.1.1,x.1.2))) (w_ (c_ x.2.2 0) (iGe x.2.2 x.1.1))) (-1) (Rz ((x.1.1,x.1.2),x.2.1,x.2.2)))
@[irreducible] def Vp(x:JS):Prop:=((Re (x.1.1,x.1.2))/\(((w_ (U' (D7 (x.1.1,x.1.2))) (w_ (c_ x.2.2 0) (iGe x.2.2 x.1.1)))=true->True)/\((w_ (U' (D7 (x.1.1,x.1.2))) (w_ (c_ x.2.2 0) (iGe x.2.2 x.1.1)))=false->(Rt ((x.1.1,x.1.2),x.2.1,x.2.2)))))
theorem ZkY(x:JS)(a)(_:a=FH ((x.1.1,x.1.2),x.2.1,x.2.2))(c)(_:c=So x.1.2 (R_ a) [])(b)(_:b=So c (R_ x.2.2) (0,0,0,0))(d)(_:d=List.length x.1.2)(e)(_:e=c_ a 0):Vf x=Y_ e (0,0,0,0) (b.1,b.2.1,b.2.2.1,b.2.2.2)/\U2 x=(Vk ((x.1.1,x.1.2),x.2.1,x.2.2)/\(e=true->True)/\(e=false->((0:Int)<=a/\a<(d:Int))/\R_ a<d/\((0:Int)<=x.2.2/\x.2.2<(List.length c:Int))/\R_ x.2.2<List.length c)):=by subst_vars;exact⟨(KH.v x).trans (by kernel_rfl),(KH.o x).trans (by kernel_rfl)⟩
abbrev uH:=λx=>(ZkY x _ rfl _ rfl _ rfl _ rfl _ rfl).1
abbrev uL:=λx=>(ZkY x _ rfl _ rfl _ rfl _ rfl _ rfl).2
@[irreducible] def Js(x:JS):Int×Int×Int×Int:=(Y_ (c_ (BW ((x.1.1,x.1.2),x.2.1,x.2.2)) 0) (0,0,0,0) ((So (So x.1.2 (R_ (BW ((x.1.1,x.1.2),x.2.1,x.2.2))) []) (R_ x.2.2) (0,0,0,0)).1,(So (So x.1.2 (R_ (BW ((x.1.1,x.1.2),x.2.1,x.2.2))) []) (R_ x.2.2) (0,0,0,0)).2.1,(So (So x.1.2 (R_ (BW ((x.1.1,x.1.2),x.2.1,x.2.2))) []) (R_ x.2.2) (0,0,0,0)).2.2.1,(So (So x.1.2 (R_ (BW ((x.1.1,x.1.2),x.2.1,x.2.2))) []) (R_ x.2.2) (0,0,0,0)).2.2.2))
@[irreducible] def gp(x:JS):Prop:=((Vp ((x.1.1,x.1.2),x.2.1,x.2.2))/\(((c_ (BW ((x.1.1,x.1.2),x.2.1,x.2.2)) 0)=true->True)/\((c_ (BW ((x.1.1,x.1.2),x.2.1,x.2.2)) 0)=false->((((0:Int)<=(BW ((x.1.1,x.1.2),x.2.1,x.2.2)))/\((BW ((x.1.1,x.1.2),x.2.1,x.2.2))<(((List.length x.1.2):Int))))/\(((R_ (BW ((x.1.1,x.1.2),x.2.1,x.2.2)))<(List.length x.1.2))/\((((0:Int)<=x.2.2)/\(x.2.2<(((List.length (So x.1.2 (R_ (BW ((x.1.1,x.1.2),x.2.1,x.2.2))) [])):Int))))/\((R_ x.2.2)<(List.length (So x.1.2 (R_ (BW ((x.1.1,x.1.2),x.2.1,x.2.2))) [])))))))))
attribute [irreducible] Ew Q1 L9 Ux Fh UL Pj Q2 UG Up Rn UO GJ Ra D7 Re Kw Q3 Uz Ut Pt UK FH Vk Rz Rt Vf U2
end
section
set_option maxRecDepth 8000
def yg:d4:=(A_ [1,0] 4 [E' 0] (A_ [1] 5 [C_ 1,D_ 0,L' 6,B_ (.bin .sub 5 7),G_ 1 (C_ 8)] (.seq [1] (A_ [10,1] 9 [C_ 1,M' 9 AL] (.cond 10 (A_ [4] 4 [E' (-1)] .ret) .skip)) (A_ [4] 11 [C_ 1,G_ 4 (C_ 11)] .ret))))
def KS:Fn:=⟨⟨2,12,0,true,[.tmp 4],yg⟩,[.one .Z' (.sl AQ),.one .Z' (.int .i64)],.one (.one .own (.int .i64))⟩
theorem xp:KS.A:=AM trivial
def Ez:LO->Int:=KS.V
def Rr:LO->Prop:=KS.O
theorem yr:KS.B:=AO trivial (by kernel_rfl) (λx=>by kernel_rfl)
def vO:d4:=(A_ [1,0] 4 [E' 0] (A_ [1,0] 6 [C_ 1,D_ 0,L' 7,B_ (.bin .sub 6 8),G_ 1 (C_ 9)] (.seq [1,0] (A_ [11,1,0] 10 [C_ 1,M' 10 AL] (.cond 11 (A_ [4] 4 [E' (-1)] .ret) .skip)) (.seq [1] (A_ [5,1,0] 5 [E' 0] (.block 0 (.loop [0,1,5] 1 (.seq [5,1,0] (A_ [15,5,1,0] 12 [C_ 5,D_ 0,L' 13,M' 12 14] (.cond 15 .skip (.exit 0))) (.seq [5,1,0] (.block 1 (A_ [5,1,0] 18 [D_ 0,C_ 5,N_ 1 18 19,O_ 20,C_ 1,I' KS [21,22],G_ 1 (C_ 23)] (A_ [25,5,1,0] 24 [C_ 1,M' 24 AL] (.cond 25 (A_ [4] 4 [E' (-1)] .ret) .skip)))) (At 16 [C_ 5,M_ 16 AA,G_ 5 (C_ 17)])))))) (A_ [4] 26 [C_ 1,G_ 4 (C_ 26)] .ret)))))
def KD:Fn:=⟨⟨2,27,0,true,[.tmp 4],vO⟩,[.one .Z' (.sl (.one (.sl AQ))),.one .Z' (.int .i64)],.one (.one .own (.int .i64))⟩
theorem vz:KD.A:=AM ⟨xp,trivial⟩
def Hr:Hb->Int:=KD.V
def UY:Hb->Prop:=KD.O
theorem wY:KD.B:=AO ⟨yr,trivial⟩ (by kernel_rfl) (λx=>by kernel_rfl)
def vW:d4:=(A_ [2,1] 2 [O' 0 7 0,G_ 4 (E' 0)] (A_ [2,1] 5 [J' 0 2,K_ 0 2 5,C_ 1,I' KJ [6,7],G_ 1 (C_ 8)] (.seq [2,1] (A_ [10,2,1] 9 [C_ 1,M' 9 AL] (.cond 10 (A_ [4] 4 [E' (-1)] .ret) .skip)) (A_ [2,1] 11 [J' 2 2,J_ 0 11,C_ 1,I' KD [12,13],G_ 1 (C_ 14)] (.seq [2,1] (A_ [16,2,1] 15 [C_ 1,M' 15 AL] (.cond 16 (A_ [4] 4 [E' (-1)] .ret) .skip)) (A_ [1] 17 [J' 4 2,J_ 0 17,C_ 1,I' KT [18,19],G_ 1 (C_ 20)] (.seq [1] (A_ [22,1] 21 [C_ 1,M' 21 AL] (.cond 22 (A_ [4] 4 [E' (-1)] .ret) .skip)) (A_ [4] 23 [C_ 1,G_ 4 (C_ 23)] .ret))))))))
def KA:Fn:=⟨⟨2,24,1,true,[.tmp 4],vW⟩,[.agg [Au,(.Z',.sl (.one (.sl AB))),(.Z',.sl (.one (.sl AQ))),Au,(.Z',.sl AU),Au,(.Z',.bool)],.one .Z' (.int .i64)],.one (.one .own (.int .i64))⟩
theorem ux:KA.A:=AM ⟨vG,vz,yt,trivial⟩
def Jr:LG->Int:=KA.V
def US:LG->Prop:=KA.O
theorem vB:KA.B:=AO ⟨vD,wY,xT,trivial⟩ (by kernel_rfl) (λx=>by kernel_rfl)
def zg:d4:=(A_ [2,1] 1 [O' 0 3 0,B_ (.e_ 1 [Ad,Ad,Ad])] (A_ [3,2,1] 3 [B_ (.e_ 2 [Ad,Ad,Ad])] (A_ [3,2,1] 4 [J' 0 1,C' (.d7 0 none 4),J' 0 3,E_ (.V_ 2 1 6 5)] (A_ [3,2,1] 7 [J' 1 1,C' (.d7 0 none 7),J' 1 3,E_ (.V_ 2 1 9 8)] (A_ [3,2] 10 [J' 2 1,C' (.d7 0 none 10),J' 2 3,E_ (.V_ 2 1 12 11)] (A_ [2] 13 [C' (.d7 2 (some 3) 3),E_ (.V_ 1 3 2 13)] .ret))))))
def K5:Fn:=⟨⟨1,14,3,true,[.cell 2 (some 3)],zg⟩,[.agg [Au,Au,Au]],.one (.agg [AN,AN,AN])⟩
theorem zG:K5.A:=AM trivial
def Jt:Ds->Int×Int×Int:=K5.V
def RA:Ds->Prop:=K5.O
theorem zD:K5.B:=AO trivial (by kernel_rfl) (λx=>by kernel_rfl)
def xh:d4:=(A_ [0] 2 [Q_ (.c .b_)] (A_ [3,0] 5 [D_ 0,L' 5,Q' AQ (.mkSlice 3 [Ad,Ad,Ad] 6),G_ 3 (C_ 7)] (.seq [3] (A_ [4,3,0] 4 [E' 0] (.block 0 (.loop [0,3,4] 1 (.seq [4,3,0] (A_ [11,4,3,0] 8 [C_ 4,D_ 0,L' 9,M' 8 10] (.cond 11 .skip (.exit 0))) (.seq [4,3,0] (.block 1 (At 14 [D_ 3,C_ 4,D_ 0,C_ 4,N_ 3 16 17,B_ (.i5 (some 3) 18),I' K5 [19],N_ 3 14 15,E_ (.f8 3 21 20)])) (At 12 [C_ 4,M_ 12 AA,G_ 4 (C_ 13)])))))) (A_ [2] 22 [C_ 3,G_ 2 (C_ 22)] .ret))))
def KX:Fn:=⟨⟨1,23,0,false,[.tmp 2],xh⟩,[.one .Z' (.sl AQ)],.one (.one .own (.sl AQ))⟩
theorem xN:KX.A:=AM ⟨zG,trivial⟩
def Py:Ch->List Ds:=KX.V
def Ru:Ch->Prop:=KX.O
theorem yz:KX.B:=AO ⟨zD,trivial⟩ (by kernel_rfl) (λx=>by kernel_rfl)
def uY:d4:=(A_ [0] 2 [Q_ (.c .b_)] (A_ [3,0] 5 [D_ 0,L' 5,Q' (.one (.sl AQ)) (.mkSlice 1 [.b_] 6),G_ 3 (C_ 7)] (.seq [3] (A_ [4,3,0] 4 [E' 0] (.block 0 (.loop [0,3,4] 1 (.seq [4,3,0] (A_ [11,4,3,0] 8 [C_ 4,D_ 0,L' 9,M' 8 10] (.cond 11 .skip (.exit 0))) (.seq [4,3,0] (.block 1 (At 14 [D_ 3,C_ 4,D_ 0,C_ 4,N_ 1 16 17,O_ 18,I' KX [19],N_ 1 14 15,E_ (.f8 1 21 20)])) (At 12 [C_ 4,M_ 12 AA,G_ 4 (C_ 13)])))))) (A_ [2] 22 [C_ 3,G_ 2 (C_ 22)] .ret))))
def KL:Fn:=⟨⟨1,23,0,false,[.tmp 2],uY⟩,[.one .Z' (.sl (.one (.sl AQ)))],.one (.one .own (.sl (.one (.sl AQ))))⟩
theorem xa:KL.A:=AM ⟨xN,trivial⟩
def Vg:Cz->List Ch:=KL.V
def UQ:Cz->Prop:=KL.O
theorem uF:KL.B:=AO ⟨yz,trivial⟩ (by kernel_rfl) (λx=>by kernel_rfl)
def uz:d4:=(A_ [2,1] 1 [O' 0 7 0,B_ (.e_ 1 [Ad,.b_,.b_,Ad,.b_,Ad,EO])] (A_ [3,2,1] 3 [B_ (.e_ 2 [Ad,.b_,.b_,Ad,.b_,Ad,EO])] (A_ [3,2,1] 4 [J' 0 1,K_ 0 2 4,I' KF [5],J' 0 3,E_ (.V_ 2 2 7 6)] (A_ [3,2,1] 8 [J' 2 1,J_ 0 8,I' KL [9],J' 2 3,E_ (.V_ 2 1 11 10)] (A_ [3,2,1] 12 [J' 3 1,C' (.d7 0 none 12),J' 3 3,E_ (.V_ 2 1 14 13)] (A_ [3,2,1] 15 [J' 4 1,J_ 0 15,I' KU [16],J' 4 3,E_ (.V_ 2 1 18 17)] (A_ [3,2,1] 19 [J' 5 1,C' (.d7 0 none 19),J' 5 3,E_ (.V_ 2 1 21 20)] (A_ [3,2] 22 [J' 6 1,C' (.d7 0 none 22),J' 6 3,E_ (.V_ 2 1 24 23)] (A_ [2] 25 [C' (.d7 2 (some 7) 3),E_ (.V_ 1 7 2 25)] .ret)))))))))
def FE:Fn:=⟨⟨1,26,3,false,[.cell 2 (some 7)],uz⟩,[.agg [Au,(.Z',.sl (.one (.sl AB))),(.Z',.sl (.one (.sl AQ))),Au,(.Z',.sl AU),Au,(.Z',.bool)]],.one (.agg [AN,(.own,.sl (.one (.sl AB))),(.own,.sl (.one (.sl AQ))),AN,(.own,.sl AU),AN,(.own,.bool)])⟩
theorem U8:FE.A:=AM ⟨wc,xa,yd,trivial⟩
def Ah:BS->Int×Cv×Cz×Int×Bg×Int×Bool:=FE.V
def Nq:BS->Prop:=FE.O
theorem UZ:FE.B:=AO ⟨wJ,uF,xw,trivial⟩ (by kernel_rfl) (λx=>by kernel_rfl)
def zK:d4:=(A_ [2,1] 2 [O' 0 7 0,G_ 4 (E' 0)] (.seq [] (A_ [5,2,1] 5 [E' 0] (.block 0 (.loop [1,2,5] 1 (.seq [5,2,1] (A_ [10,5,2,1] 6 [C_ 5,J' 4 2,J_ 0 7,L' 8,M' 6 9] (.cond 10 .skip (.exit 0))) (.seq [5,2,1] (.block 1 (A_ [20,5,2,1] 13 [J' 4 2,J_ 0 13,C_ 5,N_ 5 14 15,J' 0 16,O_ 17,C_ 1,Nm 18 19] (.cond 20 (A_ [4] 21 [C_ 5,G_ 4 (C_ 21)] .ret) .skip))) (At 11 [C_ 5,M_ 11 AA,G_ 5 (C_ 12)])))))) (A_ [4] 4 [E' (-1)] .ret)))
def Iv:Fn:=⟨⟨2,22,1,true,[.tmp 4],zK⟩,[.agg [Au,(.Z',.sl (.one (.sl AB))),(.Z',.sl (.one (.sl AQ))),Au,(.Z',.sl AU),Au,(.Z',.bool)],.one .Z' (.int .i64)],.one (.one .own (.int .i64))⟩
theorem yT:Iv.A:=AM trivial
def PB:LG->Int:=Iv.V
def VF:LG->Prop:=Iv.O
theorem zF:Iv.B:=AO trivial (by kernel_rfl) (λx=>by kernel_rfl)
def yW:d4:=(A_ [2,1] 2 [O' 0 7 0,G_ 4 (E' 0)] (.seq [] (A_ [10,9,8,1] 7 [J' 4 2,J_ 0 7,L' 8,E' 0] (.block 0 (.loop [1,8,9,10] 1 (A_ [11,10,9,8,1] 11 [M' 10 9] (.seq [10,9,8,1] (.cond 11 .skip (.exit 0)) (.seq [10,9,8,1] (.block 1 (A_ [10,9,8,6,5,1] 12 [C_ 10,N_ 5 8 10,C' (.i5 (some 5) 13),G_ 6 (B_ (.e_ 1 [Ad,Ad,Ad,Ad,Ad])),G_ 5 (C_ 12),E_ (.V_ 1 5 6 14)] (A_ [18,10,9,8,5,1] 15 [J' 0 6,J_ 1 15,C_ 1,Nm 16 17] (.cond 18 (A_ [4] 19 [C_ 5,G_ 4 (C_ 19)] .ret) .skip)))) (At 20 [M_ 10 AA,G_ 10 (C_ 20)]))))))) (A_ [4] 4 [E' (-1)] .ret)))
def It:Fn:=⟨⟨2,21,2,true,[.tmp 4],yW⟩,[.agg [Au,(.Z',.sl (.one (.sl AB))),(.Z',.sl (.one (.sl AQ))),Au,(.Z',.sl AU),Au,(.Z',.bool)],.one .Z' (.int .i64)],.one (.one .own (.int .i64))⟩
theorem zX:It.A:=AM trivial
def FI:LG->Int:=It.V
def Vx:LG->Prop:=It.O
theorem zH:It.B:=AO trivial (by kernel_rfl) (λx=>by kernel_rfl)
def y5:d4:=(A_ [3,2] 2 [O' 0 3 0,O' 1 3 1,Q_ As] (.seq [3,2] (A_ [9,3,2] 5 [J' 0 2,J_ 0 5,J' 0 3,J_ 1 7,N' 6 8] (.cond 9 (A_ [4] 4 [Q_ As] .ret) .skip)) (.seq [3,2] (A_ [14,3,2] 10 [J' 1 2,J_ 0 10,J' 1 3,J_ 1 12,N' 11 13] (.cond 14 (A_ [4] 4 [Q_ As] .ret) .skip)) (.seq [] (A_ [19] 15 [J' 2 2,J_ 0 15,J' 2 3,J_ 1 17,N' 16 18] (.cond 19 (A_ [4] 4 [Q_ As] .ret) .skip)) (A_ [4] 4 [Q_ AW] .ret)))))
def Lb:Fn:=⟨⟨2,20,2,true,[.tmp 4],y5⟩,[.agg [Au,Au,Au],.agg [Au,Au,Au]],.one (.one .own (.bool))⟩
theorem zT:Lb.A:=AM trivial
def La:pT->Bool:=Lb.V
def Rw:pT->Prop:=Lb.O
theorem yM:Lb.B:=AO trivial (by kernel_rfl) (λx=>by kernel_rfl)
def yh:d4:=(A_ [1,0] 4 [Q_ As] (.seq [1,0] (A_ [10,1,0] 6 [D_ 0,L' 6,D_ 1,L' 8,N' 7 9] (.cond 10 (A_ [4] 4 [Q_ As] .ret) .skip)) (.seq [] (A_ [5,1,0] 5 [E' 0] (.block 0 (.loop [0,1,5] 1 (.seq [5,1,0] (A_ [14,5,1,0] 11 [C_ 5,D_ 0,L' 12,M' 11 13] (.cond 14 .skip (.exit 0))) (.seq [5,1,0] (.block 1 (A_ [26,5,1,0] 17 [D_ 0,C_ 5,G' (rg 2) (N_ 3 17 18),G' (rg 3) (B_ (.i5 (some 3) 19)),D_ 1,C_ 5,G' [4,5] (N_ 3 21 22),G' [4,5,6] (B_ (.i5 (some 3) 23)),G' (rg 8) (I' Lb [20,24]),G' (rg 9) (P' 25)] (.cond 26 (A_ [4] 4 [Q_ As] .ret) .skip))) (At 15 [C_ 5,M_ 15 AA,G_ 5 (C_ 16)])))))) (A_ [4] 4 [Q_ AW] .ret))))
def KQ:Fn:=⟨⟨2,27,0,true,[.tmp 4],yh⟩,[.one .Z' (.sl AQ),.one .Z' (.sl AQ)],.one (.one .own (.bool))⟩
theorem xk:KQ.A:=AM ⟨zT,trivial⟩
def KO:pA->Bool:=KQ.V
def Rl:pA->Prop:=KQ.O
theorem xO:KQ.B:=AO ⟨yM,trivial⟩ (by kernel_rfl) (λx=>by kernel_rfl)
def wu:d4:=(A_ [1,0] 4 [Q_ As] (.seq [1,0] (A_ [10,1,0] 6 [D_ 0,L' 6,D_ 1,L' 8,N' 7 9] (.cond 10 (A_ [4] 4 [Q_ As] .ret) .skip)) (.seq [] (A_ [5,1,0] 5 [E' 0] (.block 0 (.loop [0,1,5] 1 (.seq [5,1,0] (A_ [14,5,1,0] 11 [C_ 5,D_ 0,L' 12,M' 11 13] (.cond 14 .skip (.exit 0))) (.seq [5,1,0] (.block 1 (A_ [26,5,1,0] 17 [D_ 0,C_ 5,G' (rg 2) (N_ 1 17 18),G' (rg 3) (O_ 19),D_ 1,C_ 5,G' [4,5] (N_ 1 21 22),G' [4,5,6] (O_ 23),G' (rg 8) (I' KQ [20,24]),G' (rg 9) (P' 25)] (.cond 26 (A_ [4] 4 [Q_ As] .ret) .skip))) (At 15 [C_ 5,M_ 15 AA,G_ 5 (C_ 16)])))))) (A_ [4] 4 [Q_ AW] .ret))))
def KM:Fn:=⟨⟨2,27,0,true,[.tmp 4],wu⟩,[.one .Z' (.sl (.one (.sl AQ))),.one .Z' (.sl (.one (.sl AQ)))],.one (.one .own (.bool))⟩
theorem u7:KM.A:=AM ⟨xk,trivial⟩
def Po:pj->Bool:=KM.V
def U1:pj->Prop:=KM.O
theorem uv:KM.B:=AO ⟨xO,trivial⟩ (by kernel_rfl) (λx=>by kernel_rfl)
def wR:d4:=(A_ [3,2] 2 [O' 0 7 0,O' 1 7 1,Q_ As] (.seq [3,2] (A_ [10,3,2] 5 [J' 0 2,K_ 0 2 5,J' 0 3,K_ 1 2 7,I' KE [6,8],P' 9] (.cond 10 (A_ [4] 4 [Q_ As] .ret) .skip)) (.seq [3,2] (A_ [16,3,2] 11 [J' 2 2,J_ 0 11,J' 2 3,J_ 1 13,I' KM [12,14],P' 15] (.cond 16 (A_ [4] 4 [Q_ As] .ret) .skip)) (.seq [3,2] (A_ [21,3,2] 17 [J' 3 2,J_ 0 17,J' 3 3,J_ 1 19,N' 18 20] (.cond 21 (A_ [4] 4 [Q_ As] .ret) .skip)) (.seq [3,2] (A_ [27,3,2] 22 [J' 4 2,J_ 0 22,J' 4 3,J_ 1 24,I' KW [23,25],P' 26] (.cond 27 (A_ [4] 4 [Q_ As] .ret) .skip)) (.seq [3,2] (A_ [32,3,2] 28 [J' 5 2,J_ 0 28,J' 5 3,J_ 1 30,N' 29 31] (.cond 32 (A_ [4] 4 [Q_ As] .ret) .skip)) (.seq [] (A_ [37] 33 [J' 6 2,J_ 0 33,J' 6 3,J_ 1 35,B_ (.eqB true 34 36)] (.cond 37 (A_ [4] 4 [Q_ As] .ret) .skip)) (A_ [4] 4 [Q_ AW] .ret))))))))
def EU:Fn:=⟨⟨2,38,2,true,[.tmp 4],wR⟩,[.agg [Au,(.Z',.sl (.one (.sl AB))),(.Z',.sl (.one (.sl AQ))),Au,(.Z',.sl AU),Au,(.Z',.bool)],.agg [Au,(.Z',.sl (.one (.sl AB))),(.Z',.sl (.one (.sl AQ))),Au,(.Z',.sl AU),Au,(.Z',.bool)]],.one (.one .own (.bool))⟩
theorem UM:EU.A:=AM ⟨uQ,u7,xf,trivial⟩
def DZ:pX->Bool:=EU.V
def Np:pX->Prop:=EU.O
theorem UJ:EU.B:=AO ⟨vE,uv,xe,trivial⟩ (by kernel_rfl) (λx=>by kernel_rfl)
end
section
set_option maxRecDepth 100000
theorem yl(x):Ez x=Y_ (c_ (iSub .i64 x.2 (U_ x.1)) 0) (-1) (iSub .i64 x.2 (U_ x.1)):=(KS.v x).trans (by kernel_rfl)
theorem ya(x):Rr x=True:=(KS.o x).trans (by kernel_rfl)
theorem Zk3(x:Hb)(e)(_:e=U_ x.1)(b)(_:b=iSub .i64 x.2 e)(f)(_:f=λ(x0:Ar)=>So x.1 (R_ x0.2) [])(c)(_:c=(λ(x0:Ar)=>W_ (c_ x0.2 e) (U' (c_ (Ez (f x0,x0.1)) 0))))(d)(_:d=(λ(x0:Ar)=>(Ez (f x0,x0.1),V' .i64 x0.2 1)))(a)(_:a=Al c d (b,0))(g)(_:g=List.length x.1)(h)(_:h=c_ b 0):Hr x=Y_ h (-1) (Y_ (c_ a.2 e) (-1) a.1)/\UY x=((h=true->True)/\(h=false->Z_ c d (λ(x0:Ar)=>(c_ x0.2 e=true->((0:Int)<=x0.2/\x0.2<(g:Int))/\R_ x0.2<g/\Rr (f x0,x0.1))/\(c_ x0.2 e=false->True)) (b,0))):=by subst_vars;exact⟨(KD.v x).trans (by kernel_rfl),(KD.o x).trans (by kernel_rfl)⟩
abbrev vY:=λx=>(Zk3 x _ rfl _ rfl _ rfl _ rfl _ rfl _ rfl _ rfl _ rfl).1
abbrev wg:=λx=>(Zk3 x _ rfl _ rfl _ rfl _ rfl _ rfl _ rfl _ rfl _ rfl).2
theorem Zk6(x:LG)(a)(_:a=Fh ((x.1.1,x.1.2.1),x.2))(b)(_:b=Hr (x.1.2.2.1,a))(c)(_:c=x.1.2.2.2.2.1)(d)(_:d=c_ a 0)(e)(_:e=c_ b 0):Jr x=Y_ d (-1) (Y_ e (-1) (Y_ (c_ (Me (c,b)) 0) (-1) (Me (c,b))))/\US x=(UL ((x.1.1,x.1.2.1),x.2)/\(d=true->True)/\(d=false->UY (x.1.2.2.1,a)/\(e=true->True)/\(e=false->Vi (c,b)))):=by subst_vars;exact⟨(KA.v x).trans (by kernel_rfl),(KA.o x).trans (by kernel_rfl)⟩
abbrev wx:=λx=>(Zk6 x _ rfl _ rfl _ rfl _ rfl _ rfl).1
abbrev vo:=λx=>(Zk6 x _ rfl _ rfl _ rfl _ rfl _ rfl).2
theorem yG(x):Jt x=(x.1,x.2.1,x.2.2):=(K5.v x).trans (by kernel_rfl)
theorem za(x):RA x=True:=(K5.o x).trans (by kernel_rfl)
theorem Zk9(x:Ch)(b)(_:b=λ(x0:LO)=>So x (R_ x0.2) (0,0,0))(a)(_:a=λ(x0:LO)=>Jt ((b x0).1,(b x0).2.1,(b x0).2.2))(c)(_:c=(λ(x0:LO)=>(lSet x0.1 (R_ x0.2) ((a x0).1,(a x0).2.1,(a x0).2.2),V' .i64 x0.2 1)))(d)(_:d=U_ x)(e)(_:e=(λ(x0:LO)=>c_ x0.2 d))(f)(_:f=lRep d (0,0,0)):Py x=(Al e c (f,0)).1/\Ru x=(((0:Int)<=d/\AD (Int.toNat d*3))/\Z_ e c (λ(x0:LO)=>(c_ x0.2 d=true->((0:Int)<=x0.2/\x0.2<(List.length x:Int))/\R_ x0.2<List.length x/\RA ((b x0).1,(b x0).2.1,(b x0).2.2)/\((0:Int)<=x0.2/\x0.2<(List.length x0.1:Int))/\R_ x0.2<List.length x0.1)/\(c_ x0.2 d=false->True)) (f,0)):=by subst_vars;exact⟨(KX.v x).trans (by kernel_rfl),(KX.o x).trans (by kernel_rfl)⟩
abbrev yu:=λx=>(Zk9 x _ rfl _ rfl _ rfl _ rfl _ rfl _ rfl).1
abbrev yq:=λx=>(Zk9 x _ rfl _ rfl _ rfl _ rfl _ rfl _ rfl).2
theorem Zlb(x:Cz)(a)(_:a=(λ(x0:Hb)=>(lSet x0.1 (R_ x0.2) (Py (So x (R_ x0.2) [])),V' .i64 x0.2 1)))(b)(_:b=U_ x)(c)(_:c=(λ(x0:Hb)=>c_ x0.2 b)):Vg x=(Al c a (lRep b [],0)).1/\UQ x=(((0:Int)<=b/\AD (Int.toNat b*1))/\Z_ c a (λ(x0:Hb)=>(c_ x0.2 b=true->((0:Int)<=x0.2/\x0.2<(List.length x:Int))/\R_ x0.2<List.length x/\Ru (So x (R_ x0.2) [])/\((0:Int)<=x0.2/\x0.2<(List.length x0.1:Int))/\R_ x0.2<List.length x0.1)/\(c_ x0.2 b=false->True)) (lRep b [],0)):=by subst_vars;exact⟨(KL.v x).trans (by kernel_rfl),(KL.o x).trans (by kernel_rfl)⟩
abbrev uM:=λx=>(Zlb x _ rfl _ rfl _ rfl).1
abbrev uI:=λx=>(Zlb x _ rfl _ rfl _ rfl).2
theorem wv(x):Ah x=((Rn (x.1,x.2.1)).1,(Rn (x.1,x.2.1)).2,Vg x.2.2.1,x.2.2.2.1,VL x.2.2.2.2.1,x.2.2.2.2.2.1,x.2.2.2.2.2.2):=(FE.v x).trans (by kernel_rfl)
theorem vI(x):Nq x=(UO (x.1,x.2.1)/\UQ x.2.2.1/\Vm x.2.2.2.2.1):=(FE.o x).trans (by kernel_rfl)
theorem Zlg(x:LG)(b)(_:b=x.1.2.2.2.2.1)(d)(_:d=U_ b)(a)(_:a=(λ(x0:Int)=>W_ (c_ x0 d) (U' (g9 (So b (R_ x0) (0,0,0,0,0)).1 x.2))))(c)(_:c=(λ(x0:Int)=>V' .i64 x0 1)):PB x=Y_ (c_ (Al a c 0) d) (Al a c 0) (-1)/\VF x=Z_ a c (λ(x0:Int)=>(c_ x0 d=true->((0:Int)<=x0/\x0<(List.length b:Int))/\R_ x0<List.length b)/\(c_ x0 d=false->True)) 0:=by subst_vars;exact⟨(Iv.v x).trans (by kernel_rfl),(Iv.o x).trans (by kernel_rfl)⟩
abbrev zh:=λx=>(Zlg x _ rfl _ rfl _ rfl _ rfl).1
abbrev zP:=λx=>(Zlg x _ rfl _ rfl _ rfl _ rfl).2
theorem Zlj(x:LG)(b)(_:b=x.1.2.2.2.2.1)(d)(_:d=U_ b)(a)(_:a=(λ(x0:Int)=>W_ (c_ x0 d) (U' (g9 (So b (R_ x0) (0,0,0,0,0)).1 x.2))))(c)(_:c=(λ(x0:Int)=>V' .i64 x0 1)):FI x=Y_ (c_ (Al a c 0) d) (Al a c 0) (-1)/\Vx x=Z_ a c (λ(x0:Int)=>(c_ x0 d=true->((0:Int)<=x0/\x0<(List.length b:Int))/\R_ x0<List.length b)/\(c_ x0 d=false->True)) 0:=by subst_vars;exact⟨(It.v x).trans (by kernel_rfl),(It.o x).trans (by kernel_rfl)⟩
abbrev yL:=λx=>(Zlj x _ rfl _ rfl _ rfl _ rfl).1
abbrev zu:=λx=>(Zlj x _ rfl _ rfl _ rfl _ rfl).2
theorem zq(x):La x=W_ (U' (i_ x.1.1 x.2.1)) (W_ (U' (i_ x.1.2.1 x.2.2.1)) (U' (i_ x.1.2.2 x.2.2.2))):=(Lb.v x).trans (by kernel_rfl)
theorem zE(x):Rw x=True:=(Lb.o x).trans (by kernel_rfl)
theorem Zlm(x:pA)(b)(_:b=λ(x0:Int)=>So x.1 (R_ x0) (0,0,0))(c)(_:c=λ(x0:Int)=>So x.2 (R_ x0) (0,0,0))(d)(_:d=U_ x.1)(a)(_:a=(λ(x0:Int)=>W_ (c_ x0 d) (U' (U' (La (((b x0).1,(b x0).2.1,(b x0).2.2),(c x0).1,(c x0).2.1,(c x0).2.2))))))(e)(_:e=i_ d (U_ x.2))(f)(_:f=(λ(x0:Int)=>V' .i64 x0 1))(g)(_:g=List.length x.1)(h)(_:h=List.length x.2):KO x=W_ (U' e) (U' (c_ (Al a f 0) d))/\Rl x=((e=true->True)/\(e=false->Z_ a f (λ(x0:Int)=>(c_ x0 d=true->((0:Int)<=x0/\x0<(g:Int))/\R_ x0<g/\((0:Int)<=x0/\x0<(h:Int))/\R_ x0<h/\Rw (((b x0).1,(b x0).2.1,(b x0).2.2),(c x0).1,(c x0).2.1,(c x0).2.2))/\(c_ x0 d=false->True)) 0)):=by subst_vars;exact⟨(KQ.v x).trans (by kernel_rfl),(KQ.o x).trans (by kernel_rfl)⟩
abbrev xi:=λx=>(Zlm x _ rfl _ rfl _ rfl _ rfl _ rfl _ rfl _ rfl _ rfl).1
abbrev xu:=λx=>(Zlm x _ rfl _ rfl _ rfl _ rfl _ rfl _ rfl _ rfl _ rfl).2
theorem Zlp(x:pj)(b)(_:b=U_ x.1)(a)(_:a=(λ(x0:Int)=>W_ (c_ x0 b) (U' (U' (KO (So x.1 (R_ x0) [],So x.2 (R_ x0) []))))))(c)(_:c=i_ b (U_ x.2))(d)(_:d=(λ(x0:Int)=>V' .i64 x0 1))(e)(_:e=List.length x.1)(f)(_:f=List.length x.2):Po x=W_ (U' c) (U' (c_ (Al a d 0) b))/\U1 x=((c=true->True)/\(c=false->Z_ a d (λ(x0:Int)=>(c_ x0 b=true->((0:Int)<=x0/\x0<(e:Int))/\R_ x0<e/\((0:Int)<=x0/\x0<(f:Int))/\R_ x0<f/\Rl (So x.1 (R_ x0) [],So x.2 (R_ x0) []))/\(c_ x0 b=false->True)) 0)):=by subst_vars;exact⟨(KM.v x).trans (by kernel_rfl),(KM.o x).trans (by kernel_rfl)⟩
abbrev vX:=λx=>(Zlp x _ rfl _ rfl _ rfl _ rfl _ rfl _ rfl).1
abbrev wL:=λx=>(Zlp x _ rfl _ rfl _ rfl _ rfl _ rfl _ rfl).2
theorem Zlr(x:pX)(a)(_:a=U' (Pt ((x.1.1,x.1.2.1),x.2.1,x.2.2.1)))(b)(_:b=U' (Po (x.1.2.2.1,x.2.2.2.1)))(c)(_:c=i_ x.1.2.2.2.1 x.2.2.2.2.1):DZ x=W_ (U' a) (W_ (U' b) (W_ (U' c) (W_ (U' (U' (VC (x.1.2.2.2.2.1,x.2.2.2.2.2.1)))) (W_ (U' (i_ x.1.2.2.2.2.2.1 x.2.2.2.2.2.2.1)) (U' (U' (bIff x.1.2.2.2.2.2.2 x.2.2.2.2.2.2.2)))))))/\Np x=(UK ((x.1.1,x.1.2.1),x.2.1,x.2.2.1)/\(a=true->True)/\(a=false->U1 (x.1.2.2.1,x.2.2.2.1)/\(b=true->True)/\(b=false->(c=true->True)/\(c=false->Vh (x.1.2.2.2.2.1,x.2.2.2.2.2.1))))):=by subst_vars;exact⟨(EU.v x).trans (by kernel_rfl),(EU.o x).trans (by kernel_rfl)⟩
abbrev wD:=λx=>(Zlr x _ rfl _ rfl _ rfl).1
abbrev w9:=λx=>(Zlr x _ rfl _ rfl _ rfl).2
attribute [irreducible] Ez Rr Hr UY Jr US Jt RA Py Ru Vg UQ Ah Nq PB VF FI Vx La Rw KO Rl Po U1 DZ Np
end
section
set_option maxRecDepth 8000
def rA:d4:=(A_ [3,2] 2 [O' 0 2 0,O' 1 2 1,Q_ As] (.seq [3,2] (A_ [19,3,2] 6 [J' 0 2,J_ 0 6,J' 0 3,J_ 1 8,N' 7 9,C_ 10,F' 11 (J' 1 2),F' 11 (J_ 0 12),F' 11 (L' 13),F' 11 (J' 1 3),F' 11 (J_ 1 15),F' 11 (L' 16),F' 11 (N' 14 17),L_ 11 AW 18] (.cond 19 (A_ [4] 4 [Q_ As] .ret) .skip)) (.seq [] (A_ [5,3,2] 5 [E' 0] (.block 0 (.loop [2,3,5] 1 (.seq [5,3,2] (A_ [24,5,3,2] 20 [C_ 5,J' 1 2,J_ 0 21,L' 22,M' 20 23] (.cond 24 .skip (.exit 0))) (.seq [5,3,2] (.block 1 (A_ [37,5,3,2] 27 [J' 1 2,G' (rg 1) (J_ 0 27),C_ 5,G' (rg 3) (N_ 1 28 29),G' (rg 4) (O_ 30),J' 1 3,G' [5] (J_ 1 32),C_ 5,G' [5,6,7] (N_ 1 33 34),G' [5,6,7,8] (O_ 35),G' (rg 10) (N' 31 36)] (.cond 37 (A_ [4] 4 [Q_ As] .ret) .skip))) (At 25 [C_ 5,M_ 25 AA,G_ 5 (C_ 26)])))))) (A_ [4] 4 [Q_ AW] .ret))))
def Kd:Fn:=⟨⟨2,38,2,true,[.tmp 4],rA⟩,[.agg [Au,(.Z',.sl (.one (.int .i64)))],.agg [Au,(.Z',.sl (.one (.int .i64)))]],.one (.one .own (.bool))⟩
theorem rS:Kd.A:=AM trivial
def O9:Ox->Bool:=Kd.V
def Uk:Ox->Prop:=Kd.O
theorem rU:Kd.B:=AO trivial (by kernel_rfl) (λx=>by kernel_rfl)
def uZ:d4:=(A_ [1,0] 4 [Q_ As] (.seq [1,0] (A_ [10,1,0] 6 [D_ 0,L' 6,D_ 1,L' 8,N' 7 9] (.cond 10 (A_ [4] 4 [Q_ As] .ret) .skip)) (.seq [] (A_ [13,12,1,0] 11 [D_ 0,L' 11,E' 0] (.block 0 (.loop [0,1,12,13] 1 (A_ [14,13,12,1,0] 14 [M' 13 12] (.seq [13,12,1,0] (.cond 14 .skip (.exit 0)) (.seq [13,12,1,0] (.block 1 (A_ [13,12,5,1,0] 15 [C_ 13,G_ 5 (C_ 15)] (A_ [24,13,12,1,0] 16 [D_ 0,C_ 5,G' (rg 2) (N_ 1 16 17),G' (rg 3) (O_ 18),D_ 1,C_ 5,G' [4,5] (N_ 1 20 21),G' [4,5,6] (O_ 22),G' (rg 8) (N' 19 23)] (.cond 24 (A_ [4] 4 [Q_ As] .ret) .skip)))) (At 25 [M_ 13 AA,G_ 13 (C_ 25)]))))))) (A_ [4] 4 [Q_ AW] .ret))))
def Ip:Fn:=⟨⟨2,26,0,true,[.tmp 4],uZ⟩,[.one .Z' (.sl (.one (.int .i64))),.one .Z' (.sl (.one (.int .i64)))],.one (.one .own (.bool))⟩
theorem vR:Ip.A:=AM trivial
def Zn:Yv->Bool:=Ip.V
def Y3:Yv->Prop:=Ip.O
theorem u9:Ip.B:=AO trivial (by kernel_rfl) (λx=>by kernel_rfl)
def rF:d4:=(A_ [3,2] 2 [O' 0 2 0,O' 1 2 1,Q_ As] (A_ [4] 5 [J' 0 2,J_ 0 5,J' 0 3,J_ 1 7,Nm 6 8,C_ 9,F_ 10 (J' 1 2),F_ 10 (J_ 0 11),F_ 10 (J' 1 3),F_ 10 (J_ 1 13),F_ 10 (I' Ip [12,14]),L_ 10 15 As,G_ 4 (C_ 16)] .ret))
def Hp:Fn:=⟨⟨2,17,2,true,[.tmp 4],rF⟩,[.agg [Au,(.Z',.sl (.one (.int .i64)))],.agg [Au,(.Z',.sl (.one (.int .i64)))]],.one (.one .own (.bool))⟩
theorem sk:Hp.A:=AM ⟨vR,trivial⟩
def F7:Ox->Bool:=Hp.V
def Nj:Ox->Prop:=Hp.O
theorem se:Hp.B:=AO ⟨u9,trivial⟩ (by kernel_rfl) (λx=>by kernel_rfl)
def yU:d4:=(A_ [1,0] 4 [Q_ As] (.seq [1,0] (A_ [10,1,0] 6 [D_ 0,L' 6,D_ 1,L' 8,N' 7 9] (.cond 10 (A_ [4] 4 [Q_ As] .ret) .skip)) (.seq [] (A_ [5,1,0] 5 [E' 0] (.block 0 (.loop [0,1,5] 1 (.seq [5,1,0] (A_ [14,5,1,0] 11 [C_ 5,D_ 0,L' 12,M' 11 13] (.cond 14 .skip (.exit 0))) (.seq [5,1,0] (.block 1 (A_ [25,5,1,0] 17 [D_ 0,C_ 5,G' (rg 2) (N_ 1 17 18),G' (rg 3) (O_ 19),D_ 1,C_ 5,G' [4,5] (N_ 1 21 22),G' [4,5,6] (O_ 23),G' (rg 8) (N' 20 24)] (.cond 25 (A_ [4] 4 [Q_ As] .ret) .skip))) (At 15 [C_ 5,M_ 15 AA,G_ 5 (C_ 16)])))))) (A_ [4] 4 [Q_ AW] .ret))))
def K7:Fn:=⟨⟨2,26,0,true,[.tmp 4],yU⟩,[.one .Z' (.sl (.one (.int .i64))),.one .Z' (.sl (.one (.int .i64)))],.one (.one .own (.bool))⟩
theorem zc:K7.A:=AM trivial
def VS:Yv->Bool:=K7.V
def Vw:Yv->Prop:=K7.O
theorem zv:K7.B:=AO trivial (by kernel_rfl) (λx=>by kernel_rfl)
def wI:d4:=(A_ [3,2] 2 [O' 0 2 0,O' 1 2 1,Q_ As] (.seq [3,2] (A_ [9,3,2] 5 [J' 0 2,J_ 0 5,J' 0 3,J_ 1 7,N' 6 8] (.cond 9 (A_ [4] 4 [Q_ As] .ret) .skip)) (.seq [] (A_ [15] 10 [J' 1 2,J_ 0 10,J' 1 3,J_ 1 12,I' K7 [11,13],P' 14] (.cond 15 (A_ [4] 4 [Q_ As] .ret) .skip)) (A_ [4] 4 [Q_ AW] .ret))))
def KG:Fn:=⟨⟨2,16,2,true,[.tmp 4],wI⟩,[.agg [Au,(.Z',.sl (.one (.int .i64)))],.agg [Au,(.Z',.sl (.one (.int .i64)))]],.one (.one .own (.bool))⟩
theorem we:KG.A:=AM ⟨zc,trivial⟩
def Kz:Ox->Bool:=KG.V
def Rf:Ox->Prop:=KG.O
theorem vM:KG.B:=AO ⟨zv,trivial⟩ (by kernel_rfl) (λx=>by kernel_rfl)
end
section
set_option maxRecDepth 100000
theorem Zlu(x:Ox)(c)(_:c=U_ x.1.2)(a)(_:a=w_ (i_ x.1.1 x.2.1) (i_ c (U_ x.2.2)))(b)(_:b=(λ(x0:Int)=>W_ (c_ x0 c) (U' (i_ (So x.1.2 (R_ x0) 0) (So x.2.2 (R_ x0) 0)))))(d)(_:d=(λ(x0:Int)=>V' .i64 x0 1))(e)(_:e=List.length x.1.2)(f)(_:f=List.length x.2.2):O9 x=W_ (U' a) (U' (c_ (Al b d 0) c))/\Uk x=((a=true->True)/\(a=false->Z_ b d (λ(x0:Int)=>(c_ x0 c=true->((0:Int)<=x0/\x0<(e:Int))/\R_ x0<e/\((0:Int)<=x0/\x0<(f:Int))/\R_ x0<f)/\(c_ x0 c=false->True)) 0)):=by subst_vars;exact⟨(Kd.v x).trans (by kernel_rfl),(Kd.o x).trans (by kernel_rfl)⟩
abbrev sG:=λx=>(Zlu x _ rfl _ rfl _ rfl _ rfl _ rfl _ rfl).1
abbrev rQ:=λx=>(Zlu x _ rfl _ rfl _ rfl _ rfl _ rfl _ rfl).2
theorem Zlx(x:Yv)(b)(_:b=U_ x.1)(a)(_:a=(λ(x0:Int)=>W_ (c_ x0 b) (U' (i_ (So x.1 (R_ x0) 0) (So x.2 (R_ x0) 0)))))(c)(_:c=i_ b (U_ x.2))(d)(_:d=(λ(x0:Int)=>V' .i64 x0 1))(e)(_:e=List.length x.1)(f)(_:f=List.length x.2):Zn x=W_ (U' c) (U' (c_ (Al a d 0) b))/\Y3 x=((c=true->True)/\(c=false->Z_ a d (λ(x0:Int)=>(c_ x0 b=true->((0:Int)<=x0/\x0<(e:Int))/\R_ x0<e/\((0:Int)<=x0/\x0<(f:Int))/\R_ x0<f)/\(c_ x0 b=false->True)) 0)):=by subst_vars;exact⟨(Ip.v x).trans (by kernel_rfl),(Ip.o x).trans (by kernel_rfl)⟩
abbrev gh:=λx=>(Zlx x _ rfl _ rfl _ rfl _ rfl _ rfl _ rfl).1
abbrev vA:=λx=>(Zlx x _ rfl _ rfl _ rfl _ rfl _ rfl _ rfl).2
theorem fH(x):F7 x=W_ (g9 x.1.1 x.2.1) (Zn (x.1.2,x.2.2)):=(Hp.v x).trans (by kernel_rfl)
theorem rz(x):Nj x=((g9 x.1.1 x.2.1=true->Y3 (x.1.2,x.2.2))/\(g9 x.1.1 x.2.1=false->True)):=(Hp.o x).trans (by kernel_rfl)
theorem ZlC(x:Yv)(b)(_:b=U_ x.1)(a)(_:a=(λ(x0:Int)=>W_ (c_ x0 b) (U' (i_ (So x.1 (R_ x0) 0) (So x.2 (R_ x0) 0)))))(c)(_:c=i_ b (U_ x.2))(d)(_:d=(λ(x0:Int)=>V' .i64 x0 1))(e)(_:e=List.length x.1)(f)(_:f=List.length x.2):VS x=W_ (U' c) (U' (c_ (Al a d 0) b))/\Vw x=((c=true->True)/\(c=false->Z_ a d (λ(x0:Int)=>(c_ x0 b=true->((0:Int)<=x0/\x0<(e:Int))/\R_ x0<e/\((0:Int)<=x0/\x0<(f:Int))/\R_ x0<f)/\(c_ x0 b=false->True)) 0)):=by subst_vars;exact⟨(K7.v x).trans (by kernel_rfl),(K7.o x).trans (by kernel_rfl)⟩
abbrev zY:=λx=>(ZlC x _ rfl _ rfl _ rfl _ rfl _ rfl _ rfl).1
abbrev zl:=λx=>(ZlC x _ rfl _ rfl _ rfl _ rfl _ rfl _ rfl).2
theorem uE(x):Kz x=W_ (U' (i_ x.1.1 x.2.1)) (U' (U' (VS (x.1.2,x.2.2)))):=(KG.v x).trans (by kernel_rfl)
theorem uP(x):Rf x=((i_ x.1.1 x.2.1=true->True)/\(i_ x.1.1 x.2.1=false->Vw (x.1.2,x.2.2))):=(KG.o x).trans (by kernel_rfl)
attribute [irreducible] O9 Uk Zn Y3 F7 Nj VS Vw Kz Rf
end
section
set_option maxRecDepth 8000
def zn:d4:=(A_ [3,0] 3 [O' 0 3 1,E' 0] (.seq [] (A_ [5,3,0] 5 [E' 0] (.block 0 (.loop [0,3,5] 1 (.seq [5,3,0] (A_ [9,5,3,0] 6 [C_ 5,D_ 0,L' 7,M' 6 8] (.cond 9 .skip (.exit 0))) (.seq [5,3,0] (.block 1 (A_ [31,5,3,0] 12 [D_ 0,C_ 5,G' (rg 2) (N_ 5 12 13),G' (rg 3) (J' 1 14),G' (rg 4) (J' 1 15),G' (rg 5) (O_ 16),J' 1 3,G' [6] (J_ 0 18),G' (rg 8) (Nm 17 19),G' (rg 9) (Q_ 20),F_ 21 (G' [0,1,2,3,4,5,6,7,8,9] (I_ (.a true (.mv 0) none))),F_ 21 (G' [0,1,2,3,4,5,6,7,8,9] (I_ (.a false (.mv 5) none))),F_ 21 (G' [0,1,2,3,4,5,6,7,8,9,10,11] (I_ (.a false (.p_ 5 22 23) none))),F_ 21 (G' [0,1,2,3,4,5,6,7,8,9,10,11,12] (I_ (.a false (.f5 1 24) none))),F_ 21 (G' [0,1,2,3,4,5,6,7,8,9,10,11,12,13] (I_ (.a false (.f5 2 25) none))),F_ 21 (G' [0,1,2,3,4,5,6,7,8,9,10,11,12,13,14] (I_ (.a false (.i5 none 26) none))),F_ 21 (G' [0,1,2,3,4,5,6,7,8,9] (I_ (.a false (.f5 2 3) none))),F_ 21 (G' [0,1,2,3,4,5,6,7,8,9,16] (I_ (.a false (.d7 0 none 28) none))),F_ 21 (G' [0,1,2,3,4,5,6,7,8,9,10,11,12,13,14,15,16,17] (I_ (.a false (.bin .eql 27 29) none))),G' (rg 19) (L_ 21 30 As)] (.cond 31 (A_ [4] 32 [C_ 5,G_ 4 (C_ 32)] .ret) .skip))) (At 10 [C_ 5,M_ 10 AA,G_ 5 (C_ 11)])))))) (A_ [4] 4 [E' (-1)] .ret)))
def Is:Fn:=⟨⟨2,33,1,true,[.tmp 4],zn⟩,[.one .Z' (.sl AU),.agg [Au,Au,Au]],.one (.one .own (.int .i64))⟩
theorem gT:Is.A:=AM trivial
def CG:pV->Int:=Is.V
def Nv:pV->Prop:=Is.O
theorem gR:Is.B:=AO trivial (by kernel_rfl) (λx=>by kernel_rfl)
def wj:d4:=(A_ [2,1] 1 [O' 0 3 0,B_ (.e_ 1 [Ad,Ad,Ad,Ad])] (A_ [2] 3 [J' 1 1,C' (.d7 0 none 3),J' 2 1,C' (.d7 0 none 5),B_ (.build [Ad,Ad,Ad,Ad] [(0,1,(.c (.int .i64 2))),(1,1,4),(2,1,6)]),E_ (.V_ 1 4 2 7)] .ret))
def FF:Fn:=⟨⟨1,8,2,true,[.cell 2 (some 4)],wj⟩,[.agg [Au,Au,Au]],.one (.agg [AN,AN,AN,AN])⟩
theorem Zg:FF.A:=AM trivial
def Be:Ds->Int×Int×Int×Int:=FF.V
def Q8:Ds->Prop:=FF.O
theorem Y8:FF.B:=AO trivial (by kernel_rfl) (λx=>by kernel_rfl)
def uc:d4:=(A_ [1,0] 4 [Q_ (.c .b_)] (.seq [4] (.region [on 1 6 0,om 2 7 1,xA 3 8 (.slice 5 6 none (some 7)) [1,2],on 5 10 0,om 6 11 1,xA 7 12 (.bin .add 11 AA) [6],xA 8 13 (.slice 5 10 (some 12) none) [5,6,7],⟨0,some 5,.a false (.d5 5 0 [] []) (some AU),none,[]⟩,xA 4 9 (.app 5 5 8) (rg 4),xA 9 14 (.app 5 9 13) (rg 9),xA 10 4 (.mv 14) (rg 10)]) .ret))
def Ih:Fn:=⟨⟨2,15,0,false,[.tmp 4],uc⟩,[.one .Z' (.sl AU),.one .Z' (.int .i64)],.one (.one .own (.sl AU))⟩
theorem fM:Ih.A:=AM trivial
def ER:DR->List Dc:=Ih.V
def O8:DR->Prop:=Ih.O
theorem fN:Ih.B:=AO trivial (by kernel_rfl) (λx=>by kernel_rfl)
def xq:d4:=(A_ [0] 2 [Q_ As] (A_ [3,0] 7 [Q' AU (.d5 5 0 [] []),G_ 3 (C_ 7)] (.seq [3,0] (A_ [4,3,0] 4 [E' 0] (.block 0 (.loop [0,3,4] 1 (.seq [4,3,0] (A_ [11,4,3,0] 8 [C_ 4,D_ 0,L' 9,M' 8 10] (.cond 11 .skip (.exit 0))) (.seq [4,3,0] (.block 1 (A_ [5,4,3,0] 14 [D_ 0,C_ 4,N_ 3 14 15,C' (.i5 (some 3) 16),G_ 5 (B_ (.e_ 0 [Ad,Ad,Ad])),E_ (.V_ 0 3 5 17)] (A_ [6,5,4,3,0] 18 [D_ 3,K_ 0 3 5,I' Is [18,19],G_ 6 (C_ 20)] (.seq [6,5,4,3,0] (A_ [38,6,5,4,3,0] 21 [J' 0 5,J_ 0 21,I' BR [22,AL,(.c (.int .i64 2))],P' 23,C_ 24,F' 25 (K_ 0 3 5),F' 25 (I' FF [26]),F' 25 (I' Ef [27]),F' 25 (P' 28),L_ 25 AW 29,C_ 30,F' 31 (J' 0 5),F' 31 (J_ 0 32),F' 31 (Nm 33 (.c (.int .i64 2))),F' 31 (Q_ 6),F' 31 (B_ (.bin .geq 35 AL)),F' 31 (B_ (.eqB true 34 36)),L_ 31 AW 37] (.cond 38 (A_ [2] 2 [Q_ As] .ret) .skip)) (A_ [40,6,5,4,3,0] 39 [J' 0 5,J_ 0 39] (.block 2 (A_ [41,40,6,5,4,3,0] 42 [Nm 40 AA,G_ 41 (C_ 42)] (.cond 41 (At 43 [C_ 3,K_ 0 3 5,I' FF [44],B_ (.build [Ad,Ad,Ad,Ad,Ad] [(1,4,45)]),Q' AU (.d5 5 1 [Ad,Ad,Ad,Ad,Ad] [(0,5,46)]),B_ (.app 5 43 47),G_ 3 (C_ 48)]) (A_ [49,6,4,3,0] 50 [Nm 40 (.c (.int .i64 2)),G_ 49 (C_ 50)] (.cond 49 (At 51 [D_ 3,C_ 6,I' Ih [51,52],G_ 3 (C_ 53)]) .skip)))))))))) (At 12 [C_ 4,M_ 12 AA,G_ 4 (C_ 13)])))))) (A_ [2] 54 [D_ 0,L' 54,B_ (.bin .leq 55 (.c (.int .i64 8))),C_ 56,F_ 57 (I_ (.a true (.mv 3) none)),F_ 57 (L' 58),F_ 57 (Nm 59 AL),L_ 57 60 As,G_ 2 (C_ 61)] .ret))))
def GN:Fn:=⟨⟨1,62,1,true,[.tmp 2],xq⟩,[.one .Z' (.sl AQ)],.one (.one .own (.bool))⟩
theorem gO:GN.A:=AM ⟨gT,Gb,Zg,Vb,Zg,fM,trivial⟩
def GL:Ch->Bool:=GN.V
def Pq:Ch->Prop:=GN.O
theorem gA:GN.B:=AO ⟨gR,F9,Y8,U7,Y8,fN,trivial⟩ (by kernel_rfl) (λx=>by kernel_rfl)
def zC:d4:=(A_ [3,0] 3 [O' 0 2 1,E' 0] (.seq [] (A_ [9,8,7,3] 7 [D_ 0,L' 7,E' 0] (.block 0 (.loop [3,7,8,9] 1 (A_ [10,9,8,7,3] 10 [M' 9 8] (.seq [9,8,7,3] (.cond 10 .skip (.exit 0)) (.seq [9,8,7,3] (.block 1 (A_ [9,8,7,6,5,3] 11 [C_ 9,N_ 2 7 9,C' (.i5 (some 2) 12),G_ 6 (B_ (.e_ 1 [Ad,Ad])),G_ 5 (C_ 11),E_ (.V_ 1 2 6 13)] (A_ [16,9,8,7,5,3] 14 [K_ 1 2 6,K_ 0 2 3,B_ (.eqA 2 false 14 15)] (.cond 16 (A_ [4] 17 [C_ 5,G_ 4 (C_ 17)] .ret) .skip)))) (At 18 [M_ 9 AA,G_ 9 (C_ 18)]))))))) (A_ [4] 4 [E' (-1)] .ret)))
def Iw:Fn:=⟨⟨2,19,2,true,[.tmp 4],zC⟩,[.one .Z' (.sl (.cons (.int .i64) (.one (.int .i64)))),.agg [Au,Au]],.one (.one .own (.int .i64))⟩
theorem gV:Iw.A:=AM trivial
def Bp:pS->Int:=Iw.V
def Pv:pS->Prop:=Iw.O
theorem gQ:Iw.B:=AO trivial (by kernel_rfl) (λx=>by kernel_rfl)
def xj:d4:=(A_ [0] 2 [Q_ As] (.seq [0] (A_ [10,0] 8 [D_ 0,L' 8,B_ (.bin .gtr 9 (.c (.int .i64 8)))] (.cond 10 (A_ [2] 2 [Q_ As] .ret) .skip)) (A_ [3,0] 3 [I_ (.aw [(0,2)] false (.mv (.c .b_)) none)] (.seq [3] (A_ [13,12,11,3] 11 [D_ 0,L' 11,E' 0] (.block 0 (.loop [3,11,12,13] 1 (A_ [14,13,12,11,3] 14 [M' 13 12] (.seq [13,12,11,3] (.cond 14 .skip (.exit 0)) (.seq [13,12,11,3] (.block 1 (A_ [13,12,11,5,3] 15 [N_ 3 11 13,C' (.i5 (some 3) 15),G_ 5 (B_ (.e_ 0 [Ad,Ad,Ad])),E_ (.V_ 0 3 5 16)] (A_ [13,12,11,6,5,3] 17 [J' 1 5,C' (.d7 0 none 17),J' 2 5,C' (.d7 0 none 19),B_ (.build [Ad,Ad] [(0,1,18),(1,1,20)]),G_ 6 (B_ (.e_ 1 [Ad,Ad])),E_ (.V_ 1 2 6 21)] (A_ [13,12,11,7,6,5,3] 22 [D_ 3,K_ 1 2 6,I' Iw [22,23],G_ 7 (C_ 24)] (.seq [13,12,11,7,6,5,3] (A_ [31,13,12,11,7,6,5,3] 25 [J' 1 5,C' (.d7 0 none 25),J' 2 5,C' (.d7 0 none 27),B_ (.build [Ad,Ad,Ad,Ad] [(0,1,(.c (.int .i64 2))),(1,1,26),(2,1,28)]),I' ET [29],P' 30] (.cond 31 (A_ [2] 2 [Q_ As] .ret) .skip)) (A_ [33,13,12,11,7,6,5,3] 32 [J' 0 5,J_ 0 32] (.block 2 (.seq [34,33,13,12,11,7,6,5,3] (A_ [34,33,13,12,11,7,6,5,3] 35 [Nm 33 AL,G_ 34 (C_ 35)] (.cond 34 .skip (At 36 [Nm 33 AA,G_ 34 (C_ 36)]))) (.cond 34 (.seq [13,12,11,6,5,3] (A_ [38,13,12,11,6,5,3] 37 [C_ 7,B_ (.bin .geq 37 AL)] (.cond 38 (A_ [2] 2 [Q_ As] .ret) .skip)) (A_ [41,13,12,11,6,3] 39 [J' 0 5,J_ 0 39,Nm 40 AA] (.cond 41 (At 42 [C_ 3,C' (.d7 1 (some 2) 6),Q' (.cons (.int .i64) (.one (.int .i64))) (.d5 2 1 [Ad,Ad] [(0,2,43)]),I_ (.aw [(0,2)] false (.app 2 42 44) none),G_ 3 (I_ (.aw [(0,2)] false (.mv 45) none))]) .skip))) (A_ [46,13,12,11,7,3] 47 [Nm 33 (.c (.int .i64 2)),G_ 46 (C_ 47)] (.cond 46 (.seq [13,12,11,7,3] (A_ [49,13,12,11,7,3] 48 [C_ 7,M' 48 AL] (.cond 49 (A_ [2] 2 [Q_ As] .ret) .skip)) (At 50 [D_ 3,C_ 7,G' (rg 2) (B_ (.slice 2 50 none (some 51))),D_ 3,C_ 7,G' [4] (M_ 54 AA),G' [3,4,5] (B_ (.slice 2 53 (some 55) none)),G' [0,1,2,3,4,5,6] (I_ (.aw [(0,2)] false (.app 2 52 56) none)),G_ 3 (G' [0,1,2,3,4,5,6,7] (I_ (.aw [(0,2)] false (.mv 57) none)))])) (A_ [2] 2 [Q_ As] .ret)))))))))))) (At 58 [M_ 13 AA,G_ 13 (C_ 58)]))))))) (A_ [2] 59 [D_ 3,L' 59,Nm 60 AL,G_ 2 (C_ 61)] .ret)))))
def GM:Fn:=⟨⟨1,62,2,true,[.tmp 2],xj⟩,[.one .Z' (.sl AQ)],.one (.one .own (.bool))⟩
theorem gK:GM.A:=AM ⟨gV,UR,trivial⟩
def Iq:Ch->Bool:=GM.V
def Ps:Ch->Prop:=GM.O
theorem gx:GM.B:=AO ⟨gQ,U3,trivial⟩ (by kernel_rfl) (λx=>by kernel_rfl)
end
section
set_option maxRecDepth 100000
theorem ZlH(x:pV)(b)(_:b=λ(x0:Int)=>g9 (So x.1 (R_ x0) (0,0,0,0,0)).2.2.1 x.2.2.1)(e)(_:e=U_ x.1)(a)(_:a=(λ(x0:Int)=>W_ (c_ x0 e) (U' (W_ (b x0) (g9 (So x.1 (R_ x0) (0,0,0,0,0)).2.2.2.1 x.2.2.2)))))(c)(_:c=(λ(x0:Int)=>V' .i64 x0 1))(d)(_:d=List.length x.1):CG x=Y_ (c_ (Al a c 0) e) (Al a c 0) (-1)/\Nv x=Z_ a c (λ(x0:Int)=>(c_ x0 e=true->((0:Int)<=x0/\x0<(d:Int))/\R_ x0<d/\(b x0=true->((0:Int)<=x0/\x0<(d:Int))/\R_ x0<d)/\(b x0=false->True))/\(c_ x0 e=false->True)) 0:=by subst_vars;exact⟨(Is.v x).trans (by kernel_rfl),(Is.o x).trans (by kernel_rfl)⟩
abbrev yY:=λx=>(ZlH x _ rfl _ rfl _ rfl _ rfl _ rfl).1
abbrev yK:=λx=>(ZlH x _ rfl _ rfl _ rfl _ rfl _ rfl).2
theorem Rg(x):Be x=(2,x.2.1,x.2.2,0):=(FF.v x).trans (by kernel_rfl)
theorem gi(x):Q8 x=True:=(FF.o x).trans (by kernel_rfl)
theorem UF(x):ER x=i9 (i9 [] (lSub x.1 0 (R_ x.2))) (lSub x.1 (R_ (V' .i64 x.2 1)) (lN x.1)):=(Ih.v x).trans (by kernel_rfl)
theorem ZlI(x:DR)(a)(_:a=List.length x.1)(b)(_:b=V' .i64 x.2 1)(c)(_:c=R_ x.2):O8 x=(((0:Int)<=x.2/\0<=c/\c<=a/\0<a)/\((0:Int)<=b/\R_ b<=lN x.1/\lN x.1<=a/\0<a)/\AD ((List.length ([]:List Dc)+List.length (lSub x.1 0 c))*5)/\AD ((List.length (i9 [] (lSub x.1 0 c))+List.length (lSub x.1 (R_ b) (lN x.1)))*5)):=by subst_vars;exact(Ih.o x).trans (by kernel_rfl)
abbrev ug:=λx=>ZlI x _ rfl _ rfl _ rfl
theorem ZlM(x:Ch)(a)(_:a=λ(x0:DR)=>So x (R_ x0.2) (0,0,0))(b)(_:b=λ(x0:DR)=>Be ((a x0).1,(a x0).2.1,(a x0).2.2))(f)(_:f=λ(x0:DR)=>CG (x0.1,(a x0).1,(a x0).2.1,(a x0).2.2))(h)(_:h=λ(x0:DR)=>U' (BM ((a x0).1,0,2)))(c)(_:c=λ(x0:DR)=>w_ (h x0) (w_ (U' (D6 ((b x0).1,(b x0).2.1,(b x0).2.2.1,(b x0).2.2.2))) (U' (bIff (g9 (a x0).1 2) (iGe (f x0) 0)))))(d)(_:d=(λ(x0:DR)=>(Y_ (g9 (a x0).1 1) (i9 x0.1 [(0,(b x0).1,(b x0).2.1,(b x0).2.2.1,(b x0).2.2.2)]) (Y_ (g9 (a x0).1 2) (ER (x0.1,f x0)) x0.1),V' .i64 x0.2 1)))(g)(_:g=U_ x)(e)(_:e=(λ(x0:DR)=>W_ (c_ x0.2 g) (U' (c x0)))):GL x=W_ (U' (c_ (Al e d ([],0)).2 g)) (W_ (iLe g 8) (g9 (U_ (Al e d ([],0)).1) 0))/\Pq x=Z_ e d (λ(x0:DR)=>(c_ x0.2 g=true->((0:Int)<=x0.2/\x0.2<(List.length x:Int))/\R_ x0.2<List.length x/\Nv (x0.1,(a x0).1,(a x0).2.1,(a x0).2.2)/\(D8 ((a x0).1,0,2)/\(h x0=true->True)/\(h x0=false->Q8 ((a x0).1,(a x0).2.1,(a x0).2.2)/\Ns ((b x0).1,(b x0).2.1,(b x0).2.2.1,(b x0).2.2.2)))/\(c x0=true->True)/\(c x0=false->(g9 (a x0).1 1=true->Q8 ((a x0).1,(a x0).2.1,(a x0).2.2)/\AD ((List.length x0.1+List.length [(0,(b x0).1,(b x0).2.1,(b x0).2.2.1,(b x0).2.2.2)])*5))/\(g9 (a x0).1 1=false->(g9 (a x0).1 2=true->O8 (x0.1,f x0))/\(g9 (a x0).1 2=false->True))))/\(c_ x0.2 g=false->True)) ([],0):=by subst_vars;exact⟨(GN.v x).trans (by kernel_rfl),(GN.o x).trans (by kernel_rfl)⟩
abbrev gE:=λx=>(ZlM x _ rfl _ rfl _ rfl _ rfl _ rfl _ rfl _ rfl _ rfl).1
abbrev xn:=λx=>(ZlM x _ rfl _ rfl _ rfl _ rfl _ rfl _ rfl _ rfl _ rfl).2
theorem ZlP(x:pS)(c)(_:c=U_ x.1)(a)(_:a=(λ(x0:Int)=>W_ (c_ x0 c) (U' (W_ (g9 (So x.1 (R_ x0) (0,0)).1 x.2.1) (g9 (So x.1 (R_ x0) (0,0)).2 x.2.2)))))(b)(_:b=(λ(x0:Int)=>V' .i64 x0 1))(d)(_:d=List.length x.1):Bp x=Y_ (c_ (Al a b 0) c) (Al a b 0) (-1)/\Pv x=Z_ a b (λ(x0:Int)=>(c_ x0 c=true->((0:Int)<=x0/\x0<(d:Int))/\R_ x0<d)/\(c_ x0 c=false->True)) 0:=by subst_vars;exact⟨(Iw.v x).trans (by kernel_rfl),(Iw.o x).trans (by kernel_rfl)⟩
abbrev Zt:=λx=>(ZlP x _ rfl _ rfl _ rfl _ rfl).1
abbrev zr:=λx=>(ZlP x _ rfl _ rfl _ rfl _ rfl).2
theorem ZlS(x:Ch)(a)(_:a=λ(x0:Jb)=>So x (R_ x0.2) (0,0,0))(b)(_:b=λ(x0:Jb)=>Bp (x0.1,(a x0).2.1,(a x0).2.2))(e)(_:e=λ(x0:Jb)=>w_ (g9 (a x0).1 0) (g9 (a x0).1 1))(i)(_:i=λ(x0:Jb)=>lSub x0.1 (R_ (V' .i64 (b x0) 1)) (lN x0.1))(j)(_:j=λ(x0:Jb)=>lSub x0.1 0 (R_ (b x0)))(c)(_:c=(λ(x0:Jb)=>(Y_ (e x0) (Y_ (g9 (a x0).1 1) (i9 x0.1 [((a x0).2.1,(a x0).2.2)]) x0.1) (i9 (lTake x0.1 (lN (j x0))) (i x0)),V' .i64 x0.2 1)))(g)(_:g=λ(x0:Jb)=>U' (B4 (2,(a x0).2.1,(a x0).2.2,0)))(h)(_:h=U_ x)(d)(_:d=(λ(x0:Jb)=>W_ (c_ x0.2 h) (W_ (U' (g x0)) (Y_ (e x0) (U' (iGe (b x0) 0)) (W_ (g9 (a x0).1 2) (U' (c_ (b x0) 0)))))))(f)(_:f=λ(x0:Jb)=>List.length x0.1)(k)(_:k=iGt h 8):Iq x=W_ (U' k) (W_ (U' (c_ (Al d c ([],0)).2 h)) (g9 (U_ (Al d c ([],0)).1) 0))/\Ps x=((k=true->True)/\(k=false->Z_ d c (λ(x0:Jb)=>(c_ x0.2 h=true->((0:Int)<=x0.2/\x0.2<(List.length x:Int))/\R_ x0.2<List.length x/\Pv (x0.1,(a x0).2.1,(a x0).2.2)/\Nr (2,(a x0).2.1,(a x0).2.2,0)/\(g x0=true->True)/\(g x0=false->(e x0=true->(iGe (b x0) 0=true->True)/\(iGe (b x0) 0=false->(g9 (a x0).1 1=true->AD ((f x0+List.length [((a x0).2.1,(a x0).2.2)])*2))/\(g9 (a x0).1 1=false->True)))/\(e x0=false->(g9 (a x0).1 2=true->(c_ (b x0) 0=true->True)/\(c_ (b x0) 0=false->((0:Int)<=b x0/\0<=R_ (b x0)/\R_ (b x0)<=f x0/\0<f x0)/\((0:Int)<=V' .i64 (b x0) 1/\R_ (V' .i64 (b x0) 1)<=lN x0.1/\lN x0.1<=f x0/\0<f x0)/\0<f x0/\List.length (j x0)<=f x0/\AD ((List.length (j x0)+List.length (i x0))*2)))/\(g9 (a x0).1 2=false->True))))/\(c_ x0.2 h=false->True)) ([],0))):=by subst_vars;exact⟨(GM.v x).trans (by kernel_rfl),(GM.o x).trans (by kernel_rfl)⟩
abbrev xr:=λx=>(ZlS x _ rfl _ rfl _ rfl _ rfl _ rfl _ rfl _ rfl _ rfl _ rfl _ rfl _ rfl).1
abbrev xM:=λx=>(ZlS x _ rfl _ rfl _ rfl _ rfl _ rfl _ rfl _ rfl _ rfl _ rfl _ rfl _ rfl).2
attribute [irreducible] CG Nv Be Q8 ER O8 GL Pq Bp Pv Iq Ps
end
section
set_option maxRecDepth 8000
def gD:ACode:=(.seq (.region [⟨0,some 4,.mv (.c (.int .i64 0)),none,[]⟩]) (.seq (.seq (.region [⟨0,some 5,.mv (.c (.int .i64 0)),none,[]⟩]) (.block 0 (.loop [0,1,5] (.seq (.seq (.region [⟨0,some 6,.mv (.t 5),none,[]⟩,⟨1,some 7,.mv (.t 0),none,[]⟩,⟨2,some 8,.len (.t 7),none,[]⟩,⟨3,some 9,.bin .lss (.t 6) (.t 8),none,[]⟩]) (.cond (.t 9) .skip (.exit 0))) (.seq (.block 1 (.seq (.region [⟨0,some 12,.mv (.t 0),none,[]⟩,⟨1,some 13,.mv (.t 5),none,[]⟩,⟨2,some 14,.mv (.t 1),none,[]⟩,⟨3,some 15,.p_ 1 (.t 12) (.t 13),none,[]⟩,⟨4,none,.f8 1 (.t 15) (.t 14),none,[]⟩]) (.region [⟨0,some 16,.mv (.t 1),none,[]⟩,⟨1,some 17,.bin .add (.t 16) (.c (.int .i64 1)),none,[]⟩,⟨2,some 1,.mv (.t 17),none,[]⟩]))) (.region [⟨0,some 10,.mv (.t 5),none,[]⟩,⟨1,some 11,.bin .add (.t 10) (.c (.int .i64 1)),none,[]⟩,⟨2,some 5,.mv (.t 11),none,[]⟩])))))) (.seq (.region [⟨0,some 18,.mv (.t 1),none,[]⟩,⟨1,some 4,.mv (.t 18),none,[]⟩]) .ret)))
def Zo:AFun:=⟨2,19,0,false,[.tmp 4],gD⟩
@[irreducible] def Pr:Bc:=EH Zo
@[irreducible] def GG(x:B3)(m:Int):B3×Int:=(shut λ(x:B3) (m:Int)=>AV (RT.mkI (.one (.int .i64))) x m).1 x m
@[irreducible] def UA(x:B3):Prop:=(shut λ(x:B3)=>CT.wl (.sl (.one (.int .i64))) x).1 x
theorem fT:GG=λx m=>AV (RT.mkI (.one (.int .i64))) x m:=by unfold GG;exact(shut _).2
theorem tT:UA=λx=>CT.wl (.sl (.one (.int .i64))) x:=by unfold UA;exact(shut _).2
theorem uw:SlC Pr (.one (.int .i64)):=by
 rintro h ω hd p l u m Q d8 hinj hM hQ;have C:=hM.len;have Y:l.length<=9223372036854775807:=d8.1;unfold Pr;refine Jz rfl ?_;unfold gD;simp only[go_sem,reduceIte,reduceCtorEq,Nat.reduceAdd,Nat.reduceBEq,Int.reduceLT,Int.reduceLE,Int.reduceGT,Int.reduceGE,Int.reduceBEq,Int.reduceBNe,Nat.reduceEqDiff,Nat.reduceLeDiff,Nat.reduceLT,C];refine MF l.length (λi st=>∃h',st=⟨[u,.int .i64 (Bb (RT.mkI (.one (.int .i64))) l m i).2,.undef,.undef,.undef,.int .i64 (i:Int)]++Es 13,[],h'⟩/\x_ (Gv ω hd p) h h'/\MS h' ω hd p (.one (.int .i64)) (Bb (RT.mkI (.one (.int .i64))) l m i).1 u) ?_ ?_
 ·refine⟨h,?_,x_.refl _ _,hM⟩;simp only[Mo,keep,MM];rfl
 rintro i st next hi ⟨h1,rfl,I,s⟩ A
 by_cases t:i<l.length
 ·have G:decide ((i:Int)<(l.length:Int))=true:=Gj (by omega);have U:IntKind.i64.wrap ((i:Int)+1)=((i+1:Nat):Int):=(by rw[LH (by omega)];omega);obtain⟨b,n⟩:=s.slice (by rw[Fk];omega);rw[Fk]at n;subst n;cases J:Bb (RT.mkI (.one (.int .i64))) l m i with
  |mk L z=>
  rw[J]at s;obtain⟨Z,hs,g⟩:=ND t J;have q:i<L.length:=(by omega);have j:=Oa d8 t;rw[<- g]at j;have N:=MS.frame s q;clear g;generalize g:List.getD L i (RT.dflt (.one (.int .i64)))=x0 at N hs j;clear g;have R:=MA (b:=b) (w:=1) t (k:=.i64);simp only;obtain⟨M,x,O,R1⟩:=MS.st N q (off:=0) (by decide) (v:=(.int .i64 z)) rfl rfl (y:=(z:RT.D (.one (.int .i64)))) rfl hinj [];replace x:El [] h1 1 (.ptr b (i*1)) (.int .i64 z)=some (.undef,[],M):=x;simp only[go_sem,reduceIte,reduceCtorEq,Nat.reduceAdd,Nat.reduceBEq,Int.reduceLT,Int.reduceLE,Int.reduceGT,Int.reduceGE,Int.reduceBEq,Int.reduceBNe,Nat.reduceEqDiff,Nat.reduceLeDiff,Nat.reduceLT,C,G,U,R,x];exact A _ t ⟨M,by rw[hs];rfl,(x_.trans I O),by rw[hs];exact R1⟩
 have G:decide ((i:Int)<(l.length:Int))=false:=Dl (by omega);have F:i=l.length:=by omega
 subst F;simp only[go_sem,reduceIte,reduceCtorEq,Nat.reduceAdd,Nat.reduceBEq,Int.reduceLT,Int.reduceLE,Int.reduceGT,Int.reduceGE,Int.reduceBEq,Int.reduceBNe,Nat.reduceEqDiff,Nat.reduceLeDiff,Nat.reduceLT,C,G];have e:=IC (RT.mkI (.one (.int .i64))) l m;rw[e]at s ⊢;exact hQ h1 I s
def wB:d4:=(A_ [1,0] 4 [E' 0] (.seq [1] (A_ [5,1,0] 5 [E' 0] (.block 0 (.loop [0,1,5] 1 (.seq [5,1,0] (A_ [9,5,1,0] 6 [C_ 5,D_ 0,L' 7,M' 6 8] (.cond 9 .skip (.exit 0))) (.seq [5,1,0] (.block 1 (.seq [5,1,0] (A_ [17,5,1,0] 12 [D_ 0,C_ 5,N_ 1 12 13,O_ 14,C_ 1,N' 15 16] (.cond 17 (A_ [4] 4 [E' (-1)] .ret) .skip)) (At 18 [C_ 1,M_ 18 AA,G_ 1 (C_ 19)]))) (At 10 [C_ 5,M_ 10 AA,G_ 5 (C_ 11)])))))) (A_ [4] 20 [C_ 1,G_ 4 (C_ 20)] .ret)))
def Ky:Fn:=⟨⟨2,21,0,true,[.tmp 4],wB⟩,[.one .Z' (.sl (.one (.int .i64))),.one .Z' (.int .i64)],.one (.one .own (.int .i64))⟩
theorem wA:Ky.A:=AM trivial
def EW:EN->Int:=Ky.V
def Ri:EN->Prop:=Ky.O
theorem vZ:Ky.B:=AO trivial (by kernel_rfl) (λx=>by kernel_rfl)
end
section
set_option maxRecDepth 100000
theorem ZlV(x:EN)(c)(_:c=U_ x.1)(a)(_:a=(λ(x0:Ar)=>W_ (c_ x0.2 c) (U' (i_ (So x.1 (R_ x0.2) 0) x0.1))))(b)(_:b=(λ(x0:Ar)=>(V' .i64 x0.1 1,V' .i64 x0.2 1)))(d)(_:d=List.length x.1)(e)(_:e=Al a b (x.2,0)):EW x=Y_ (c_ e.2 c) (-1) e.1/\Ri x=Z_ a b (λ(x0:Ar)=>(c_ x0.2 c=true->((0:Int)<=x0.2/\x0.2<(d:Int))/\R_ x0.2<d)/\(c_ x0.2 c=false->True)) (x.2,0):=by subst_vars;exact⟨(Ky.v x).trans (by kernel_rfl),(Ky.o x).trans (by kernel_rfl)⟩
abbrev wH:=λx=>(ZlV x _ rfl _ rfl _ rfl _ rfl _ rfl).1
abbrev wi:=λx=>(ZlV x _ rfl _ rfl _ rfl _ rfl _ rfl).2
attribute [irreducible] EW Ri
end
section
set_option maxRecDepth 8000
def ve:d4:=(A_ [0] 2 [Q_ (.c .b_)] (A_ [2] 3 [D_ 0,B_ (.app 1 (.c .b_) 3),G_ 2 (C_ 4)] .ret))
def Ij:Fn:=⟨⟨1,5,0,false,[.tmp 2],ve⟩,[.one .Z' (.sl (.one (.int .i64)))],.one (.one .own (.sl (.one (.int .i64))))⟩
theorem gr:Ij.A:=AM trivial
def C7:B3->List (Int):=Ij.V
def Rc:B3->Prop:=Ij.O
theorem gb:Ij.B:=AO trivial (by kernel_rfl) (λx=>by kernel_rfl)
end
section
set_option maxRecDepth 100000
theorem Vd(x):C7 x=x:=(Ij.v x).trans (by kernel_rfl)
theorem fW(x):Rc x=AD (List.length x*1):=(Ij.o x).trans (by kernel_rfl)
attribute [irreducible] C7 Rc
end
section
set_option maxRecDepth 8000
def fC:ACode:=(.seq (.region [⟨0,some 4,.mv (.c (.int .i64 0)),none,[]⟩]) (.seq (.seq (.region [⟨0,some 5,.mv (.c (.int .i64 0)),none,[]⟩]) (.block 0 (.loop [0,1,5] (.seq (.seq (.region [⟨0,some 6,.mv (.t 5),none,[]⟩,⟨1,some 7,.mv (.t 0),none,[]⟩,⟨2,some 8,.len (.t 7),none,[]⟩,⟨3,some 9,.bin .lss (.t 6) (.t 8),none,[]⟩]) (.cond (.t 9) .skip (.exit 0))) (.seq (.block 1 (.seq (.region [⟨0,some 12,.mv (.t 0),none,[]⟩,⟨1,some 13,.mv (.t 5),none,[]⟩,⟨2,some 14,.mv (.t 1),none,[]⟩,⟨3,some 15,.p_ 4 (.t 12) (.t 13),none,[]⟩,⟨4,some 16,.f5 0 (.t 15),none,[]⟩,⟨5,none,.f8 1 (.t 16) (.t 14),none,[]⟩]) (.seq (.region [⟨0,some 17,.mv (.t 1),none,[]⟩,⟨1,some 18,.bin .add (.t 17) (.c (.int .i64 1)),none,[]⟩,⟨2,some 1,.mv (.t 18),none,[]⟩]) (.seq (.region [⟨0,some 19,.mv (.t 0),none,[]⟩,⟨1,some 20,.mv (.t 5),none,[]⟩,⟨2,some 21,.mv (.t 1),none,[]⟩,⟨3,some 22,.p_ 4 (.t 19) (.t 20),none,[]⟩,⟨4,some 23,.f5 1 (.t 22),none,[]⟩,⟨5,none,.f8 1 (.t 23) (.t 21),none,[]⟩]) (.seq (.region [⟨0,some 24,.mv (.t 1),none,[]⟩,⟨1,some 25,.bin .add (.t 24) (.c (.int .i64 1)),none,[]⟩,⟨2,some 1,.mv (.t 25),none,[]⟩]) (.seq (.region [⟨0,some 26,.mv (.t 0),none,[]⟩,⟨1,some 27,.mv (.t 5),none,[]⟩,⟨2,some 28,.mv (.t 1),none,[]⟩,⟨3,some 29,.p_ 4 (.t 26) (.t 27),none,[]⟩,⟨4,some 30,.f5 2 (.t 29),none,[]⟩,⟨5,none,.f8 1 (.t 30) (.t 28),none,[]⟩]) (.seq (.region [⟨0,some 31,.mv (.t 1),none,[]⟩,⟨1,some 32,.bin .add (.t 31) (.c (.int .i64 1)),none,[]⟩,⟨2,some 1,.mv (.t 32),none,[]⟩]) (.seq (.region [⟨0,some 33,.mv (.t 0),none,[]⟩,⟨1,some 34,.mv (.t 5),none,[]⟩,⟨2,some 35,.mv (.t 1),none,[]⟩,⟨3,some 36,.p_ 4 (.t 33) (.t 34),none,[]⟩,⟨4,some 37,.f5 3 (.t 36),none,[]⟩,⟨5,none,.f8 1 (.t 37) (.t 35),none,[]⟩]) (.region [⟨0,some 38,.mv (.t 1),none,[]⟩,⟨1,some 39,.bin .add (.t 38) (.c (.int .i64 1)),none,[]⟩,⟨2,some 1,.mv (.t 39),none,[]⟩]))))))))) (.region [⟨0,some 10,.mv (.t 5),none,[]⟩,⟨1,some 11,.bin .add (.t 10) (.c (.int .i64 1)),none,[]⟩,⟨2,some 5,.mv (.t 11),none,[]⟩])))))) (.seq (.region [⟨0,some 40,.mv (.t 1),none,[]⟩,⟨1,some 4,.mv (.t 40),none,[]⟩]) .ret)))
def YF:AFun:=⟨2,41,0,false,[.tmp 4],fC⟩
@[irreducible] def O4:Bc:=EH YF
@[irreducible] def GB(x:Dp)(m:Int):Dp×Int:=(shut λ(x:Dp) (m:Int)=>AV (RT.mkI AB) x m).1 x m
@[irreducible] def T5(x:Dp):Prop:=(shut λ(x:Dp)=>CT.wl (.sl AB) x).1 x
theorem fj:GB=λx m=>AV (RT.mkI AB) x m:=by unfold GB;exact(shut _).2
theorem qm:T5=λx=>CT.wl (.sl AB) x:=by unfold T5;exact(shut _).2
theorem qL:SlC O4 AB:=by
 rintro h ω hd p l u m Q d8 hinj hM hQ;have I:=hM.len;have hlb:l.length<=9223372036854775807:=d8.1;unfold O4;refine Jz rfl ?_;unfold fC;simp only[go_sem,reduceIte,reduceCtorEq,Nat.reduceAdd,Nat.reduceBEq,Int.reduceLT,Int.reduceLE,Int.reduceGT,Int.reduceGE,Int.reduceBEq,Int.reduceBNe,Nat.reduceEqDiff,Nat.reduceLeDiff,Nat.reduceLT,I];refine MF l.length (λi st=>∃h',st=⟨[u,.int .i64 (Bb (RT.mkI AB) l m i).2,.undef,.undef,.undef,.int .i64 (i:Int)]++Es 35,[],h'⟩/\x_ (Gv ω hd p) h h'/\MS h' ω hd p AB (Bb (RT.mkI AB) l m i).1 u) ?_ ?_
 ·refine⟨h,?_,x_.refl _ _,hM⟩;simp only[Mo,keep,MM];rfl
 rintro i st next hi ⟨h1,rfl,N,t⟩ G
 by_cases x:i<l.length
 ·have M:decide ((i:Int)<(l.length:Int))=true:=Gj (by omega);have hw:IntKind.i64.wrap ((i:Int)+1)=((i+1:Nat):Int):=(by rw[LH (by omega)];omega);obtain⟨b,s⟩:=t.slice (by rw[Fk];omega);rw[Fk]at s;subst s;cases O:Bb (RT.mkI AB) l m i with
  |mk L g=>
  rw[O]at t;obtain⟨hLl,hs,n⟩:=ND x O;have j:i<L.length:=(by omega);have q:=Oa d8 x;rw[<- n]at q;have R0:=MS.frame t j;clear n;generalize n:List.getD L i (RT.dflt AB)=x0 at R0 hs q;clear n;have hx:=MA (b:=b) (w:=4) x (k:=.i64);simp only;obtain⟨Z,F,o0,R1⟩:=MS.st R0 j (off:=0) (by decide) (v:=(.int .i64 g)) rfl rfl (y:=((g,x0.2.1,x0.2.2.1,x0.2.2.2):RT.D AB)) rfl hinj [];replace F:El [] h1 1 (.ptr b (i*4)) (.int .i64 g)=some (.undef,[],Z):=F;obtain⟨Y,C,o1,R2⟩:=MS.st R1 j (off:=1) (by decide) (v:=(.int .i64 (IntKind.i64.wrap (g+1)))) rfl rfl (y:=((g,(IntKind.i64.wrap (g+1)),x0.2.2.1,x0.2.2.2):RT.D AB)) rfl hinj [];replace C:El [] Z 1 (.ptr b (i*4+1)) (.int .i64 (IntKind.i64.wrap (g+1)))=some (.undef,[],Y):=C;obtain⟨U,A,o2,R3⟩:=MS.st R2 j (off:=2) (by decide) (v:=(.int .i64 (IntKind.i64.wrap (IntKind.i64.wrap (g+1)+1)))) rfl rfl (y:=((g,(IntKind.i64.wrap (g+1)),(IntKind.i64.wrap (IntKind.i64.wrap (g+1)+1)),x0.2.2.2):RT.D AB)) rfl hinj [];replace A:El [] Y 1 (.ptr b (i*4+2)) (.int .i64 (IntKind.i64.wrap (IntKind.i64.wrap (g+1)+1)))=some (.undef,[],U):=A;obtain⟨R,z,o3,R4⟩:=MS.st R3 j (off:=3) (by decide) (v:=(.int .i64 (IntKind.i64.wrap (IntKind.i64.wrap (IntKind.i64.wrap (g+1)+1)+1)))) rfl rfl (y:=((g,(IntKind.i64.wrap (g+1)),(IntKind.i64.wrap (IntKind.i64.wrap (g+1)+1)),(IntKind.i64.wrap (IntKind.i64.wrap (IntKind.i64.wrap (g+1)+1)+1))):RT.D AB)) rfl hinj [];replace z:El [] U 1 (.ptr b (i*4+3)) (.int .i64 (IntKind.i64.wrap (IntKind.i64.wrap (IntKind.i64.wrap (g+1)+1)+1)))=some (.undef,[],R):=z;simp only[go_sem,reduceIte,reduceCtorEq,Nat.reduceAdd,Nat.reduceBEq,Int.reduceLT,Int.reduceLE,Int.reduceGT,Int.reduceGE,Int.reduceBEq,Int.reduceBNe,Nat.reduceEqDiff,Nat.reduceLeDiff,Nat.reduceLT,I,M,hw,hx,F,C,A,z];exact G _ x ⟨R,by rw[hs];rfl,(x_.trans (x_.trans (x_.trans (x_.trans N o0) o1) o2) o3),by rw[hs];exact R4⟩
 have M:decide ((i:Int)<(l.length:Int))=false:=Dl (by omega);have J:i=l.length:=by omega
 subst J;simp only[go_sem,reduceIte,reduceCtorEq,Nat.reduceAdd,Nat.reduceBEq,Int.reduceLT,Int.reduceLE,Int.reduceGT,Int.reduceGE,Int.reduceBEq,Int.reduceBNe,Nat.reduceEqDiff,Nat.reduceLeDiff,Nat.reduceLT,I,M];have e:=IC (RT.mkI AB) l m;rw[e]at t ⊢;exact hQ h1 N t
def fv:ACode:=(.seq (.region [⟨0,some 4,.mv (.c (.int .i64 0)),none,[]⟩]) (.seq (.seq (.region [⟨0,some 5,.mv (.c (.int .i64 0)),none,[]⟩]) (.block 0 (.loop [0,1,5] (.seq (.seq (.region [⟨0,some 6,.mv (.t 5),none,[]⟩,⟨1,some 7,.mv (.t 0),none,[]⟩,⟨2,some 8,.len (.t 7),none,[]⟩,⟨3,some 9,.bin .lss (.t 6) (.t 8),none,[]⟩]) (.cond (.t 9) .skip (.exit 0))) (.seq (.block 1 (.region [⟨0,some 12,.mv (.t 0),none,[]⟩,⟨1,some 13,.mv (.t 5),none,[]⟩,⟨2,some 14,.p_ 1 (.t 12) (.t 13),none,[]⟩,⟨3,some 15,.i5 none (.t 14),none,[]⟩,⟨4,some 16,.mv (.t 1),none,[]⟩,⟨5,some 17,.call O4 [(.t 15),(.t 16)],none,[]⟩,⟨6,some 1,.mv (.t 17),none,[]⟩])) (.region [⟨0,some 10,.mv (.t 5),none,[]⟩,⟨1,some 11,.bin .add (.t 10) (.c (.int .i64 1)),none,[]⟩,⟨2,some 5,.mv (.t 11),none,[]⟩])))))) (.seq (.region [⟨0,some 18,.mv (.t 1),none,[]⟩,⟨1,some 4,.mv (.t 18),none,[]⟩]) .ret)))
def YE:AFun:=⟨2,19,0,false,[.tmp 4],fv⟩
@[irreducible] def OY:Bc:=EH YE
@[irreducible] def H6(x:Cv)(m:Int):Cv×Int:=(shut λ(x:Cv) (m:Int)=>AV (RT.mkI (.one (.sl AB))) x m).1 x m
@[irreducible] def TZ(x:Cv):Prop:=(shut λ(x:Cv)=>CT.wl (.sl (.one (.sl AB))) x).1 x
theorem fb:H6=λx m=>AV (RT.mkI (.one (.sl AB))) x m:=by unfold H6;exact(shut _).2
theorem ql:TZ=λx=>CT.wl (.sl (.one (.sl AB))) x:=by unfold TZ;exact(shut _).2
theorem qn:SlC OY (.one (.sl AB)):=by
 rintro h ω hd p l u m Q d8 hinj hM hQ;have y:=hM.len;have hlb:l.length<=9223372036854775807:=d8.1;unfold OY;refine Jz rfl ?_;unfold fv;simp only[go_sem,reduceIte,reduceCtorEq,Nat.reduceAdd,Nat.reduceBEq,Int.reduceLT,Int.reduceLE,Int.reduceGT,Int.reduceGE,Int.reduceBEq,Int.reduceBNe,Nat.reduceEqDiff,Nat.reduceLeDiff,Nat.reduceLT,y];refine MF l.length (λi st=>∃h',st=⟨[u,.int .i64 (Bb (RT.mkI (.one (.sl AB))) l m i).2,.undef,.undef,.undef,.int .i64 (i:Int)]++Es 13,[],h'⟩/\x_ (Gv ω hd p) h h'/\MS h' ω hd p (.one (.sl AB)) (Bb (RT.mkI (.one (.sl AB))) l m i).1 u) ?_ ?_
 ·refine⟨h,?_,x_.refl _ _,hM⟩;simp only[Mo,keep,MM];rfl
 rintro i st next hi ⟨h1,rfl,N,t⟩ C
 by_cases A:i<l.length
 ·have z:decide ((i:Int)<(l.length:Int))=true:=Gj (by omega);have M:IntKind.i64.wrap ((i:Int)+1)=((i+1:Nat):Int):=(by rw[LH (by omega)];omega);obtain⟨b,q⟩:=t.slice (by rw[Fk];omega);rw[Fk]at q;subst q;cases O:Bb (RT.mkI (.one (.sl AB))) l m i with
  |mk L I=>
  rw[O]at t;obtain⟨hLl,hs,g⟩:=ND A O;have s:i<L.length:=(by omega);have j:=Oa d8 A;rw[<- g]at j;have U:=MS.frame t s;clear g;generalize g:List.getD L i (RT.dflt (.one (.sl AB)))=x0 at U hs j;clear g;have J:=MA (b:=b) (w:=1) A (k:=.i64);simp only;obtain⟨G,x,Y,f0⟩:=MS.sb U s (off:=0) (by decide) (r':=AB) (l':=x0) rfl;replace x:Lp h1 none (.ptr b (i*1))=some G:=x;have n:=(MS.ok1 Y).1;simp only[go_sem,reduceIte,reduceCtorEq,Nat.reduceAdd,Nat.reduceBEq,Int.reduceLT,Int.reduceLE,Int.reduceGT,Int.reduceGE,Int.reduceBEq,Int.reduceBNe,Nat.reduceEqDiff,Nat.reduceLeDiff,Nat.reduceLT,y,z,M,J,x,n];refine LM (qL h1 ω hd _ x0 G I _ j hinj Y λR O0 N0=>?_);obtain⟨Z,R1⟩:=f0 R _ ((AV (RT.mkI AB) x0 I).1:RT.D (.one (.sl AB))) O0 N0 rfl;simp only[go_sem,reduceIte,reduceCtorEq,Nat.reduceAdd,Nat.reduceBEq,Int.reduceLT,Int.reduceLE,Int.reduceGT,Int.reduceGE,Int.reduceBEq,Int.reduceBNe,Nat.reduceEqDiff,Nat.reduceLeDiff,Nat.reduceLT,y,z,M,J,x,n];exact C _ A ⟨R,by rw[hs];rfl,(x_.trans N Z),by rw[hs];exact R1⟩
 have z:decide ((i:Int)<(l.length:Int))=false:=Dl (by omega);have F:i=l.length:=by omega
 subst F;simp only[go_sem,reduceIte,reduceCtorEq,Nat.reduceAdd,Nat.reduceBEq,Int.reduceLT,Int.reduceLE,Int.reduceGT,Int.reduceGE,Int.reduceBEq,Int.reduceBNe,Nat.reduceEqDiff,Nat.reduceLeDiff,Nat.reduceLT,y,z];have e:=IC (RT.mkI (.one (.sl AB))) l m;rw[e]at t ⊢;exact hQ h1 N t
def fO:ACode:=(.seq (.region [⟨0,some 2,.boxB 0 2 (.t 0),none,[]⟩,⟨1,some 4,.mv (.c (.int .i64 0)),none,[]⟩]) (.seq (.region [⟨0,some 5,.f5 1 (.t 2),none,[]⟩,⟨1,some 6,.d7 0 none (.t 5),none,[]⟩,⟨2,some 7,.mv (.t 1),none,[]⟩,⟨3,some 8,.call OY [(.t 6),(.t 7)],none,[]⟩,⟨4,some 1,.mv (.t 8),none,[]⟩]) (.seq (.region [⟨0,some 9,.mv (.t 1),none,[]⟩,⟨1,some 4,.mv (.t 9),none,[]⟩]) .ret)))
def YU:AFun:=⟨2,10,1,false,[.tmp 4],fO⟩
@[irreducible] def Nn:Bc:=EH YU
@[irreducible] def EP(x:B0)(m:Int):B0×Int:=(shut λ(x:B0) (m:Int)=>RT.mkT (.cons (.int .i64) (.one (.sl (.one (.sl AB))))) x m).1 x m
@[irreducible] def Ua(x:B0):Prop:=(shut λ(x:B0)=>RT.wl (.cons (.int .i64) (.one (.sl (.one (.sl AB))))) x).1 x
theorem fo:EP=λx m=>RT.mkT (.cons (.int .i64) (.one (.sl (.one (.sl AB))))) x m:=by unfold EP;exact(shut _).2
theorem qN:Ua=λx=>RT.wl (.cons (.int .i64) (.one (.sl (.one (.sl AB))))) x:=by unfold Ua;exact(shut _).2
theorem sE:LC Nn (eQ (.cons (.int .i64) (.one (.sl (.one (.sl AB)))))).P:=by
 rintro h ω hd P b AH us u m K Q hinj n hl hr ⟨x,rfl,d8,hK⟩ hQ;have n:u= .agg us:=n;subst n;show Nn [.agg us,.int .i64 m] h Q;obtain⟨F,j,rfl⟩:=ZiU hl;have C:RM h ω hd (P++[b+0]) (CT.enc (.int .i64) x.1) F:=hr 0 (FX (by decide));have i:RM h ω hd (P++[b+1]) (CT.enc (.sl (.one (.sl AB))) x.2) j:=hr 1 (FX (by decide));have A:=C.cellV rfl;have z:=i.cellV rfl;have y:=(RM.own1 i).1;have G:=(RM.own1 i).2.2;unfold Nn;refine Jz rfl ?_;unfold fO;simp only[go_sem,reduceIte,reduceCtorEq,Nat.reduceAdd,Nat.reduceBEq,Int.reduceLT,Int.reduceLE,Int.reduceGT,Int.reduceGE,Int.reduceBEq,Int.reduceBNe,Nat.reduceEqDiff,Nat.reduceLeDiff,Nat.reduceLT,A,z,y];refine LM (qn h ω hd (P++[b+1]) x.2 j m _ d8.2 hinj i λh1 D s=>?_);replace s:RM h1 ω hd (P++[b+1]) (CT.enc (.sl (.one (.sl AB))) (AV (RT.mkI (.one (.sl AB))) x.2 m).1) j:=s;have g:=RM.beside C D (λl hs=>by obtain⟨q,e⟩:=hs;exact⟨b+1,q,by omega,by rw[e];simp⟩);simp only[go_sem,reduceIte,reduceCtorEq,Nat.reduceAdd,Nat.reduceBEq,Int.reduceLT,Int.reduceLE,Int.reduceGT,Int.reduceGE,Int.reduceBEq,Int.reduceBNe,Nat.reduceEqDiff,Nat.reduceLeDiff,Nat.reduceLT,A,z,y];refine hQ _ _ h1 hK rfl ((x_.mono D λl hs=>by obtain⟨q,e⟩:=hs;exact⟨1,_,q,FX (by decide),rfl,by rw[e];simp⟩)) λc t=>?_;have t:c<2:=t;rcases (show c=0\/c=1 by omega)with rfl|rfl
 ·exact g
 exact s
def q6:d4:=(A_ [1,0] 4 [E' 0] (.seq [1] (A_ [5,1,0] 5 [E' 0] (.block 0 (.loop [0,1,5] 1 (.seq [5,1,0] (A_ [9,5,1,0] 6 [C_ 5,D_ 0,L' 7,M' 6 8] (.cond 9 .skip (.exit 0))) (.seq [5,1,0] (.block 1 (.seq [5,1,0] (A_ [18,5,1,0] 12 [D_ 0,C_ 5,N_ 4 12 13,J' 0 14,O_ 15,C_ 1,N' 16 17] (.cond 18 (A_ [4] 4 [E' (-1)] .ret) .skip)) (A_ [5,1,0] 19 [C_ 1,M_ 19 AA,G_ 1 (C_ 20)] (.seq [5,1,0] (A_ [27,5,1,0] 21 [D_ 0,C_ 5,N_ 4 21 22,J' 1 23,O_ 24,C_ 1,N' 25 26] (.cond 27 (A_ [4] 4 [E' (-1)] .ret) .skip)) (A_ [5,1,0] 28 [C_ 1,M_ 28 AA,G_ 1 (C_ 29)] (.seq [5,1,0] (A_ [36,5,1,0] 30 [D_ 0,C_ 5,N_ 4 30 31,J' 2 32,O_ 33,C_ 1,N' 34 35] (.cond 36 (A_ [4] 4 [E' (-1)] .ret) .skip)) (A_ [5,1,0] 37 [C_ 1,M_ 37 AA,G_ 1 (C_ 38)] (.seq [5,1,0] (A_ [45,5,1,0] 39 [D_ 0,C_ 5,N_ 4 39 40,J' 3 41,O_ 42,C_ 1,N' 43 44] (.cond 45 (A_ [4] 4 [E' (-1)] .ret) .skip)) (At 46 [C_ 1,M_ 46 AA,G_ 1 (C_ 47)]))))))))) (At 10 [C_ 5,M_ 10 AA,G_ 5 (C_ 11)])))))) (A_ [4] 48 [C_ 1,G_ 4 (C_ 48)] .ret)))
def J7:Fn:=⟨⟨2,49,0,true,[.tmp 4],q6⟩,[.one .Z' (.sl AB),.one .Z' (.int .i64)],.one (.one .own (.int .i64))⟩
theorem qW:J7.A:=AM trivial
def GC:LN->Int:=J7.V
def QS:LN->Prop:=J7.O
theorem qQ:J7.B:=AO trivial (by kernel_rfl) (λx=>by kernel_rfl)
def qz:d4:=(A_ [1,0] 4 [E' 0] (.seq [1] (A_ [5,1,0] 5 [E' 0] (.block 0 (.loop [0,1,5] 1 (.seq [5,1,0] (A_ [9,5,1,0] 6 [C_ 5,D_ 0,L' 7,M' 6 8] (.cond 9 .skip (.exit 0))) (.seq [5,1,0] (.block 1 (A_ [5,1,0] 12 [D_ 0,C_ 5,N_ 1 12 13,O_ 14,C_ 1,I' J7 [15,16],G_ 1 (C_ 17)] (A_ [19,5,1,0] 18 [C_ 1,M' 18 AL] (.cond 19 (A_ [4] 4 [E' (-1)] .ret) .skip)))) (At 10 [C_ 5,M_ 10 AA,G_ 5 (C_ 11)])))))) (A_ [4] 20 [C_ 1,G_ 4 (C_ 20)] .ret)))
def J6:Fn:=⟨⟨2,21,0,true,[.tmp 4],qz⟩,[.one .Z' (.sl (.one (.sl AB))),.one .Z' (.int .i64)],.one (.one .own (.int .i64))⟩
theorem qE:J6.A:=AM ⟨qW,trivial⟩
def QU:LP->Int:=J6.V
def T4:LP->Prop:=J6.O
theorem qI:J6.B:=AO ⟨qQ,trivial⟩ (by kernel_rfl) (λx=>by kernel_rfl)
def sy:d4:=(A_ [2,1] 2 [O' 0 2 0,G_ 4 (E' 0)] (A_ [1] 5 [J' 1 2,J_ 0 5,C_ 1,I' J6 [6,7],G_ 1 (C_ 8)] (.seq [1] (A_ [10,1] 9 [C_ 1,M' 9 AL] (.cond 10 (A_ [4] 4 [E' (-1)] .ret) .skip)) (A_ [4] 11 [C_ 1,G_ 4 (C_ 11)] .ret))))
def Ke:Fn:=⟨⟨2,12,1,true,[.tmp 4],sy⟩,[.agg [Au,(.Z',.sl (.one (.sl AB)))],.one .Z' (.int .i64)],.one (.one .own (.int .i64))⟩
theorem rP:Ke.A:=AM ⟨qE,trivial⟩
def GF:X3->Int:=Ke.V
def Um:X3->Prop:=Ke.O
theorem rL:Ke.B:=AO ⟨qI,trivial⟩ (by kernel_rfl) (λx=>by kernel_rfl)
end
section
set_option maxRecDepth 100000
theorem ZlY(x:LN)(c)(_:c=λ(x0:Ar)=>So x.1 (R_ x0.2) (0,0,0,0))(d)(_:d=λ(x0:Ar)=>V' .i64 (V' .i64 x0.1 1) 1)(i)(_:i=λ(x0:Ar)=>i_ (c x0).2.1 (V' .i64 x0.1 1))(j)(_:j=U_ x.1)(k)(_:k=λ(x0:Ar)=>i_ (c x0).2.2.1 (d x0))(b)(_:b=(λ(x0:Ar)=>W_ (c_ x0.2 j) (W_ (U' (i_ (c x0).1 x0.1)) (W_ (U' (i x0)) (W_ (U' (k x0)) (U' (i_ (c x0).2.2.2 (V' .i64 (d x0) 1))))))))(f)(_:f=(λ(x0:Ar)=>(V' .i64 (V' .i64 (d x0) 1) 1,V' .i64 x0.2 1)))(a)(_:a=Al b f (x.2,0))(e)(_:e=List.length x.1)(g)(_:g=So x.1 (R_ a.2) (0,0,0,0))(h)(_:h=λ(x0:Ar)=>(0:Int)<=x0.2/\x0.2<(e:Int))(l)(_:l=V' .i64 a.1 1):GC x=Y_ (c_ a.2 j) (Y_ (i_ g.1 a.1) (-1) (Y_ (i_ g.2.1 l) (-1) (Y_ (i_ g.2.2.1 (V' .i64 l 1)) (-1) (-1)))) a.1/\QS x=Z_ b f (λ(x0:Ar)=>(c_ x0.2 j=true->h x0/\R_ x0.2<e/\(i_ (c x0).1 x0.1=true->True)/\(i_ (c x0).1 x0.1=false->h x0/\R_ x0.2<e/\(i x0=true->True)/\(i x0=false->h x0/\R_ x0.2<e/\(k x0=true->True)/\(k x0=false->h x0/\R_ x0.2<e))))/\(c_ x0.2 j=false->True)) (x.2,0):=by subst_vars;exact⟨(J7.v x).trans (by kernel_rfl),(J7.o x).trans (by kernel_rfl)⟩
abbrev qV:=λx=>(ZlY x _ rfl _ rfl _ rfl _ rfl _ rfl _ rfl _ rfl _ rfl _ rfl _ rfl _ rfl _ rfl).1
abbrev q7:=λx=>(ZlY x _ rfl _ rfl _ rfl _ rfl _ rfl _ rfl _ rfl _ rfl _ rfl _ rfl _ rfl _ rfl).2
theorem Zl1(x:LP)(c)(_:c=U_ x.1)(d)(_:d=λ(x0:Ar)=>So x.1 (R_ x0.2) [])(a)(_:a=(λ(x0:Ar)=>W_ (c_ x0.2 c) (U' (c_ (GC (d x0,x0.1)) 0))))(b)(_:b=(λ(x0:Ar)=>(GC (d x0,x0.1),V' .i64 x0.2 1)))(e)(_:e=List.length x.1)(f)(_:f=Al a b (x.2,0)):QU x=Y_ (c_ f.2 c) (-1) f.1/\T4 x=Z_ a b (λ(x0:Ar)=>(c_ x0.2 c=true->((0:Int)<=x0.2/\x0.2<(e:Int))/\R_ x0.2<e/\QS (d x0,x0.1))/\(c_ x0.2 c=false->True)) (x.2,0):=by subst_vars;exact⟨(J6.v x).trans (by kernel_rfl),(J6.o x).trans (by kernel_rfl)⟩
abbrev qD:=λx=>(Zl1 x _ rfl _ rfl _ rfl _ rfl _ rfl _ rfl).1
abbrev qx:=λx=>(Zl1 x _ rfl _ rfl _ rfl _ rfl _ rfl _ rfl).2
theorem rE(x):GF x=Y_ (c_ (QU (x.1.2,x.2)) 0) (-1) (QU (x.1.2,x.2)):=(Ke.v x).trans (by kernel_rfl)
theorem rJ(x):Um x=T4 (x.1.2,x.2):=(Ke.o x).trans (by kernel_rfl)
attribute [irreducible] GC QS QU T4 GF Um
end
open Go.Sort
def Dq(l:B3):List Int:=l.mergeSort λx y=>decide (x<=y)
theorem aC(l:B3):(Dq l).length=l.length:=List.length_mergeSort l
def Dx(l:B3):List V:=l.map λn=>.int .i64 n
def NB:Bc:=λargs h Q=>match args with
 |[.b_]=>Q .undef h|[.slice l o n]=>(n=0/\Q .undef h)\/o=0/\∃(b:Blk) (g:B3),h[l]?=some b/\b.k= .own/\g.length=n/\0<n/\n<4611686018427387904/\b.cs=Dx g++b.cs.drop n/\Q .undef (h.set l { b with cs:=Dx (Dq g)++b.cs.drop n })|_=>False
def Zfl(P:Program)(g:FuncId):Prop:=
 (∀(X_ off cap:Nat) (b:B3) (w:World),Holds (Value.int .i64) w X_ off b.toArray->X_<w.heap.size->b.length<4611686018427387904 ->
  Calls P g #[.slice (some ⟨X_,off,none⟩) b.length cap] w λe w'=>e= .returned (.tuple #[])/\∃n os,w'=grow (putRow (Value.int .i64) (Sort.ahead w n) X_ off (b.mergeSort λx y=>decide (x<=y)).toArray) os) /\
 ∀(p:Option Addr) (cap:Nat) (w:World),Calls P g #[.slice p 0 cap] w λe w'=>e= .returned (.tuple #[])/\w'=w
theorem Zec {ι:AF} {k:Ab} {w w':World} {l:Nat} {X_:Blk} {cs':List V} {arr':Array Value} {e:TypeId} (H:HRel ι k w) (C:k[l]?=some X_) (N:X_.k= .own) (hl:cs'.length=X_.cs.length) (y:w.heap.size<=w'.heap.size)
 (F:∀j,j<w.heap.size->j≠(ι l).b->w'.heap[j]?=w.heap[j]?) (D:w'.heap[(ι l).b]?=some (.cells arr' e (0,0))) (Z:arr'.size=(ι l).c) (A:∀(i:Nat) u,cs'[i]?=some u->u.cell=true/\∃z,arr'[i]?=some z/\∀β,Rel ι k β u z)
 (ho:w'.os=w.os) (O:w'.output=w.output) (ht:w'.tape=w.tape):HRel ι (k.set l { X_ with cs:=cs' }) w'/\Step ι k w ι (k.set l { X_ with cs:=cs' }) w':=by
 have K:=WC ι k l X_ { X_ with cs:=cs' } C rfl;have s:∀(j:Nat) (b:Blk),(k.set l { X_ with cs:=cs' })[j]?=some b->(j=l/\b={ X_ with cs:=cs' })\/(j≠l/\k[j]?=some b):=by
  intro j b q;rcases Hz q with⟨h1,h2,_⟩|h
  ·exact .inl ⟨h1,h2⟩
  exact .inr h
 obtain⟨z0,L,_⟩:=H.own l X_ C N;have G:∀(j:Nat) (b:Blk),j≠l->k[j]?=some b->b.k≠.dead->w'.heap[(ι j).b]?=w.heap[(ι j).b]?:=λj b t q n=>F _ (H.there j b q n) λg=>H.apart l j X_ b (HD t) C q N n g.symm;refine⟨⟨λj b q n i u hu=>?_,λj b q n=>?_,λj j' b M Y q x n I=>?_,λj b q n=>?_⟩,{ keeps:=K,kinds:=λj b M q x=>?_,fresh:=λj M hle' q n=>?_,frame:=λb hb' hf=>F b hb' λg=>hf l X_ C N g.symm,size:=y,os:=ho,output:=O,tape:=ht }⟩
 ·rcases s j b q with⟨rfl,rfl⟩|⟨t,q⟩
  ·obtain⟨J,z,L,U⟩:=A i u hu;refine⟨J,z,?_,λβ=>(U β).cellMono K J⟩;rw[z0,BG];simp only[World.cell?,D];exact L
  obtain⟨J,z,L,U⟩:=H.cells j b q n i u hu;exact⟨J,z,by rw[Xj (w:=w) (G j b t q n)];exact L,λβ=>(U β).cellMono K J⟩
 ·rcases s j b q with⟨rfl,rfl⟩|⟨t,q⟩
  ·exact⟨z0,by simp only;omega,_,e,D,Z⟩
  obtain⟨J,L,arr',e',U,g4⟩:=H.own j b q n;exact⟨J,L,arr',e',by rw[G j b t q (by rw[n];decide)];exact U,g4⟩
 ·rcases s j b q with⟨rfl,rfl⟩|⟨t,hg⟩<;>rcases s j' M x with⟨rfl,rfl⟩|⟨hjl',R⟩
  ·exact absurd rfl Y
  ·exact H.apart _ _ _ _ Y C R N I
  ·exact H.apart _ _ _ _ Y hg C n (by rw[N];decide)
  exact H.apart j j' b M Y hg R n I
 ·refine HM ?_ y;rcases s j b q with⟨rfl,rfl⟩|⟨t,q⟩
  ·exact H.there _ _ C n
  exact H.there j b q n
 ·rcases s j M x with⟨rfl,rfl⟩|⟨t,x⟩
  ·rw[C]at q;cases q;exact .inl rfl
  rw[q]at x;cases x;exact .inl rfl
 rcases s j M q with⟨rfl,rfl⟩|⟨t,q⟩
 ·have:=Bw C;omega
 have:=Bw q;omega
theorem ZcB{P:Program}{g:FuncId}(hs:Zfl P g):Ay P g NB:=by
 intro Φ ι σ w args xs Q hΦ H hargs q _;have G:=hargs.1;unfold NB at q;split at q
 ·match xs,G with
  | [x],_=>
    have M:=hargs.2 0 _ _ rfl rfl (λ_=>0);obtain⟨a,rfl⟩:=P2 M;refine(hs.2 a 0 w).mono ?_;rintro e w' ⟨rfl,rfl⟩;exact⟨_,.undef,σ,ι,rfl,q,hΦ,λβ=>.undef _,H,.refl _ _ _⟩
 ·rename_i l o n
  match xs,G with
  | [x],_=>
    have M:=hargs.2 0 _ _ rfl rfl (λ_=>0);rcases q with⟨rfl,hq⟩|⟨rfl,q⟩
    ·obtain⟨b1,g1,hc⟩:=Ge M;obtain⟨p,a,rfl⟩:∃p a,x= .slice p 0 a:=(by rcases hc with⟨c,rfl,_,_⟩|⟨_,_,rfl⟩<;>exact⟨_,_,rfl⟩);refine(hs.2 p a w).mono ?_;rintro e w' ⟨rfl,rfl⟩;exact⟨_,.undef,σ,ι,rfl,hq,hΦ,λβ=>.undef _,H,.refl _ _ _⟩
    obtain⟨b,s,hb,U,hz,hn0,hn,N,hQ⟩:=q;have R:Φ l=none:=(bR M).1 l 0 n rfl;have D:(kill Φ σ)[l]?=some b:=(by rw[Qb R];exact hb);obtain⟨b1,g1,hc⟩:=Ge M;rw[D]at g1;cases g1;rcases hc with⟨c,rfl,c1,c2⟩|⟨rfl,_⟩
    ·obtain⟨z0,arr,el,F,hsz,I⟩:=H.ownCells D U;rw[z0,E4];have hle:b.cs.length<=arr.size:=(by simpa using I.1);have hcl:n<=b.cs.length:=(by rw[N,CK];simp[Dx];omega);have A:∀j (J:j<n),arr[j]?=some (.int .i64 (s[j]'(by omega))):=by
      intro j J;have hcj:b.cs[j]?=some (.int .i64 (s[j]'(by omega))):=by
       rw[N,Bj (by simp[Dx];omega)];simp[Dx,A9 (show j<s.length by omega)]
      obtain⟨_,z,Z,Y⟩:=I.2 j _ hcj;have:=E0 (Y (λ_=>0));subst this;simpa using Z
     have hH:Holds (Value.int .i64) w (ι l).b 0 s.toArray:=by
      intro j J;have J:j<n:=(by simpa [hz]using J);refine⟨?_,?_⟩
      ·simp only[World.cell?,F,BG,A j J];rw[getElem!_pos _ j (by simp;omega)];simp
      simp only[World.frozen?,F];simp
     have C:=hs.1 (ι l).b 0 c s w hH (H.there l b D (by rw[U];decide)) (by omega);rw[hz]at C;refine C.mono ?_;rintro e w' ⟨rfl,m,os,rfl⟩;have O:=H.there l b D (by rw[U];decide);have t:=aC s;have y:(grow (putRow (Value.int .i64) (Sort.ahead w m) (ι l).b 0 (Dq s).toArray) os).heap=w.heap.modify (ι l).b (onCells (putCells (Value.int .i64) 0 (Dq s).toArray))++os:=rfl;have W:=Zec (w':=grow (putRow (Value.int .i64) (Sort.ahead w m) (ι l).b 0 (Dq s).toArray) os) (cs':=Dx (Dq s)++b.cs.drop n) (arr':=putCells (Value.int .i64) 0 (Dq s).toArray arr) (e:=el) H D U
      (by simp[Dx,t];omega) (by rw[y];simp) (λj J f9=>by
       rw[y,Array.getElem?_append_left (by simpa using J),Array.getElem?_modify,Ae (HD f9)]) (by
       rw[y,Array.getElem?_append_left (by simpa using O),Array.getElem?_modify,Ac rfl,F];rfl) (by simp[putCells,hsz]) (λi u L=>by
       have hpi:(putCells (Value.int .i64) 0 (Dq s).toArray arr)[i]?=(arr[i]?).map λx=>if i<n then .int .i64 ((Dq s).toArray)[i]! else x:=by
        simp[putCells,Array.getElem?_mapIdx,t,hz]
       rw[hpi];by_cases hi:i<n
       ·rw[Bj (by simp[Dx,t];omega)]at L;simp only[Dx,HI,A9 (show i<(Dq s).length by omega),Cq,Ao]at L;subst L;refine⟨rfl,_,by rw[A i hi];rfl,λβ=>?_⟩;simp only[Ac hi];rw[getElem!_pos _ i (by simp;omega)];simpa using Rel.int .i64 _
       rw[Da (by simp[Dx,t];omega)]at L;have hu':b.cs[i]?=some u:=by
        rw[Lz]at L;rw[<- L];congr 1;simp[Dx,t];omega
       obtain⟨q0,z,Z,Y⟩:=I.2 i u hu';refine⟨q0,z,?_,Y⟩;have:arr[i]?=some z:=(by simpa using Z);rw[this,Cq,Ae hi]) rfl rfl rfl
     refine⟨_,.undef,_,ι,rfl,hQ,hΦ.set R _,λβ=>.undef _,?_,?_⟩
     ·rw[W4 R];exact W.1
     rw[W4 R];exact W.2
    omega
 exact q.elim
@[irreducible] def D0(x:B3)(m:Int):B3×Int:=(shut λ(x:B3) (m:Int)=>(Dq x,m)).1 x m
@[irreducible] def VT(x:B3):Prop:=(shut λ(x:B3)=>x.length<4611686018427387904).1 x
theorem iA:D0=λx m=>(Dq x,m):=by unfold D0;exact(shut _).2
theorem iF:VT=λx=>x.length<4611686018427387904:=by unfold VT;exact(shut _).2
def ZL:DMk:=⟨.one (.sl (.one (.int .i64))),false,VT,D0,true⟩
def Fs(l:B3):List (List PV):=l.map λn=>[.fl (.int .i64 n)]
theorem ZcJ(l:B3):(Fs l).flatten=l.map λn=>.fl (.int .i64 n):=by
 induction l with
 |nil=>rfl
 |cons n r b=>simpa [Fs]using b
theorem kP{l:List Int}{k:Nat}(h:k<l.length):Aa (Fs l).flatten k= .fl (.int .i64 (l[k])):=by
 rw[ZcJ,DK,HI,A9 h];rfl
theorem Zau:LC NB (DMk.P ZL):=by
 unfold ZL;rw[iF,iA];rintro h ω hd P b AH us u m K Q hinj R hl hr ⟨(x:B3),rfl,d8,hK⟩ C;have R:us=[u]:=R;subst R;have s:RM h ω hd (P++[b+0]) (.sl .own (Fs x)) u:=hr 0 (by exact Nat.one_pos);have C:=λh' hO (U:RM h' ω hd (P++[b+0]) (.sl .own (Fs (Dq x))) u)=>C _ m h' hK rfl hO λc O=>by
  have O:c<1:=O;have:c=0:=(by omega);subst this;exact U
 show NB [u] h Q;have d8:x.length<4611686018427387904:=d8;have g:=aC x;generalize M:Fs x=es at s;have N:es=[]->Fs (Dq x)=[]:=by
  rintro rfl;have:x=[]:=by
   cases x with
   |nil=>rfl
   |cons=>cases M
  subst this;rw[Dg g];rfl
 rcases s with s|⟨e,l,o,rfl⟩;case inr=>
  cases e;rw[N rfl]at C;exact .inl ⟨rfl,C h (x_.refl _ _) (.inr ⟨rfl,l,o,rfl⟩)⟩
 cases s with
 | nil=>
   rw[N rfl]at C;exact C h (x_.refl _ _) (.inl (.nil _ _))
 | sl _ _ _ l o n X_ hb q O f9 hn hw hle hcell=>
   subst M;obtain⟨Z,rfl,A⟩:=O;have hx:x≠[]:=λe=>(by subst e;exact f9 rfl (.inl rfl) rfl);obtain⟨y,ys,rfl⟩:=List.exists_cons_of_ne_nil hx;generalize D:y::ys=zs at *;have t:0<zs.length:=(by rw[<- D];simp);have G:(Fs zs).length=zs.length:=(by simp[Fs]);have i:X_.w=1:=by
    have:=hw [.fl (.int .i64 y)] (by rw[<- D];simp[Fs]);simpa using this.symm
   rw[G]at hn hle hcell;rw[i,SZ,BG]at hle;rw[i,SZ]at hcell;have L:∀k (q:k<zs.length),X_.cs[k]?=some (.int .i64 (zs[k])):=by
    intro k q;have r:=hcell k q;rw[BG,kP q]at r;have e:get X_.cs k= .int .i64 (zs[k]):=by
     generalize get X_.cs k=z at r;cases r with
     |v=>rfl
    rw[CO,A9 (show k<X_.cs.length by omega)]at e;rw[A9 (show k<X_.cs.length by omega)];simpa using e
   have Y:X_.cs=Dx zs++X_.cs.drop n:=by
    apply IX;intro k;by_cases q:k<zs.length
    ·rw[Bj (by simp[Dx];omega),L k q];simp[Dx,A9 q]
    rw[Da (by simp[Dx];omega),Lz];congr 1;simp[Dx];omega
   have h_:=Bw hb;have F:(Dx (Dq zs)++X_.cs.drop n).length=X_.cs.length:=(by simp[Dx,g];omega);refine .inr ⟨rfl,X_,zs,hb,A,hn.symm,by omega,by omega,Y,?_⟩;refine C _ ⟨by simp,λj J=>?_,λj c J=>?_⟩ (.inl (.sl _ _ _ _ _ _ { X_ with cs:=Dx (Dq zs)++X_.cs.drop n } (by simp[h_]) q ⟨Z,rfl,A⟩ (λ_ _ e=>?_) ?_ ?_ ?_ ?_))
   ·rw[G4,Ae];intro e;subst e;exact J ⟨0,Fs zs,[],Nat.one_pos,rfl,by simpa using Z⟩
   ·rw[G4];by_cases e:l=j
    ·subst e;rw[hb]at J;cases J;exact⟨{ X_ with cs:=Dx (Dq zs)++X_.cs.drop n },by simp[h_],rfl,rfl,F⟩
    exact⟨c,by rw[Ae e];exact J,rfl,rfl,rfl⟩
   ·have:=congrArg List.length e;simp[Fs,g]at this;rw[this]at t;simp at t
   ·rw[hn];simp[Fs,g]
   ·intro e he;simp only[Fs,List.mem_map]at he;obtain⟨_,_,rfl⟩:=he;simp[i]
   ·simp only[Fs,Bd,g,i,F];omega
   intro k q;simp only[Fs,Bd,g,i,SZ]at q;have I:k<(Dq zs).length:=(by omega);rw[BG,kP I];have:get (Dx (Dq zs)++X_.cs.drop n) k= .int .i64 ((Dq zs)[k]):=by
    rw[CO,Bj (by simp[Dx];omega)];simp[Dx,A9 I]
   simp only[this];exact .v _ _ rfl
section
set_option maxRecDepth 8000
def uA:d4:=(A_ [2,0] 2 [B_ (.e_ 0 [Ad,.b_])] (A_ [3,2,0] 7 [Q' (.one (.int .i64)) (.d5 1 0 [] []),B_ (.build [Ad,.b_] [(1,1,7)]),G_ 3 (B_ (.e_ 1 [Ad,.b_])),E_ (.V_ 1 2 3 8)] (.seq [3,2,0] (A_ [11,3,2,0] 9 [D_ 0,I' Eg [9],P' 10] (.cond 11 (A_ [2] 12 [C' (.d7 1 (some 2) 3),E_ (.V_ 0 2 2 12)] .ret) .skip)) (.seq [3,2,0] (A_ [4,3,2,0] 4 [E' 0] (.block 0 (.loop [0,2,3,4] 1 (.seq [4,3,2,0] (A_ [16,4,3,2,0] 13 [C_ 4,D_ 0,L' 14,M' 13 15] (.cond 16 .skip (.exit 0))) (.seq [4,3,2,0] (.block 1 (A_ [34,4,3,2,0] 19 [D_ 0,C_ 4,N_ 5 19 20,J' 1 21,J' 0 22,O_ 23,Nm 24 (.c (.int .i64 2)),C_ 25,F' 26 (I_ (.a true (.mv 0) none)),F' 26 (Q_ 4),F' 26 (N_ 5 27 28),F' 26 (J' 1 29),F' 26 (J' 0 30),F' 26 (O_ 31),F' 26 (Nm 32 (.c (.int .i64 8))),L_ 26 AW 33] (.cond 34 (At 35 [J' 0 3,G' (rg 1) (J_ 1 35),D_ 0,C_ 4,G' [2,3] (N_ 5 37 38),G' [2,3,4] (J' 1 39),G' [2,3,4,5] (J' 2 40),G' [2,3,4,5,6] (O_ 41),G' (rg 8) (B_ (.bin .or 36 42)),G' (rg 9) (J' 0 3),G' (rg 10) (E_ (.V_ 1 1 44 43))]) .skip))) (At 17 [C_ 4,M_ 17 AA,G_ 4 (C_ 18)])))))) (.seq [3,2] (A_ [5,3,2,0] 5 [E' 1] (.block 2 (.loop [0,2,3,5] 1 (.seq [5,3,2,0] (A_ [46,5,3,2,0] 45 [C_ 5,B_ (.bin .leq 45 (.c (.int .i64 56)))] (.cond 46 .skip (.exit 2))) (.seq [5,3,2,0] (.block 3 (A_ [6,5,3,2,0] 6 [E' 0] (.block 4 (.loop [0,2,3,5,6] 1 (.seq [6,5,3,2,0] (A_ [52,6,5,3,2,0] 49 [C_ 6,D_ 0,L' 50,M' 49 51] (.cond 52 .skip (.exit 4))) (.seq [6,5,3,2,0] (.block 5 (A_ [62,6,5,3,2,0] 55 [D_ 0,C_ 6,N_ 5 55 56,J' 1 57,J' 1 58,O_ 59,C_ 5,Nm 60 61] (.cond 62 (A_ [5,3,2,0] 63 [J' 1 3,C' (.d7 1 none 63),C_ 5,Q' (.one (.int .i64)) (.d5 1 1 [Ad] [(0,1,65)]),B_ (.app 1 64 66),J' 1 3,E_ (.V_ 1 1 68 67)] (.exit 4)) .skip))) (At 53 [C_ 6,M_ 53 AA,G_ 6 (C_ 54)]))))))) (At 47 [C_ 5,M_ 47 AA,G_ 5 (C_ 48)])))))) (A_ [2] 69 [C' (.d7 1 (some 2) 3),E_ (.V_ 0 2 2 69)] .ret))))))
def GI:Fn:=⟨⟨1,70,2,false,[.cell 2 (some 2)],uA⟩,[.one .Z' (.sl AU)],.one (.agg [AN,(.own,.sl (.one (.int .i64)))])⟩
theorem Zd:GI.A:=AM ⟨Vu,trivial⟩
def CF:Bg->Int×List (Int):=GI.V
def Pm:Bg->Prop:=GI.O
theorem Zc:GI.B:=AO ⟨VK,trivial⟩ (by kernel_rfl) (λx=>by kernel_rfl)
def yR:d4:=(A_ [1,0] 4 [Q_ As] (.seq [] (A_ [9,8,7,1] 7 [D_ 0,L' 7,E' 0] (.block 0 (.loop [1,7,8,9] 1 (A_ [10,9,8,7,1] 10 [M' 9 8] (.seq [9,8,7,1] (.cond 10 .skip (.exit 0)) (.seq [9,8,7,1] (.block 1 (A_ [9,8,7,6,1] 11 [N_ 1 7 9,O_ 11,G_ 6 (C_ 12)] (A_ [15,9,8,7,1] 13 [C_ 6,C_ 1,Nm 13 14] (.cond 15 (A_ [4] 4 [Q_ AW] .ret) .skip)))) (At 16 [M_ 9 AA,G_ 9 (C_ 16)]))))))) (A_ [4] 4 [Q_ As] .ret)))
def Ix:Fn:=⟨⟨2,17,0,true,[.tmp 4],yR⟩,[.one .Z' (.sl (.one (.int .i64))),.one .Z' (.int .i64)],.one (.one .own (.bool))⟩
theorem yH:Ix.A:=AM trivial
def PE:EN->Bool:=Ix.V
def VD:EN->Prop:=Ix.O
theorem y4:Ix.B:=AO trivial (by kernel_rfl) (λx=>by kernel_rfl)
def yx:d4:=(A_ [0] 2 [Q_ (.c .b_)] (A_ [3] 7 [D_ 0,I' Ij [7],G_ 3 (C_ 8)] (A_ [3] 9 [D_ 3,I_ (.mark NB ZL 9 AL)] (A_ [4,3] 4 [Q_ (.c .b_)] (.seq [4] (A_ [13,12,11,4] 11 [D_ 3,L' 11,E' 0] (.block 0 (.loop [4,11,12,13] 1 (A_ [14,13,12,11,4] 14 [M' 13 12] (.seq [13,12,11,4] (.cond 14 .skip (.exit 0)) (.seq [13,12,11,4] (.block 1 (A_ [13,12,11,6,4] 15 [N_ 1 11 13,C' (.i5 none 15),G_ 6 (C_ 16)] (A_ [24,13,12,11,6,4] 17 [C_ 6,N' 17 AL,C_ 18,F_ 19 (I_ (.a true (.mv 4) none)),F_ 19 (Q_ 6),F_ 19 (I' Ix [20,21]),F_ 19 (P' 22),L_ 19 23 As] (.cond 24 (At 25 [C_ 4,C_ 6,Q' (.one (.int .i64)) (.d5 1 1 [Ad] [(0,1,26)]),B_ (.app 1 25 27),G_ 4 (C_ 28)]) .skip)))) (At 29 [M_ 13 AA,G_ 13 (C_ 29)]))))))) (A_ [2] 30 [C_ 4,G_ 2 (C_ 30)] .ret))))))
def Ir:Fn:=⟨⟨1,31,0,false,[.tmp 2],yx⟩,[.one .Z' (.sl (.one (.int .i64)))],.one (.one .own (.sl (.one (.int .i64))))⟩
theorem gM:Ir.A:=AM ⟨gr,Zau,yH,trivial⟩
def Mg:B3->List (Int):=Ir.V
def Ro:B3->Prop:=Ir.O
theorem gI:Ir.B:=AO ⟨gb,y4,trivial⟩ (by kernel_rfl) (λx=>by kernel_rfl)
def v8:d4:=(A_ [2,0] 2 [B_ (.e_ 0 [Ad,.b_])] (.seq [2,0] (A_ [9,2,0] 7 [D_ 0,I' EY [7],P' 8] (.cond 9 (A_ [2] 10 [B_ (.build [Ad,.b_] []),E_ (.V_ 0 2 2 10)] .ret) .skip)) (A_ [3,2,0] 3 [B_ (.e_ 1 [Ad,.b_])] (A_ [4,3,2,0] 4 [Q_ (.c .b_)] (.seq [4,3,2] (A_ [13,12,11,4,3,2] 11 [D_ 0,L' 11,E' 0] (.block 0 (.loop [2,3,4,11,12,13] 1 (A_ [14,13,12,11,4,3,2] 14 [M' 13 12] (.seq [13,12,11,4,3,2] (.cond 14 .skip (.exit 0)) (.seq [13,12,11,4,3,2] (.block 1 (A_ [13,12,11,6,4,3,2] 15 [N_ 5 11 13,C' (.i5 (some 5) 15),G_ 6 (B_ (.e_ 2 [Ad,Ad,Ad,Ad,Ad])),E_ (.V_ 2 5 6 16)] (.seq [13,12,11,6,4,3,2] (A_ [26,13,12,11,6,4,3,2] 17 [J' 1 6,J' 0 17,J_ 2 18,Nm 19 (.c (.int .i64 2)),C_ 20,F' 21 (J' 1 6),F' 21 (J' 0 22),F' 21 (J_ 2 23),F' 21 (Nm 24 (.c (.int .i64 8))),L_ 21 AW 25] (.cond 26 (At 27 [J' 0 3,J_ 1 27,J' 1 6,J' 2 29,J_ 2 30,B_ (.bin .or 28 31),J' 0 3,E_ (.V_ 1 1 33 32)]) .skip)) (At 34 [C_ 4,J' 1 6,J' 1 35,C' (.d7 2 none 36),Q' (.one (.int .i64)) (.d5 1 1 [Ad] [(0,1,37)]),B_ (.app 1 34 38),G_ 4 (C_ 39)])))) (At 40 [M_ 13 AA,G_ 13 (C_ 40)]))))))) (A_ [3,2] 41 [D_ 4,I' Ir [41],J' 1 3,E_ (.V_ 1 1 43 42)] (A_ [2] 44 [C' (.d7 1 (some 2) 3),E_ (.V_ 0 2 2 44)] .ret)))))))
def GK:Fn:=⟨⟨1,45,3,false,[.cell 2 (some 2)],v8⟩,[.one .Z' (.sl AU)],.one (.agg [AN,(.own,.sl (.one (.int .i64)))])⟩
theorem Ze:GK.A:=AM ⟨Vs,gM,trivial⟩
def Cd:Bg->Int×List (Int):=GK.V
def Pk:Bg->Prop:=GK.O
theorem Za:GK.B:=AO ⟨VG,gI,trivial⟩ (by kernel_rfl) (λx=>by kernel_rfl)
end
section
set_option maxRecDepth 100000
def Nk(x:Bg)(x0:Ar):Bool:=(c_ x0.1 (U_ x))
def O3(x:Bg)(x0:Ar):Ar:=((V' .i64 x0.1 1),(Y_ (w_ (g9 (So x (R_ x0.1) (0,0,0,0,0)).2.1 2) (g9 (So x (R_ x0.1) (0,0,0,0,0)).2.1 8)) (iOr .i64 x0.2 (So x (R_ x0.1) (0,0,0,0,0)).2.2.2.1) x0.2))
def Kb(x0:BE):Bool:=(iLe x0.1 56)
def O5(x:Bg)(x0:BE)(b:Int):Bool:=(W_ (c_ b (U_ x)) (U' (g9 (So x (R_ b) (0,0,0,0,0)).2.2.1 x0.1)))
def QX(b:Int):Int:=(V' .i64 b 1)
def L5(x:Bg)(x0:BE):BE:=((V' .i64 x0.1 1),(Y_ (c_ (Al (O5 x x0) QX 0) (U_ x)) (i9 x0.2 [x0.1]) x0.2))
def Ui(x:Bg)(x0:Ar):Prop:=(((c_ x0.1 (U_ x))=true->(((((0:Int)<=x0.1)/\(x0.1<(((List.length x):Int))))/\(((R_ x0.1)<(List.length x))/\(((g9 (So x (R_ x0.1) (0,0,0,0,0)).2.1 2)=true->True)/\((g9 (So x (R_ x0.1) (0,0,0,0,0)).2.1 2)=false->((((0:Int)<=x0.1)/\(x0.1<(((List.length x):Int))))/\((R_ x0.1)<(List.length x)))))))/\(((w_ (g9 (So x (R_ x0.1) (0,0,0,0,0)).2.1 2) (g9 (So x (R_ x0.1) (0,0,0,0,0)).2.1 8))=true->((((0:Int)<=x0.1)/\(x0.1<(((List.length x):Int))))/\((R_ x0.1)<(List.length x))))/\((w_ (g9 (So x (R_ x0.1) (0,0,0,0,0)).2.1 2) (g9 (So x (R_ x0.1) (0,0,0,0,0)).2.1 8))=false->True))))/\((c_ x0.1 (U_ x))=false->True))
def Uq(x:Bg)(x0:BE)(b:Int):Prop:=(((c_ b (U_ x))=true->((((0:Int)<=b)/\(b<(((List.length x):Int))))/\(((R_ b)<(List.length x))/\(((g9 (So x (R_ b) (0,0,0,0,0)).2.2.1 x0.1)=true->(AD (((List.length x0.2)+(List.length [x0.1]))*1)))/\((g9 (So x (R_ b) (0,0,0,0,0)).2.2.1 x0.1)=false->True)))))/\((c_ b (U_ x))=false->True))
def YN(x:Bg)(x0:BE):Prop:=(((iLe x0.1 56)=true->(Z_ (O5 x x0) QX (Uq x x0) 0))/\((iLe x0.1 56)=false->True))
theorem gk(x):CF x=Y_ (U' (EA x)) (0,[]) ((Al (Nk x) (O3 x) (0,0)).2,(Al Kb (L5 x) (1,[])).2):=(GI.v x).trans (by kernel_rfl)
theorem wo(x):Pm x=(Nw x/\(U' (EA x)=true->True)/\(U' (EA x)=false->Z_ (Nk x) (O3 x) (Ui x) (0,0)/\Z_ Kb (L5 x) (YN x) (1,[]))):=(GI.o x).trans (by kernel_rfl)
def UI(x:EN)(x0:Int):Bool:=(W_ (c_ x0 (U_ x.1)) (U' (g9 (So x.1 (R_ x0) 0) x.2)))
def Y0(x0:Int):Int:=(V' .i64 x0 1)
def Y4(x:EN)(x0:Int):Prop:=(((c_ x0 (U_ x.1))=true->((((0:Int)<=x0)/\(x0<(((List.length x.1):Int))))/\((R_ x0)<(List.length x.1))))/\((c_ x0 (U_ x.1))=false->True))
theorem yE(x):PE x=c_ (Al (UI x) Y0 0) (U_ x.1):=(Ix.v x).trans (by kernel_rfl)
theorem zf(x):VD x=Z_ (UI x) Y0 (Y4 x) 0:=(Ix.o x).trans (by kernel_rfl)
def Q4(x:B3)(x0:EN):Bool:=(c_ x0.2 (U_ (D0 (C7 x) 0).1))
def UC(x:B3)(x0:EN):EN:=((Y_ (W_ (i_ (So (D0 (C7 x) 0).1 (R_ x0.2) 0) 0) (U' (PE (x0.1,(So (D0 (C7 x) 0).1 (R_ x0.2) 0))))) (i9 x0.1 [(So (D0 (C7 x) 0).1 (R_ x0.2) 0)]) x0.1),(V' .i64 x0.2 1))
def YR(x:B3)(x0:EN):Prop:=(((c_ x0.2 (U_ (D0 (C7 x) 0).1))=true->((((0:Int)<=x0.2)/\(x0.2<(((List.length (D0 (C7 x) 0).1):Int))))/\(((R_ x0.2)<(List.length (D0 (C7 x) 0).1))/\((((i_ (So (D0 (C7 x) 0).1 (R_ x0.2) 0) 0)=true->(VD (x0.1,(So (D0 (C7 x) 0).1 (R_ x0.2) 0))))/\((i_ (So (D0 (C7 x) 0).1 (R_ x0.2) 0) 0)=false->True))/\(((W_ (i_ (So (D0 (C7 x) 0).1 (R_ x0.2) 0) 0) (U' (PE (x0.1,(So (D0 (C7 x) 0).1 (R_ x0.2) 0)))))=true->(AD (((List.length x0.1)+(List.length [(So (D0 (C7 x) 0).1 (R_ x0.2) 0)]))*1)))/\((W_ (i_ (So (D0 (C7 x) 0).1 (R_ x0.2) 0) 0) (U' (PE (x0.1,(So (D0 (C7 x) 0).1 (R_ x0.2) 0)))))=false->True))))))/\((c_ x0.2 (U_ (D0 (C7 x) 0).1))=false->True))
theorem xt(x):Mg x=(Al (Q4 x) (UC x) ([],0)).1:=(Ir.v x).trans (by kernel_rfl)
theorem xJ(x):Ro x=(Rc x/\(List.length (C7 x)=List.length (C7 x)/\DMk.ok (DMk.mk (RT.one (CT.sl (RT.one (CT.int IntKind.i64)))) false VT D0 true) (C7 x))/\Z_ (Q4 x) (UC x) (YR x) ([],0)):=(Ir.o x).trans (by kernel_rfl)
def J9(x:Bg)(x0:MR):Bool:=(c_ x0.2.1 (U_ x))
def Ka(x:Bg)(x0:MR):MR:=((i9 x0.1 [(So x (R_ x0.2.1) (0,0,0,0,0)).2.2.1]),(V' .i64 x0.2.1 1),(Y_ (w_ (g9 (So x (R_ x0.2.1) (0,0,0,0,0)).2.1 2) (g9 (So x (R_ x0.2.1) (0,0,0,0,0)).2.1 8)) (iOr .i64 x0.2.2 (So x (R_ x0.2.1) (0,0,0,0,0)).2.2.2.1) x0.2.2))
def Uw(x:Bg)(x0:MR):Prop:=(((c_ x0.2.1 (U_ x))=true->((((0:Int)<=x0.2.1)/\(x0.2.1<(((List.length x):Int))))/\(((R_ x0.2.1)<(List.length x))/\(AD (((List.length x0.1)+(List.length [(So x (R_ x0.2.1) (0,0,0,0,0)).2.2.1]))*1)))))/\((c_ x0.2.1 (U_ x))=false->True))
theorem vK(x):Cd x=Y_ (U' (Ct x)) (0,[]) ((Al (J9 x) (Ka x) ([],0,0)).2.2,Mg (Al (J9 x) (Ka x) ([],0,0)).1):=(GK.v x).trans (by kernel_rfl)
theorem vp(x):Pk x=(Nu x/\(U' (Ct x)=true->True)/\(U' (Ct x)=false->Z_ (J9 x) (Ka x) (Uw x) ([],0,0)/\Ro (Al (J9 x) (Ka x) ([],0,0)).1)):=(GK.o x).trans (by kernel_rfl)
attribute [irreducible] CF Pm PE VD Mg Ro Cd Pk
end
section
set_option maxRecDepth 8000
def z8:d4:=(A_ [2,1] 1 [O' 0 2 0,B_ (.e_ 1 [Ad,.b_])] (A_ [3,2,1] 5 [J' 0 1,C' (.d7 0 none 5),B_ (.build [Ad,.b_] [(0,1,6)]),G_ 3 (B_ (.e_ 2 [Ad,.b_])),E_ (.V_ 2 2 3 7)] (.seq [3,2] (A_ [4,3,2,1] 4 [E' 0] (.block 0 (.loop [1,2,3,4] 1 (.seq [4,3,2,1] (A_ [12,4,3,2,1] 8 [C_ 4,J' 1 1,J_ 0 9,L' 10,M' 8 11] (.cond 12 .skip (.exit 0))) (.seq [4,3,2,1] (.block 1 (.region [oa 0 15 (.f5 1 3),xB 1 16 (.d7 2 none 15) (rg 1),oa 3 18 (.f5 1 1),xA 4 19 (.d7 0 none 18) [3],om 5 20 4,xA 6 21 (.p_ 1 19 20) [3,4,5],xA 7 22 (.i5 none 21) [3,4,5,6],⟨2,some 17,.a false (.d5 4 0 [] []) (some AB),none,[]⟩,xA 8 23 (.app 4 17 22) [2,3,4,5,6,7],⟨9,some 24,.a false (.d5 1 1 [.b_] [(0,1,23)]) (some (.one (.sl AB))),none,[2,3,4,5,6,7,8]⟩,xA 10 25 (.app 1 16 24) (rg 10),xA 11 26 (.f5 1 3) (rg 11),xS 12 (.V_ 2 1 26 25) (rg 12)])) (At 13 [C_ 4,M_ 13 AA,G_ 4 (C_ 14)])))))) (A_ [2] 27 [C' (.d7 2 (some 2) 3),E_ (.V_ 1 2 2 27)] .ret))))
def K0:Fn:=⟨⟨1,28,3,false,[.cell 2 (some 2)],z8⟩,[.agg [Au,(.Z',.sl (.one (.sl AB)))]],.one (.agg [AN,(.own,.sl (.one (.sl AB)))])⟩
theorem zI:K0.A:=AM trivial
def RF:B0->Int×Cv:=K0.V
def Vv:B0->Prop:=K0.O
theorem yF:K0.B:=AO trivial (by kernel_rfl) (λx=>by kernel_rfl)
def ss:d4:=(A_ [2,1] 1 [O' 0 2 0,B_ (.e_ 1 [Ad,.b_])] (A_ [3,2,1] 6 [J' 0 1,C' (.d7 0 none 6),B_ (.build [Ad,.b_] [(0,1,7)]),G_ 3 (B_ (.e_ 2 [Ad,.b_])),E_ (.V_ 2 2 3 8)] (.seq [3,2] (A_ [12,11,10,3,2] 9 [J' 1 1,J_ 0 9,L' 10,E' 0] (.block 0 (.loop [2,3,10,11,12] 1 (A_ [13,12,11,10,3,2] 13 [M' 12 11] (.seq [12,11,10,3,2] (.cond 13 .skip (.exit 0)) (.seq [12,11,10,3,2] (.block 1 (A_ [12,11,10,5,3,2] 14 [N_ 1 10 12,O_ 14,G_ 5 (D_ 15)] (At 16 [J' 1 3,G' (rg 1) (C' (.d7 2 none 16)),D_ 5,G' [2] (B_ (.app 4 (.c .b_) 18)),G' [2,3] (Q' (.one (.sl AB)) (.d5 1 1 [.b_] [(0,1,19)])),G' (rg 5) (B_ (.app 1 17 20)),G' (rg 6) (J' 1 3),G' (rg 7) (E_ (.V_ 2 1 22 21))]))) (At 23 [M_ 12 AA,G_ 12 (C_ 23)]))))))) (A_ [2] 24 [C' (.d7 2 (some 2) 3),E_ (.V_ 1 2 2 24)] .ret))))
def Kc:Fn:=⟨⟨1,25,3,false,[.cell 2 (some 2)],ss⟩,[.agg [Au,(.Z',.sl (.one (.sl AB)))]],.one (.agg [AN,(.own,.sl (.one (.sl AB)))])⟩
theorem sr:Kc.A:=AM trivial
def Q6:B0->Int×Cv:=Kc.V
def Us:B0->Prop:=Kc.O
theorem q9:Kc.B:=AO trivial (by kernel_rfl) (λx=>by kernel_rfl)
end
section
set_option maxRecDepth 100000
def UT(x:B0)(x0:B0):Bool:=(c_ x0.1 (U_ x.2))
def Vc(x:B0)(x0:B0):B0:=((V' .i64 x0.1 1),(i9 x0.2 [(i9 [] (So x.2 (R_ x0.1) []))]))
def Y5(x:B0)(x0:B0):Prop:=(((c_ x0.1 (U_ x.2))=true->((((0:Int)<=x0.1)/\(x0.1<(((List.length x.2):Int))))/\(((R_ x0.1)<(List.length x.2))/\((AD (((List.length ([]:List Cw))+(List.length (So x.2 (R_ x0.1) [])))*4))/\(AD (((List.length x0.2)+(List.length [(i9 [] (So x.2 (R_ x0.1) []))]))*1))))))/\((c_ x0.1 (U_ x.2))=false->True))
theorem Zac(x):RF x=(x.1,(Al (UT x) (Vc x) (0,[])).2):=(K0.v x).trans (by kernel_rfl)
theorem zA(x):Vv x=Z_ (UT x) (Vc x) (Y5 x) (0,[]):=(K0.o x).trans (by kernel_rfl)
def T0(x:B0)(x0:B0):Bool:=(c_ x0.1 (U_ x.2))
def T7(x:B0)(x0:B0):B0:=((V' .i64 x0.1 1),(i9 x0.2 [(So x.2 (R_ x0.1) [])]))
def YC(x:B0)(x0:B0):Prop:=(((c_ x0.1 (U_ x.2))=true->((((0:Int)<=x0.1)/\(x0.1<(((List.length x.2):Int))))/\(((R_ x0.1)<(List.length x.2))/\((AD ((List.length (So x.2 (R_ x0.1) []))*4))/\(AD (((List.length x0.2)+(List.length [(So x.2 (R_ x0.1) [])]))*1))))))/\((c_ x0.1 (U_ x.2))=false->True))
theorem rD(x):Q6 x=(x.1,(Al (T0 x) (T7 x) (0,[])).2):=(Kc.v x).trans (by kernel_rfl)
theorem si(x):Us x=Z_ (T0 x) (T7 x) (YC x) (0,[]):=(Kc.o x).trans (by kernel_rfl)
attribute [irreducible] RF Vv Q6 Us
end
end
end Go.Ag
