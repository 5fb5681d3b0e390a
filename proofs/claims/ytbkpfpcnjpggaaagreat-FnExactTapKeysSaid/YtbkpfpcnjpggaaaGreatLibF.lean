/- Part 6 of what FnExactTapKeys needs. No conditions. -/
import Derived.Sort.Row
import Derived.Sort.Grow
import Derived.Test.YtbkpfpcnjpggaaaGreatLibE
namespace Go.Ag
set_option linter.unusedSimpArgs false
set_option linter.unusedVariables false
noncomputable section
section
set_option maxRecDepth 8000
def Zav:d5:=(A_ [1,0] 4 [E' 0] (A_ [1] 5 [C_ 1,D_ 0,L' 6,B_ (.bin .sub 5 7),G_ 1 (C_ 8)] (.seq [1] (A_ [10,1] 9 [C_ 1,M' 9 AQ] (.cond 10 (A_ [4] 4 [E' (-1)] .ret) .skip)) (A_ [4] 11 [C_ 1,G_ 4 (C_ 11)] .ret))))
def Lo:Fn:=⟨⟨2,12,0,true,[.tmp 4],Zav⟩,[.one .Z_ (.sl AS),.one .Z_ (.int .i64)],.one (.one .own (.int .i64))⟩
theorem zr:Lo.A:=AK trivial
def MK:D5->Int:=Lo.V
def Wf:D5->Prop:=Lo.O
theorem zP:Lo.B:=AM trivial (by kernel_rfl) (λx=>by kernel_rfl)
def xQ:d5:=(A_ [2,1] 1 [O' 0 4 0,B_ (.d7 1 [Ab,Ab,Ab,Ab])] (A_ [3,2,1] 3 [B_ (.d7 2 [Ab,Ab,Ab,Ab])] (A_ [3,2,1] 4 [J' 0 1,C' (.d6 0 none 4),J' 0 3,E_ (.U_ 2 1 6 5)] (A_ [3,2,1] 7 [J' 1 1,C' (.d6 0 none 7),J' 1 3,E_ (.U_ 2 1 9 8)] (A_ [3,2,1] 10 [J' 2 1,C' (.d6 0 none 10),J' 2 3,E_ (.U_ 2 1 12 11)] (A_ [3,2] 13 [J' 3 1,C' (.d6 0 none 13),J' 3 3,E_ (.U_ 2 1 15 14)] (A_ [2] 16 [C' (.d6 2 (some 4) 3),E_ (.U_ 1 4 2 16)] .ret)))))))
def IY:Fn:=⟨⟨1,17,3,true,[.cell 2 (some 4)],xQ⟩,[.agg [Av,Av,Av,Av]],.one (.agg [AF,AF,AF,AF])⟩
theorem ja:IY.A:=AK trivial
def Fv:CF->Int×Int×Int×Int:=IY.V
def P1:CF->Prop:=IY.O
theorem iT:IY.B:=AM trivial (by kernel_rfl) (λx=>by kernel_rfl)
def ZbD:d5:=(A_ [2,1] 1 [O' 0 5 0,B_ (.d7 1 [Ab,Ab,Ab,Ab,Ab])] (A_ [3,2,1] 3 [B_ (.d7 2 [Ab,Ab,Ab,Ab,Ab])] (A_ [3,2,1] 4 [J' 0 1,C' (.d6 0 none 4),J' 0 3,E_ (.U_ 2 1 6 5)] (A_ [3,2] 7 [J' 1 1,K_ 0 4 7,I' IY [8],J' 1 3,E_ (.U_ 2 4 10 9)] (A_ [2] 11 [C' (.d6 2 (some 5) 3),E_ (.U_ 1 5 2 11)] .ret)))))
def Lz:Fn:=⟨⟨1,12,3,true,[.cell 2 (some 5)],ZbD⟩,[.agg [Av,Av,Av,Av,Av]],.one (.agg [AF,AF,AF,AF,AF])⟩
theorem Zbj:Lz.A:=AK ⟨ja,trivial⟩
def Gs:Dk->Int×Int×Int×Int×Int:=Lz.V
def SM:Dk->Prop:=Lz.O
theorem Zbs:Lz.B:=AM ⟨iT,trivial⟩ (by kernel_rfl) (λx=>by kernel_rfl)
def zL:d5:=(A_ [0] 2 [Q_ (.c .X_)] (A_ [3,0] 5 [D_ 0,L' 5,Q' AS (.mkSlice 5 [Ab,Ab,Ab,Ab,Ab] 6),G_ 3 (C_ 7)] (.seq [3] (A_ [4,3,0] 4 [E' 0] (.block 0 (.loop [0,3,4] 1 (.seq [4,3,0] (A_ [11,4,3,0] 8 [C_ 4,D_ 0,L' 9,M' 8 10] (.cond 11 .skip (.exit 0))) (.seq [4,3,0] (.block 1 (At 14 [D_ 3,C_ 4,D_ 0,C_ 4,N_ 5 16 17,B_ (.g9 (some 5) 18),I' Lz [19],N_ 5 14 15,E_ (.f6 5 21 20)])) (At 12 [C_ 4,M_ 12 AD,G_ 4 (C_ 13)])))))) (A_ [2] 22 [C_ 3,G_ 2 (C_ 22)] .ret))))
def Lq:Fn:=⟨⟨1,23,0,false,[.tmp 2],zL⟩,[.one .Z_ (.sl AS)],.one (.one .own (.sl AS))⟩
theorem zS:Lq.A:=AK ⟨Zbj,trivial⟩
def WB:Bj->List Dk:=Lq.V
def Wj:Bj->Prop:=Lq.O
theorem zX:Lq.B:=AM ⟨Zbs,trivial⟩ (by kernel_rfl) (λx=>by kernel_rfl)
def wI:d5:=(A_ [1] 1 [O' 0 4 0,Q_ Ar] (A_ [2] 3 [K_ 0 4 1,I' Er [3],C_ 4,F_ 5 (J' 0 1),F_ 5 (J_ 0 6),F_ 5 (Nm 7 (.c (.int .i64 6))),F_ 5 (Q_ 8),F' 9 (J' 0 1),F' 9 (J_ 0 10),F' 9 (Nm 11 (.c (.int .i64 7))),F_ 5 (L_ 9 AU 12),L_ 5 13 Ar,G_ 2 (C_ 14)] .ret))
def FR:Fn:=⟨⟨1,15,1,true,[.tmp 2],wI⟩,[.agg [Av,Av,Av,Av]],.one (.one .own (.bool))⟩
theorem ZW:FR.A:=AK ⟨VT,trivial⟩
def KV:CF->Bool:=FR.V
def PW:CF->Prop:=FR.O
theorem ZV:FR.B:=AM ⟨VS,trivial⟩ (by kernel_rfl) (λx=>by kernel_rfl)
def Za2:d5:=(A_ [0] 2 [Q_ Ar] (A_ [3,0] 3 [E' 0] (.seq [] (A_ [4,3,0] 4 [E' 0] (.block 0 (.loop [0,3,4] 1 (.seq [4,3,0] (A_ [9,4,3,0] 6 [C_ 4,D_ 0,L' 7,M' 6 8] (.cond 9 .skip (.exit 0))) (.seq [4,3,0] (.block 1 (A_ [5,4,3,0] 12 [D_ 0,C_ 4,N_ 5 12 13,J' 1 14,C' (.g9 (some 4) 15),G_ 5 (B_ (.d7 0 [Ab,Ab,Ab,Ab])),E_ (.U_ 0 4 5 16)] (.seq [4,3,0] (A_ [48,4,3,0] 17 [D_ 0,C_ 4,N_ 5 17 18,J' 0 19,O_ 20,I' B0 [21,AQ,(.c (.int .i64 31))],P' 22,C_ 23,F' 24 (Q_ 3),F' 24 (I_ (.a true (.mv 0) none)),F' 24 (Q_ 4),F' 24 (N_ 5 26 27),F' 24 (J' 0 28),F' 24 (O_ 29),F' 24 (B_ (.bin .shr 25 30)),F' 24 (B_ (.bin .and 31 AD)),F' 24 (Nm 32 AD),L_ 24 AU 33,C_ 34,F' 35 (K_ 0 4 5),F' 35 (I' Er [36]),F' 35 (P' 37),L_ 35 AU 38,C_ 39,F' 40 (J' 0 5),F' 40 (J_ 0 41),F' 40 (Nm 42 AD),L_ 40 AU 43,C_ 44,F' 45 (K_ 0 4 5),F' 45 (I' FR [46]),L_ 45 AU 47] (.cond 48 (A_ [2] 2 [Q_ Ar] .ret) .skip)) (At 49 [C_ 3,D_ 0,C_ 4,N_ 5 50 51,J' 0 52,O_ 53,B_ (.bin .shl AD 54),B_ (.bin .or 49 55),G_ 3 (C_ 56)])))) (At 10 [C_ 4,M_ 10 AD,G_ 4 (C_ 11)])))))) (A_ [2] 2 [Q_ AU] .ret))))
def Et:Fn:=⟨⟨1,57,1,true,[.tmp 2],Za2⟩,[.one .Z_ (.sl AS)],.one (.one .own (.bool))⟩
theorem Wx:Et.A:=AK ⟨Gt,VT,ZW,trivial⟩
def EM:Bj->Bool:=Et.V
def Oe:Bj->Prop:=Et.O
theorem Wr:Et.B:=AM ⟨Gv,VS,ZV,trivial⟩ (by kernel_rfl) (λx=>by kernel_rfl)
def Zdq:d5:=(A_ [1,0] 4 [E' 0] (A_ [4] 5 [C_ 0,C_ 1,B_ (.bin .shr 5 6),B_ (.bin .and 7 AD),G_ 4 (C_ 8)] .ret))
def Hb:Fn:=⟨⟨2,9,0,true,[.tmp 4],Zdq⟩,[.one .Z_ (.int .i64),.one .Z_ (.int .i64)],.one (.one .own (.int .i64))⟩
theorem kX:Hb.A:=AK trivial
def Eu:Au->Int:=Hb.V
def W2:Au->Prop:=Hb.O
theorem lD:Hb.B:=AM trivial (by kernel_rfl) (λx=>by kernel_rfl)
def ZaA:d5:=(A_ [0] 2 [Q_ Ar] (A_ [3,0] 3 [E' 0] (.seq [] (A_ [8,7,6,3] 6 [D_ 0,L' 6,E' 0] (.block 0 (.loop [3,6,7,8] 1 (A_ [9,8,7,6,3] 9 [M' 8 7] (.seq [8,7,6,3] (.cond 9 .skip (.exit 0)) (.seq [8,7,6,3] (.block 1 (A_ [8,7,6,5,3] 10 [N_ 5 6 8,C' (.g9 (some 5) 10),G_ 5 (B_ (.d7 0 [Ab,Ab,Ab,Ab,Ab])),E_ (.U_ 0 5 5 11)] (.seq [8,7,6,5,3] (A_ [32,8,7,6,5,3] 12 [J' 0 5,J_ 0 12,M' 13 AQ,C_ 14,F' 15 (J' 0 5),F' 15 (J_ 0 16),F' 15 (B_ (.bin .gtr 17 (.c (.int .i64 31)))),L_ 15 AU 18,C_ 19,F' 20 (Q_ 3),F' 20 (J' 0 5),F' 20 (J_ 0 22),F' 20 (I' Hb [21,23]),F' 20 (Nm 24 AD),L_ 20 AU 25,C_ 26,F' 27 (J' 1 5),F' 27 (K_ 0 4 28),F' 27 (I' E2 [29]),F' 27 (P' 30),L_ 27 AU 31] (.cond 32 (A_ [2] 2 [Q_ Ar] .ret) .skip)) (.seq [8,7,6,5,3] (A_ [35,8,7,6,5,3] 33 [J' 1 5,J' 0 33,J_ 0 34] (.block 2 (.seq [36,8,7,6,5,3] (A_ [36,35,8,7,6,5,3] 37 [Nm 35 AD,G_ 36 (C_ 37)] (.cond 36 .skip (A_ [36,35,8,7,6,5,3] 38 [Nm 35 (.c (.int .i64 6)),G_ 36 (C_ 38)] (.cond 36 .skip (At 39 [Nm 35 (.c (.int .i64 7)),G_ 36 (C_ 39)]))))) (.cond 36 (A_ [2] 2 [Q_ Ar] .ret) .skip)))) (At 40 [C_ 3,J' 0 5,J_ 0 41,B_ (.bin .shl AD 42),B_ (.bin .or 40 43),G_ 3 (C_ 44)]))))) (At 45 [M_ 8 AD,G_ 8 (C_ 45)]))))))) (A_ [2] 2 [Q_ AU] .ret))))
def E7:Fn:=⟨⟨1,46,1,true,[.tmp 2],ZaA⟩,[.one .Z_ (.sl AS)],.one (.one .own (.bool))⟩
theorem WE:E7.A:=AK ⟨kX,V0,trivial⟩
def CC:Bj->Bool:=E7.V
def Oc:Bj->Prop:=E7.O
theorem Ws:E7.B:=AM ⟨lD,VR,trivial⟩ (by kernel_rfl) (λx=>by kernel_rfl)
def ZaT:d5:=(A_ [3,2] 2 [O' 0 5 0,O' 1 5 1,Q_ Ar] (.seq [3,2] (A_ [9,3,2] 5 [J' 0 2,J_ 0 5,J' 0 3,J_ 1 7,N' 6 8] (.cond 9 (A_ [4] 4 [Q_ Ar] .ret) .skip)) (.seq [] (A_ [15] 10 [J' 1 2,K_ 0 4 10,J' 1 3,K_ 1 4 12,I' IV [11,13],P' 14] (.cond 15 (A_ [4] 4 [Q_ Ar] .ret) .skip)) (A_ [4] 4 [Q_ AU] .ret))))
def LA:Fn:=⟨⟨2,16,2,true,[.tmp 4],ZaT⟩,[.agg [Av,Av,Av,Av,Av],.agg [Av,Av,Av,Av,Av]],.one (.one .own (.bool))⟩
theorem ZbR:LA.A:=AK ⟨iU,trivial⟩
def Ly:sq->Bool:=LA.V
def SQ:sq->Prop:=LA.O
theorem ZbE:LA.B:=AM ⟨iW,trivial⟩ (by kernel_rfl) (λx=>by kernel_rfl)
def Zaf:d5:=(A_ [1,0] 4 [Q_ Ar] (.seq [1,0] (A_ [10,1,0] 6 [D_ 0,L' 6,D_ 1,L' 8,N' 7 9] (.cond 10 (A_ [4] 4 [Q_ Ar] .ret) .skip)) (.seq [] (A_ [5,1,0] 5 [E' 0] (.block 0 (.loop [0,1,5] 1 (.seq [5,1,0] (A_ [14,5,1,0] 11 [C_ 5,D_ 0,L' 12,M' 11 13] (.cond 14 .skip (.exit 0))) (.seq [5,1,0] (.block 1 (A_ [26,5,1,0] 17 [D_ 0,C_ 5,G' (rg 2) (N_ 5 17 18),G' (rg 3) (B_ (.g9 (some 5) 19)),D_ 1,C_ 5,G' [4,5] (N_ 5 21 22),G' [4,5,6] (B_ (.g9 (some 5) 23)),G' (rg 8) (I' LA [20,24]),G' (rg 9) (P' 25)] (.cond 26 (A_ [4] 4 [Q_ Ar] .ret) .skip))) (At 15 [C_ 5,M_ 15 AD,G_ 5 (C_ 16)])))))) (A_ [4] 4 [Q_ AU] .ret))))
def Lt:Fn:=⟨⟨2,27,0,true,[.tmp 4],Zaf⟩,[.one .Z_ (.sl AS),.one .Z_ (.sl AS)],.one (.one .own (.bool))⟩
theorem zM:Lt.A:=AK ⟨ZbR,trivial⟩
def WC:Ge->Bool:=Lt.V
def Wc:Ge->Prop:=Lt.O
theorem z6:Lt.B:=AM ⟨ZbE,trivial⟩ (by kernel_rfl) (λx=>by kernel_rfl)
def yO:d5:=(A_ [1,0] 4 [E' 0] (A_ [5,1,0] 5 [E' 1] (.seq [5,1] (A_ [8,5,1,0] 7 [C_ 0,I' B0 [7,AQ,(.c (.int .i64 15))]] (.cond 8 (At 9 [C_ 0,B_ (.bin .or AD 9),G_ 5 (C_ 10)]) .skip)) (.seq [5] (A_ [6,5,1] 6 [E' 0] (.block 0 (.loop [1,5,6] 1 (.seq [6,5,1] (A_ [18,6,5,1] 11 [C_ 6,D_ 1,L' 12,M' 11 13,C_ 14,F_ 15 (I_ (.a true (.mv 1) none)),F_ 15 (I' Et [16]),L_ 15 17 Ar] (.cond 18 .skip (.exit 0))) (.seq [6,5,1] (.block 1 (A_ [27,6,5,1] 21 [D_ 1,C_ 6,N_ 5 21 22,J' 1 23,J' 0 24,O_ 25,Nm 26 (.c (.int .i64 3))] (.cond 27 (At 28 [C_ 5,D_ 1,C_ 6,N_ 5 29 30,J' 1 31,J' 3 32,O_ 33,B_ (.bin .shl AD 34),B_ (.bin .or 28 35),G_ 5 (C_ 36)]) .skip))) (At 19 [C_ 6,M_ 19 AD,G_ 6 (C_ 20)])))))) (A_ [4] 37 [C_ 5,G_ 4 (C_ 37)] .ret)))))
def K7:Fn:=⟨⟨2,38,0,true,[.tmp 4],yO⟩,[.one .Z_ (.int .i64),.one .Z_ (.sl AS)],.one (.one .own (.int .i64))⟩
theorem xt:K7.A:=AK ⟨Gt,Wx,trivial⟩
def SC:YZ->Int:=K7.V
def VZ:YZ->Prop:=K7.O
theorem yb:K7.B:=AM ⟨Gv,Wr,trivial⟩ (by kernel_rfl) (λx=>by kernel_rfl)
def yJ:d5:=(A_ [1,0] 4 [E' 0] (A_ [5,1,0] 5 [E' 1] (.seq [5,1] (A_ [13,5,1,0] 8 [C_ 0,B_ (.bin .geq 8 AQ),C_ 9,F_ 10 (Q_ 0),F_ 10 (B_ (.bin .leq 11 (.c (.int .i64 15)))),L_ 10 12 Ar] (.cond 13 (At 14 [C_ 5,C_ 0,B_ (.bin .or 14 15),G_ 5 (C_ 16)]) .skip)) (.seq [5,1] (A_ [19,5,1] 17 [D_ 1,I' E7 [17],P' 18] (.cond 19 (A_ [4] 20 [C_ 5,G_ 4 (C_ 20)] .ret) .skip)) (.seq [5] (A_ [23,22,21,5] 21 [D_ 1,L' 21,E' 0] (.block 0 (.loop [5,21,22,23] 1 (A_ [24,23,22,21,5] 24 [M' 23 22] (.seq [23,22,21,5] (.cond 24 .skip (.exit 0)) (.seq [23,22,21,5] (.block 1 (A_ [23,22,21,7,5] 25 [N_ 5 21 23,C' (.g9 (some 5) 25),G_ 7 (B_ (.d7 0 [Ab,Ab,Ab,Ab,Ab])),E_ (.U_ 0 5 7 26)] (A_ [30,23,22,21,7,5] 27 [J' 1 7,J' 0 27,J_ 0 28,Nm 29 (.c (.int .i64 3))] (.cond 30 (At 31 [C_ 5,J' 1 7,J' 3 32,J_ 0 33,B_ (.bin .shl AD 34),B_ (.bin .or 31 35),G_ 5 (C_ 36)]) .skip)))) (At 37 [M_ 23 AD,G_ 23 (C_ 37)]))))))) (A_ [4] 38 [C_ 5,G_ 4 (C_ 38)] .ret))))))
def K8:Fn:=⟨⟨2,39,1,true,[.tmp 4],yJ⟩,[.one .Z_ (.int .i64),.one .Z_ (.sl AS)],.one (.one .own (.int .i64))⟩
theorem yH:K8.A:=AK ⟨WE,trivial⟩
def E5:YZ->Int:=K8.V
def VP:YZ->Prop:=K8.O
theorem yo:K8.B:=AM ⟨Ws,trivial⟩ (by kernel_rfl) (λx=>by kernel_rfl)
end
section
set_option maxRecDepth 100000
theorem zF(x):MK x=Z' (b_ (iSub .i64 x.2 (V' x.1)) 0) (-1) (iSub .i64 x.2 (V' x.1)):=(Lo.v x).trans (by kernel_rfl)
theorem zB(x):Wf x=True:=(Lo.o x).trans (by kernel_rfl)
theorem yD(x):Fv x=(x.1,x.2.1,x.2.2.1,x.2.2.2):=(IY.v x).trans (by kernel_rfl)
theorem yY(x):P1 x=True:=(IY.o x).trans (by kernel_rfl)
theorem ZlP(x:Dk)(a)(_:a=Fv (x.2.1,x.2.2.1,x.2.2.2.1,x.2.2.2.2)):Gs x=(x.1,a.1,a.2.1,a.2.2.1,a.2.2.2):=by subst_vars;exact(Lz.v x).trans (by kernel_rfl)
abbrev ZaJ:=λx=>ZlP x _ rfl
theorem ZaE(x):SM x=P1 (x.2.1,x.2.2.1,x.2.2.2.1,x.2.2.2.2):=(Lz.o x).trans (by kernel_rfl)
theorem ZlT(x:Bj)(b)(_:b=λ(x0:D5)=>So x (R_ x0.2) (0,0,0,0,0))(a)(_:a=λ(x0:D5)=>Gs ((b x0).1,(b x0).2.1,(b x0).2.2.1,(b x0).2.2.2.1,(b x0).2.2.2.2))(c)(_:c=(λ(x0:D5)=>(lSet x0.1 (R_ x0.2) ((a x0).1,(a x0).2.1,(a x0).2.2.1,(a x0).2.2.2.1,(a x0).2.2.2.2),V_ .i64 x0.2 1)))(d)(_:d=V' x)(e)(_:e=(λ(x0:D5)=>b_ x0.2 d))(f)(_:f=lRep d (0,0,0,0,0)):WB x=(Am e c (f,0)).1/\Wj x=(((0:Int)<=d/\AE (Int.toNat d*5))/\a_ e c (λ(x0:D5)=>(b_ x0.2 d=true->((0:Int)<=x0.2/\x0.2<(List.length x:Int))/\R_ x0.2<List.length x/\SM ((b x0).1,(b x0).2.1,(b x0).2.2.1,(b x0).2.2.2.1,(b x0).2.2.2.2)/\((0:Int)<=x0.2/\x0.2<(List.length x0.1:Int))/\R_ x0.2<List.length x0.1)/\(b_ x0.2 d=false->True)) (f,0)):=by subst_vars;exact⟨(Lq.v x).trans (by kernel_rfl),(Lq.o x).trans (by kernel_rfl)⟩
abbrev zz:=λx=>(ZlT x _ rfl _ rfl _ rfl _ rfl _ rfl _ rfl).1
abbrev zJ:=λx=>(ZlT x _ rfl _ rfl _ rfl _ rfl _ rfl _ rfl).2
theorem ZM(x):KV x=W_ (Ej (x.1,x.2.1,x.2.2.1,x.2.2.2)) (t8 (g_ x.1 6) (g_ x.1 7)):=(FR.v x).trans (by kernel_rfl)
theorem vL(x):PW x=N5 (x.1,x.2.1,x.2.2.1,x.2.2.2):=(FR.o x).trans (by kernel_rfl)
theorem ZlW(x:Bj)(a)(_:a=λ(x0:Au)=>So x (R_ x0.2) (0,0,0,0,0))(c)(_:c=λ(x0:Au)=>U' (Ej ((a x0).2.1,(a x0).2.2.1,(a x0).2.2.2.1,(a x0).2.2.2.2)))(f)(_:f=λ(x0:Au)=>g_ (iAnd .i64 (iShr .i64 x0.1 (a x0).1) 1) 1)(i)(_:i=λ(x0:Au)=>U' (BU ((a x0).1,0,31)))(b)(_:b=λ(x0:Au)=>t8 (i x0) (t8 (f x0) (t8 (c x0) (t8 (g_ (a x0).2.1 1) (KV ((a x0).2.1,(a x0).2.2.1,(a x0).2.2.2.1,(a x0).2.2.2.2))))))(d)(_:d=List.length x)(e)(_:e=(λ(x0:Au)=>(iOr .i64 x0.1 (iShl .i64 1 (a x0).1),V_ .i64 x0.2 1)))(g)(_:g=λ(x0:Au)=>(0:Int)<=x0.2/\x0.2<(d:Int))(j)(_:j=V' x)(h)(_:h=(λ(x0:Au)=>W_ (b_ x0.2 j) (U' (b x0)))):EM x=U' (b_ (Am h e (0,0)).2 j)/\Oe x=a_ h e (λ(x0:Au)=>(b_ x0.2 j=true->g x0/\R_ x0.2<d/\(g x0/\R_ x0.2<d/\Ek ((a x0).1,0,31)/\(i x0=true->True)/\(i x0=false->g x0/\R_ x0.2<d/\(0:Int)<=(a x0).1/\(f x0=true->True)/\(f x0=false->N5 ((a x0).2.1,(a x0).2.2.1,(a x0).2.2.2.1,(a x0).2.2.2.2)/\(c x0=true->True)/\(c x0=false->(g_ (a x0).2.1 1=true->True)/\(g_ (a x0).2.1 1=false->PW ((a x0).2.1,(a x0).2.2.1,(a x0).2.2.2.1,(a x0).2.2.2.2))))))/\(b x0=true->True)/\(b x0=false->g x0/\R_ x0.2<d/\(0:Int)<=(a x0).1))/\(b_ x0.2 j=false->True)) (0,0):=by subst_vars;exact⟨(Et.v x).trans (by kernel_rfl),(Et.o x).trans (by kernel_rfl)⟩
abbrev ZbS:=λx=>(ZlW x _ rfl _ rfl _ rfl _ rfl _ rfl _ rfl _ rfl _ rfl _ rfl _ rfl).1
abbrev ZbW:=λx=>(ZlW x _ rfl _ rfl _ rfl _ rfl _ rfl _ rfl _ rfl _ rfl _ rfl _ rfl).2
theorem W1(x):Eu x=iAnd .i64 (iShr .i64 x.1 x.2) 1:=(Hb.v x).trans (by kernel_rfl)
theorem lv(x):W2 x=((0:Int)<=x.2):=(Hb.o x).trans (by kernel_rfl)
theorem ZlZ(x:Bj)(a)(_:a=λ(x0:Au)=>So x (R_ x0.2) (0,0,0,0,0))(f)(_:f=λ(x0:Au)=>g_ (Eu (x0.1,(a x0).1)) 1)(b)(_:b=λ(x0:Au)=>t8 (b_ (a x0).1 0) (t8 (iGt (a x0).1 31) (t8 (f x0) (U' (Cc ((a x0).2.1,(a x0).2.2.1,(a x0).2.2.2.1,(a x0).2.2.2.2))))))(c)(_:c=λ(x0:Au)=>t8 (g_ (a x0).2.1 1) (t8 (g_ (a x0).2.1 6) (g_ (a x0).2.1 7)))(g)(_:g=V' x)(d)(_:d=(λ(x0:Au)=>W_ (b_ x0.2 g) (W_ (U' (b x0)) (U' (c x0)))))(e)(_:e=(λ(x0:Au)=>(iOr .i64 x0.1 (iShl .i64 1 (a x0).1),V_ .i64 x0.2 1))):CC x=U' (b_ (Am d e (0,0)).2 g)/\Oc x=a_ d e (λ(x0:Au)=>(b_ x0.2 g=true->((0:Int)<=x0.2/\x0.2<(List.length x:Int))/\R_ x0.2<List.length x/\((b_ (a x0).1 0=true->True)/\(b_ (a x0).1 0=false->(iGt (a x0).1 31=true->True)/\(iGt (a x0).1 31=false->W2 (x0.1,(a x0).1)/\(f x0=true->True)/\(f x0=false->N8 ((a x0).2.1,(a x0).2.2.1,(a x0).2.2.2.1,(a x0).2.2.2.2)))))/\(b x0=true->True)/\(b x0=false->(c x0=true->True)/\(c x0=false->(0:Int)<=(a x0).1)))/\(b_ x0.2 g=false->True)) (0,0):=by subst_vars;exact⟨(E7.v x).trans (by kernel_rfl),(E7.o x).trans (by kernel_rfl)⟩
abbrev Wo:=λx=>(ZlZ x _ rfl _ rfl _ rfl _ rfl _ rfl _ rfl _ rfl).1
abbrev ZbC:=λx=>(ZlZ x _ rfl _ rfl _ rfl _ rfl _ rfl _ rfl _ rfl).2
theorem ZaH(x):Ly x=W_ (U' (j_ x.1.1 x.2.1)) (U' (U' (J0 ((x.1.2.1,x.1.2.2.1,x.1.2.2.2.1,x.1.2.2.2.2),x.2.2.1,x.2.2.2.1,x.2.2.2.2.1,x.2.2.2.2.2)))):=(LA.v x).trans (by kernel_rfl)
theorem Za3(x):SQ x=((j_ x.1.1 x.2.1=true->True)/\(j_ x.1.1 x.2.1=false->P2 ((x.1.2.1,x.1.2.2.1,x.1.2.2.2.1,x.1.2.2.2.2),x.2.2.1,x.2.2.2.1,x.2.2.2.2.1,x.2.2.2.2.2))):=(LA.o x).trans (by kernel_rfl)
theorem Zl4(x:Ge)(b)(_:b=λ(x0:Int)=>So x.1 (R_ x0) (0,0,0,0,0))(c)(_:c=λ(x0:Int)=>So x.2 (R_ x0) (0,0,0,0,0))(d)(_:d=V' x.1)(a)(_:a=(λ(x0:Int)=>W_ (b_ x0 d) (U' (U' (Ly (((b x0).1,(b x0).2.1,(b x0).2.2.1,(b x0).2.2.2.1,(b x0).2.2.2.2),(c x0).1,(c x0).2.1,(c x0).2.2.1,(c x0).2.2.2.1,(c x0).2.2.2.2))))))(e)(_:e=j_ d (V' x.2))(f)(_:f=(λ(x0:Int)=>V_ .i64 x0 1))(g)(_:g=List.length x.1)(h)(_:h=List.length x.2):WC x=W_ (U' e) (U' (b_ (Am a f 0) d))/\Wc x=((e=true->True)/\(e=false->a_ a f (λ(x0:Int)=>(b_ x0 d=true->((0:Int)<=x0/\x0<(g:Int))/\R_ x0<g/\((0:Int)<=x0/\x0<(h:Int))/\R_ x0<h/\SQ (((b x0).1,(b x0).2.1,(b x0).2.2.1,(b x0).2.2.2.1,(b x0).2.2.2.2),(c x0).1,(c x0).2.1,(c x0).2.2.1,(c x0).2.2.2.1,(c x0).2.2.2.2))/\(b_ x0 d=false->True)) 0)):=by subst_vars;exact⟨(Lt.v x).trans (by kernel_rfl),(Lt.o x).trans (by kernel_rfl)⟩
abbrev Zap:=λx=>(Zl4 x _ rfl _ rfl _ rfl _ rfl _ rfl _ rfl _ rfl _ rfl).1
abbrev Zai:=λx=>(Zl4 x _ rfl _ rfl _ rfl _ rfl _ rfl _ rfl _ rfl _ rfl).2
theorem Zl6(x:YZ)(b)(_:b=λ(x0:Au)=>So x.2 (R_ x0.2) (0,0,0,0,0))(a)(_:a=(λ(x0:Au)=>(Z' (g_ (b x0).2.1 3) (iOr .i64 x0.1 (iShl .i64 1 (b x0).2.2.2.2)) x0.1,V_ .i64 x0.2 1)))(f)(_:f=V' x.2)(c)(_:c=λ(x0:Au)=>W_ (b_ x0.2 f) (EM x.2))(d)(_:d=List.length x.2)(e)(_:e=Z' (BU (x.1,0,15)) (iOr .i64 1 x.1) 1)(g)(_:g=(λ(x0:Au)=>c x0)):SC x=(Am g a (e,0)).1/\VZ x=(Ek (x.1,0,15)/\a_ g a (λ(x0:Au)=>((b_ x0.2 f=true->Oe x.2)/\(b_ x0.2 f=false->True))/\(c x0=true->((0:Int)<=x0.2/\x0.2<(d:Int))/\R_ x0.2<d/\(g_ (b x0).2.1 3=true->((0:Int)<=x0.2/\x0.2<(d:Int))/\R_ x0.2<d/\(0:Int)<=(b x0).2.2.2.2)/\(g_ (b x0).2.1 3=false->True))/\(c x0=false->True)) (e,0)):=by subst_vars;exact⟨(K7.v x).trans (by kernel_rfl),(K7.o x).trans (by kernel_rfl)⟩
abbrev xZ:=λx=>(Zl6 x _ rfl _ rfl _ rfl _ rfl _ rfl _ rfl _ rfl).1
abbrev xO:=λx=>(Zl6 x _ rfl _ rfl _ rfl _ rfl _ rfl _ rfl _ rfl).2
theorem Zl9(x:YZ)(c)(_:c=λ(x0:Au)=>So x.2 (R_ x0.2) (0,0,0,0,0))(a)(_:a=(λ(x0:Au)=>(Z' (g_ (c x0).2.1 3) (iOr .i64 x0.1 (iShl .i64 1 (c x0).2.2.2.2)) x0.1,V_ .i64 x0.2 1)))(b)(_:b=Z' (W_ (iGe x.1 0) (iLe x.1 15)) (iOr .i64 1 x.1) 1)(f)(_:f=V' x.2)(d)(_:d=(λ(x0:Au)=>b_ x0.2 f))(e)(_:e=U' (CC x.2))(g)(_:g=List.length x.2):E5 x=Z' e b (Am d a (b,0)).1/\VP x=(Oc x.2/\(e=true->True)/\(e=false->a_ d a (λ(x0:Au)=>(b_ x0.2 f=true->((0:Int)<=x0.2/\x0.2<(g:Int))/\R_ x0.2<g/\(g_ (c x0).2.1 3=true->(0:Int)<=(c x0).2.2.2.2)/\(g_ (c x0).2.1 3=false->True))/\(b_ x0.2 f=false->True)) (b,0))):=by subst_vars;exact⟨(K8.v x).trans (by kernel_rfl),(K8.o x).trans (by kernel_rfl)⟩
abbrev xx:=λx=>(Zl9 x _ rfl _ rfl _ rfl _ rfl _ rfl _ rfl _ rfl).1
abbrev xH:=λx=>(Zl9 x _ rfl _ rfl _ rfl _ rfl _ rfl _ rfl _ rfl).2
attribute [irreducible] MK Wf Fv P1 Gs SM WB Wj KV PW EM Oe Eu W2 CC Oc Ly SQ WC Wc SC VZ E5 VP
end
section
set_option maxRecDepth 8000
def wN:d5:=(A_ [1,0] 4 [E' 0] (A_ [1] 5 [C_ 1,D_ 0,L' 6,B_ (.bin .sub 5 7),G_ 1 (C_ 8)] (.seq [1] (A_ [10,1] 9 [C_ 1,M' 9 AQ] (.cond 10 (A_ [4] 4 [E' (-1)] .ret) .skip)) (A_ [4] 11 [C_ 1,G_ 4 (C_ 11)] .ret))))
def K3:Fn:=⟨⟨2,12,0,true,[.tmp 4],wN⟩,[.one .Z_ (.sl Az),.one .Z_ (.int .i64)],.one (.one .own (.int .i64))⟩
theorem vT:K3.A:=AK trivial
def EH:L9->Int:=K3.V
def Sc:L9->Prop:=K3.O
theorem wD:K3.B:=AM trivial (by kernel_rfl) (λx=>by kernel_rfl)
def ux:d5:=(A_ [1,0] 4 [E' 0] (A_ [1,0] 6 [C_ 1,D_ 0,L' 7,B_ (.bin .sub 6 8),G_ 1 (C_ 9)] (.seq [1,0] (A_ [11,1,0] 10 [C_ 1,M' 10 AQ] (.cond 11 (A_ [4] 4 [E' (-1)] .ret) .skip)) (.seq [1] (A_ [5,1,0] 5 [E' 0] (.block 0 (.loop [0,1,5] 1 (.seq [5,1,0] (A_ [15,5,1,0] 12 [C_ 5,D_ 0,L' 13,M' 12 14] (.cond 15 .skip (.exit 0))) (.seq [5,1,0] (.block 1 (A_ [5,1,0] 18 [D_ 0,C_ 5,N_ 1 18 19,O_ 20,C_ 1,I' K3 [21,22],G_ 1 (C_ 23)] (A_ [25,5,1,0] 24 [C_ 1,M' 24 AQ] (.cond 25 (A_ [4] 4 [E' (-1)] .ret) .skip)))) (At 16 [C_ 5,M_ 16 AD,G_ 5 (C_ 17)])))))) (A_ [4] 26 [C_ 1,G_ 4 (C_ 26)] .ret)))))
def KU:Fn:=⟨⟨2,27,0,true,[.tmp 4],ux⟩,[.one .Z_ (.sl (.one (.sl Az))),.one .Z_ (.int .i64)],.one (.one .own (.int .i64))⟩
theorem uw:KU.A:=AK ⟨vT,trivial⟩
def MC:Mh->Int:=KU.V
def Vy:Mh->Prop:=KU.O
theorem uq:KU.B:=AM ⟨wD,trivial⟩ (by kernel_rfl) (λx=>by kernel_rfl)
def yw:d5:=(A_ [2,1] 2 [O' 0 2 0,G_ 4 (E' 0)] (A_ [1] 5 [J' 1 2,J_ 0 5,C_ 1,I' KU [6,7],G_ 1 (C_ 8)] (.seq [1] (A_ [10,1] 9 [C_ 1,M' 9 AQ] (.cond 10 (A_ [4] 4 [E' (-1)] .ret) .skip)) (A_ [4] 11 [C_ 1,G_ 4 (C_ 11)] .ret))))
def Lf:Fn:=⟨⟨2,12,1,true,[.tmp 4],yw⟩,[.agg [Av,(.Z_,.sl (.one (.sl Az)))],.one .Z_ (.int .i64)],.one (.one .own (.int .i64))⟩
theorem yi:Lf.A:=AK ⟨uw,trivial⟩
def Fw:Y5->Int:=Lf.V
def VO:Y5->Prop:=Lf.O
theorem xe:Lf.B:=AM ⟨uq,trivial⟩ (by kernel_rfl) (λx=>by kernel_rfl)
def vF:d5:=(A_ [0] 2 [Q_ (.c .X_)] (A_ [3,0] 5 [D_ 0,L' 5,Q' Az (.mkSlice 4 [Ab,Ab,Ab,Ab] 6),G_ 3 (C_ 7)] (.seq [3] (A_ [4,3,0] 4 [E' 0] (.block 0 (.loop [0,3,4] 1 (.seq [4,3,0] (A_ [11,4,3,0] 8 [C_ 4,D_ 0,L' 9,M' 8 10] (.cond 11 .skip (.exit 0))) (.seq [4,3,0] (.block 1 (At 14 [D_ 3,C_ 4,D_ 0,C_ 4,N_ 4 16 17,B_ (.g9 (some 4) 18),I' IY [19],N_ 4 14 15,E_ (.f6 4 21 20)])) (At 12 [C_ 4,M_ 12 AD,G_ 4 (C_ 13)])))))) (A_ [2] 22 [C_ 3,G_ 2 (C_ 22)] .ret))))
def KZ:Fn:=⟨⟨1,23,0,false,[.tmp 2],vF⟩,[.one .Z_ (.sl Az)],.one (.one .own (.sl Az))⟩
theorem vP:KZ.A:=AK ⟨ja,trivial⟩
def P5:DA->List CF:=KZ.V
def R7:DA->Prop:=KZ.O
theorem wH:KZ.B:=AM ⟨iT,trivial⟩ (by kernel_rfl) (λx=>by kernel_rfl)
def vo:d5:=(A_ [0] 2 [Q_ (.c .X_)] (A_ [3,0] 5 [D_ 0,L' 5,Q' (.one (.sl Az)) (.mkSlice 1 [.X_] 6),G_ 3 (C_ 7)] (.seq [3] (A_ [4,3,0] 4 [E' 0] (.block 0 (.loop [0,3,4] 1 (.seq [4,3,0] (A_ [11,4,3,0] 8 [C_ 4,D_ 0,L' 9,M' 8 10] (.cond 11 .skip (.exit 0))) (.seq [4,3,0] (.block 1 (At 14 [D_ 3,C_ 4,D_ 0,C_ 4,N_ 1 16 17,O_ 18,I' KZ [19],N_ 1 14 15,E_ (.f6 1 21 20)])) (At 12 [C_ 4,M_ 12 AD,G_ 4 (C_ 13)])))))) (A_ [2] 22 [C_ 3,G_ 2 (C_ 22)] .ret))))
def KS:Fn:=⟨⟨1,23,0,false,[.tmp 2],vo⟩,[.one .Z_ (.sl (.one (.sl Az)))],.one (.one .own (.sl (.one (.sl Az))))⟩
theorem ui:KS.A:=AK ⟨vP,trivial⟩
def VG:Cz->List DA:=KS.V
def Vx:Cz->Prop:=KS.O
theorem vz:KS.B:=AM ⟨wH,trivial⟩ (by kernel_rfl) (λx=>by kernel_rfl)
def xN:d5:=(A_ [2,1] 1 [O' 0 2 0,B_ (.d7 1 [Ab,.X_])] (A_ [3,2,1] 3 [B_ (.d7 2 [Ab,.X_])] (A_ [3,2,1] 4 [J' 0 1,C' (.d6 0 none 4),J' 0 3,E_ (.U_ 2 1 6 5)] (A_ [3,2] 7 [J' 1 1,J_ 0 7,I' KS [8],J' 1 3,E_ (.U_ 2 1 10 9)] (A_ [2] 11 [C' (.d6 2 (some 2) 3),E_ (.U_ 1 2 2 11)] .ret)))))
def Lh:Fn:=⟨⟨1,12,3,false,[.cell 2 (some 2)],xN⟩,[.agg [Av,(.Z_,.sl (.one (.sl Az)))]],.one (.agg [AF,(.own,.sl (.one (.sl Az)))])⟩
theorem yR:Lh.A:=AK ⟨ui,trivial⟩
def SK:Ca->Int×Cz:=Lh.V
def VU:Ca->Prop:=Lh.O
theorem xC:Lh.B:=AM ⟨vz,trivial⟩ (by kernel_rfl) (λx=>by kernel_rfl)
def za:d5:=(A_ [1] 1 [O' 0 2 0,Q_ Ar] (.seq [1] (A_ [3,1] 3 [E' 0] (.block 0 (.loop [1,3] 1 (.seq [3,1] (A_ [10,3,1] 6 [C_ 3,J' 1 1,J_ 0 7,L' 8,M' 6 9] (.cond 10 .skip (.exit 0))) (.seq [3,1] (.block 1 (.seq [3,1] (A_ [21,3,1] 13 [J' 1 1,G' (rg 1) (J_ 0 13),C_ 3,G' (rg 3) (N_ 1 14 15),G' (rg 4) (O_ 16),G' (rg 5) (L' 17),J' 0 1,G' [6] (J_ 0 19),G' (rg 8) (N' 18 20)] (.cond 21 (A_ [2] 2 [Q_ Ar] .ret) .skip)) (A_ [4,3,1] 4 [E' 0] (.block 2 (.loop [1,3,4] 1 (.seq [4,3,1] (A_ [29,4,3,1] 22 [C_ 4,J' 1 1,J_ 0 23,C_ 3,N_ 1 24 25,O_ 26,L' 27,M' 22 28] (.cond 29 .skip (.exit 2))) (.seq [4,3,1] (.block 3 (A_ [5,4,3,1] 32 [J' 1 1,J_ 0 32,C_ 3,N_ 1 33 34,O_ 35,C_ 4,N_ 4 36 37,C' (.g9 (some 4) 38),G_ 5 (B_ (.d7 1 [Ab,Ab,Ab,Ab])),E_ (.U_ 1 4 5 39)] (A_ [64,4,3,1] 40 [K_ 1 4 5,I' Er [40],P' 41,C_ 42,F' 43 (J' 0 5),F' 43 (J_ 1 44),F' 43 (Nm 45 AD),F' 43 (Q_ 46),F_ 47 (Q_ 3),F_ 47 (Nm 48 AQ),F' 43 (L_ 47 49 Ar),L_ 43 AU 50,C_ 51,F' 52 (J' 0 5),F' 52 (J_ 1 53),F' 52 (N' 54 (.c (.int .i64 9))),F' 52 (Q_ 55),F_ 56 (J' 3 5),F_ 56 (J_ 1 57),F_ 56 (J' 1 1),F_ 56 (J_ 0 59),F_ 56 (L' 60),F_ 56 (B_ (.bin .geq 58 61)),F' 52 (L_ 56 62 Ar),L_ 52 AU 63] (.cond 64 (A_ [2] 2 [Q_ Ar] .ret) .skip)))) (At 30 [C_ 4,M_ 30 AD,G_ 4 (C_ 31)])))))))) (At 11 [C_ 3,M_ 11 AD,G_ 3 (C_ 12)])))))) (A_ [2] 65 [J' 0 1,J_ 0 65,I' B0 [66,AD,(.c (.int .i64 32))],C_ 67,F_ 68 (J' 1 1),F_ 68 (J_ 0 69),F_ 68 (L' 70),F_ 68 (I' B0 [71,AD,(.c (.int .i64 4))]),L_ 68 72 Ar,G_ 2 (C_ 73)] .ret)))
def I7:Fn:=⟨⟨1,74,2,true,[.tmp 2],za⟩,[.agg [Av,(.Z_,.sl (.one (.sl Az)))]],.one (.one .own (.bool))⟩
theorem jc:I7.A:=AK ⟨VT,Gt,Gt,trivial⟩
def G1:Ca->Bool:=I7.V
def Sl:Ca->Prop:=I7.O
theorem iL:I7.B:=AM ⟨VS,Gv,Gv,trivial⟩ (by kernel_rfl) (λx=>by kernel_rfl)
def xP:d5:=(A_ [1] 1 [O' 0 2 0,Q_ Ar] (.seq [1] (A_ [26,1] 7 [J' 0 1,J_ 0 7,M' 8 AD,C_ 9,F' 10 (J' 0 1),F' 10 (J_ 0 11),F' 10 (B_ (.bin .gtr 12 (.c (.int .i64 32)))),L_ 10 AU 13,C_ 14,F' 15 (J' 1 1),F' 15 (J_ 0 16),F' 15 (L' 17),F' 15 (M' 18 AD),L_ 15 AU 19,C_ 20,F' 21 (J' 1 1),F' 21 (J_ 0 22),F' 21 (L' 23),F' 21 (B_ (.bin .gtr 24 (.c (.int .i64 4)))),L_ 21 AU 25] (.cond 26 (A_ [2] 2 [Q_ Ar] .ret) .skip)) (.seq [] (A_ [30,29,28,1] 27 [J' 1 1,J_ 0 27,L' 28,E' 0] (.block 0 (.loop [1,28,29,30] 1 (A_ [31,30,29,28,1] 31 [M' 30 29] (.seq [30,29,28,1] (.cond 31 .skip (.exit 0)) (.seq [30,29,28,1] (.block 1 (A_ [30,29,28,4,3,1] 32 [C_ 30,N_ 1 28 30,O_ 33,H_ 3 (C_ 32),D_ 34] (.seq [30,29,28,4,3,1] (A_ [39,30,29,28,4,3,1] 35 [D_ 4,L' 35,J' 0 1,J_ 0 37,N' 36 38] (.cond 39 (A_ [2] 2 [Q_ Ar] .ret) .skip)) (A_ [42,41,40,30,29,28,3,1] 40 [D_ 4,L' 40,E' 0] (.block 2 (.loop [1,3,28,29,30,40,41,42] 1 (A_ [43,42,41,40,30,29,28,3,1] 43 [M' 42 41] (.seq [42,41,40,30,29,28,3,1] (.cond 43 .skip (.exit 2)) (.seq [42,41,40,30,29,28,3,1] (.block 3 (A_ [42,41,40,30,29,28,6,3,1] 44 [N_ 4 40 42,C' (.g9 (some 4) 44),G_ 6 (B_ (.d7 1 [Ab,Ab,Ab,Ab])),E_ (.U_ 1 4 6 45)] (A_ [70,42,41,40,30,29,28,3,1] 46 [K_ 1 4 6,I' E2 [46],P' 47,C_ 48,F' 49 (Q_ 3),F' 49 (Nm 50 AQ),F' 49 (Q_ 51),F_ 52 (J' 0 6),F_ 52 (J_ 1 53),F_ 52 (Nm 54 AD),F' 49 (L_ 52 55 Ar),L_ 49 AU 56,C_ 57,F' 58 (J' 0 6),F' 58 (J_ 1 59),F' 58 (N' 60 (.c (.int .i64 9))),F' 58 (Q_ 61),F_ 62 (J' 3 6),F_ 62 (J_ 1 63),F_ 62 (J' 1 1),F_ 62 (J_ 0 65),F_ 62 (L' 66),F_ 62 (B_ (.bin .geq 64 67)),F' 58 (L_ 62 68 Ar),L_ 58 AU 69] (.cond 70 (A_ [2] 2 [Q_ Ar] .ret) .skip)))) (At 71 [M_ 42 AD,G_ 42 (C_ 71)])))))))))) (At 72 [M_ 30 AD,G_ 30 (C_ 72)]))))))) (A_ [2] 2 [Q_ AU] .ret))))
def K9:Fn:=⟨⟨1,73,2,true,[.tmp 2],xP⟩,[.agg [Av,(.Z_,.sl (.one (.sl Az)))]],.one (.one .own (.bool))⟩
theorem yf:K9.A:=AK ⟨V0,trivial⟩
def Ei:Ca->Bool:=K9.V
def Ss:Ca->Prop:=K9.O
theorem yF:K9.B:=AM ⟨VR,trivial⟩ (by kernel_rfl) (λx=>by kernel_rfl)
def wg:d5:=(A_ [1,0] 4 [Q_ Ar] (.seq [1,0] (A_ [10,1,0] 6 [D_ 0,L' 6,D_ 1,L' 8,N' 7 9] (.cond 10 (A_ [4] 4 [Q_ Ar] .ret) .skip)) (.seq [] (A_ [5,1,0] 5 [E' 0] (.block 0 (.loop [0,1,5] 1 (.seq [5,1,0] (A_ [14,5,1,0] 11 [C_ 5,D_ 0,L' 12,M' 11 13] (.cond 14 .skip (.exit 0))) (.seq [5,1,0] (.block 1 (A_ [26,5,1,0] 17 [D_ 0,C_ 5,G' (rg 2) (N_ 4 17 18),G' (rg 3) (B_ (.g9 (some 4) 19)),D_ 1,C_ 5,G' [4,5] (N_ 4 21 22),G' [4,5,6] (B_ (.g9 (some 4) 23)),G' (rg 8) (I' IV [20,24]),G' (rg 9) (P' 25)] (.cond 26 (A_ [4] 4 [Q_ Ar] .ret) .skip))) (At 15 [C_ 5,M_ 15 AD,G_ 5 (C_ 16)])))))) (A_ [4] 4 [Q_ AU] .ret))))
def KW:Fn:=⟨⟨2,27,0,true,[.tmp 4],wg⟩,[.one .Z_ (.sl Az),.one .Z_ (.sl Az)],.one (.one .own (.bool))⟩
theorem vE:KW.A:=AK ⟨iU,trivial⟩
def K4:su->Bool:=KW.V
def RZ:su->Prop:=KW.O
theorem wv:KW.B:=AM ⟨iW,trivial⟩ (by kernel_rfl) (λx=>by kernel_rfl)
def vw:d5:=(A_ [1,0] 4 [Q_ Ar] (.seq [1,0] (A_ [10,1,0] 6 [D_ 0,L' 6,D_ 1,L' 8,N' 7 9] (.cond 10 (A_ [4] 4 [Q_ Ar] .ret) .skip)) (.seq [] (A_ [5,1,0] 5 [E' 0] (.block 0 (.loop [0,1,5] 1 (.seq [5,1,0] (A_ [14,5,1,0] 11 [C_ 5,D_ 0,L' 12,M' 11 13] (.cond 14 .skip (.exit 0))) (.seq [5,1,0] (.block 1 (A_ [26,5,1,0] 17 [D_ 0,C_ 5,G' (rg 2) (N_ 1 17 18),G' (rg 3) (O_ 19),D_ 1,C_ 5,G' [4,5] (N_ 1 21 22),G' [4,5,6] (O_ 23),G' (rg 8) (I' KW [20,24]),G' (rg 9) (P' 25)] (.cond 26 (A_ [4] 4 [Q_ Ar] .ret) .skip))) (At 15 [C_ 5,M_ 15 AD,G_ 5 (C_ 16)])))))) (A_ [4] 4 [Q_ AU] .ret))))
def KR:Fn:=⟨⟨2,27,0,true,[.tmp 4],vw⟩,[.one .Z_ (.sl (.one (.sl Az))),.one .Z_ (.sl (.one (.sl Az)))],.one (.one .own (.bool))⟩
theorem vc:KR.A:=AK ⟨vE,trivial⟩
def VB:sm->Bool:=KR.V
def Vp:sm->Prop:=KR.O
theorem uU:KR.B:=AM ⟨wv,trivial⟩ (by kernel_rfl) (λx=>by kernel_rfl)
def xX:d5:=(A_ [3,2] 2 [O' 0 2 0,O' 1 2 1,Q_ Ar] (.seq [3,2] (A_ [9,3,2] 5 [J' 0 2,J_ 0 5,J' 0 3,J_ 1 7,N' 6 8] (.cond 9 (A_ [4] 4 [Q_ Ar] .ret) .skip)) (.seq [] (A_ [15] 10 [J' 1 2,J_ 0 10,J' 1 3,J_ 1 12,I' KR [11,13],P' 14] (.cond 15 (A_ [4] 4 [Q_ Ar] .ret) .skip)) (A_ [4] 4 [Q_ AU] .ret))))
def La:Fn:=⟨⟨2,16,2,true,[.tmp 4],xX⟩,[.agg [Av,(.Z_,.sl (.one (.sl Az)))],.agg [Av,(.Z_,.sl (.one (.sl Az)))]],.one (.one .own (.bool))⟩
theorem xM:La.A:=AK ⟨vc,trivial⟩
def Qf:ss->Bool:=La.V
def V5:ss->Prop:=La.O
theorem yS:La.B:=AM ⟨uU,trivial⟩ (by kernel_rfl) (λx=>by kernel_rfl)
def zY:d5:=(A_ [3,2,1] 3 [O' 0 2 0,G_ 6 (E' 0)] (.seq [3,2,1] (A_ [18,3,2,1] 8 [K_ 0 2 3,I' I7 [8],P' 9,C_ 10,F' 11 (Q_ 2),F' 11 (J' 0 3),F' 11 (J_ 0 13),F' 11 (B_ (.bin .sub 14 AD)),F' 11 (I' B0 [12,AQ,15]),F' 11 (P' 16),L_ 11 AU 17] (.cond 18 (A_ [6] 6 [E' (-1)] .ret) .skip)) (.seq [] (A_ [7,3,2,1] 19 [J' 1 3,J_ 0 19,L' 20,B_ (.bin .sub 21 AD),G_ 7 (C_ 22)] (.block 0 (.loop [1,2,3,7] 1 (.seq [7,3,2,1] (A_ [24,7,3,2,1] 23 [C_ 7,B_ (.bin .gtr 23 AQ)] (.cond 24 .skip (.exit 0))) (.seq [7,3,2,1] (.block 1 (A_ [43,7,3,2,1] 27 [C_ 1,C_ 7,B_ (.bin .shr 27 28),B_ (.bin .and 29 AD),Nm 30 AD,C_ 31,F_ 32 (J' 1 3),F_ 32 (J_ 0 33),F_ 32 (Q_ 7),F_ 32 (N_ 1 34 35),F_ 32 (O_ 36),F_ 32 (Q_ 2),F_ 32 (N_ 4 37 38),F_ 32 (J' 0 39),F_ 32 (O_ 40),F_ 32 (N' 41 AD),L_ 32 42 Ar] (.cond 43 (A_ [6] 44 [C_ 7,G_ 6 (C_ 44)] .ret) .skip))) (At 25 [C_ 7,B_ (.bin .sub 25 AD),G_ 7 (C_ 26)])))))) (A_ [6] 6 [E' 0] .ret))))
def Lp:Fn:=⟨⟨3,45,1,true,[.tmp 6],zY⟩,[.agg [Av,(.Z_,.sl (.one (.sl Az)))],.one .Z_ (.int .i64),.one .Z_ (.int .i64)],.one (.one .own (.int .i64))⟩
theorem z7:Lp.A:=AK ⟨jc,Gt,trivial⟩
def FW:Kk->Int:=Lp.V
def Wl:Kk->Prop:=Lp.O
theorem zw:Lp.B:=AM ⟨iL,Gv,trivial⟩ (by kernel_rfl) (λx=>by kernel_rfl)
def zh:d5:=(A_ [3,2,1] 3 [O' 0 2 0,G_ 6 (E' 0)] (.seq [] (A_ [7,3,2,1] 8 [J' 1 3,J_ 0 8,L' 9,B_ (.bin .sub 10 AD),G_ 7 (C_ 11)] (.block 0 (.loop [1,2,3,7] 1 (.seq [7,3,2,1] (A_ [13,7,3,2,1] 12 [C_ 7,B_ (.bin .gtr 12 AQ)] (.cond 13 .skip (.exit 0))) (.seq [7,3,2,1] (.block 1 (A_ [31,7,3,2,1] 16 [C_ 1,C_ 7,I' Hb [16,17],Nm 18 AD,C_ 19,F_ 20 (J' 1 3),F_ 20 (J_ 0 21),F_ 20 (Q_ 7),F_ 20 (N_ 1 22 23),F_ 20 (O_ 24),F_ 20 (Q_ 2),F_ 20 (N_ 4 25 26),F_ 20 (J' 0 27),F_ 20 (O_ 28),F_ 20 (N' 29 AD),L_ 20 30 Ar] (.cond 31 (A_ [6] 32 [C_ 7,G_ 6 (C_ 32)] .ret) .skip))) (At 14 [C_ 7,B_ (.bin .sub 14 AD),G_ 7 (C_ 15)])))))) (A_ [6] 6 [E' 0] .ret)))
def Ll:Fn:=⟨⟨3,33,1,true,[.tmp 6],zh⟩,[.agg [Av,(.Z_,.sl (.one (.sl Az)))],.one .Z_ (.int .i64),.one .Z_ (.int .i64)],.one (.one .own (.int .i64))⟩
theorem zQ:Ll.A:=AK ⟨kX,trivial⟩
def SU:Kk->Int:=Ll.V
def SB:Kk->Prop:=Ll.O
theorem Zat:Ll.B:=AM ⟨lD,trivial⟩ (by kernel_rfl) (λx=>by kernel_rfl)
def yq:d5:=(A_ [6,3,2,1] 3 [O' 0 2 0,G_ 6 (B_ (.d7 1 [Ab,Ab,Ab,Ab]))] (A_ [7,6,3,2] 8 [K_ 0 2 3,C_ 1,C_ 2,I' Lp [8,9,10],G_ 7 (C_ 11)] (.seq [7,6,3,2] (A_ [13,7,6,3,2] 12 [C_ 7,M' 12 AQ] (.cond 13 (A_ [6] 14 [B_ (.build [Ab,Ab,Ab,Ab] []),E_ (.U_ 1 4 6 14)] .ret) .skip)) (A_ [6] 15 [J' 1 3,J_ 0 15,C_ 7,N_ 1 16 17,O_ 18,C_ 2,N_ 4 19 20,C' (.g9 (some 4) 21),E_ (.U_ 1 4 6 22)] .ret))))
def Lg:Fn:=⟨⟨3,23,2,true,[.cell 6 (some 4)],yq⟩,[.agg [Av,(.Z_,.sl (.one (.sl Az)))],.one .Z_ (.int .i64),.one .Z_ (.int .i64)],.one (.agg [AF,AF,AF,AF])⟩
theorem yX:Lg.A:=AK ⟨z7,trivial⟩
def Wg:Kk->Int×Int×Int×Int:=Lg.V
def V1:Kk->Prop:=Lg.O
theorem xL:Lg.B:=AM ⟨zw,trivial⟩ (by kernel_rfl) (λx=>by kernel_rfl)
end
section
set_option maxRecDepth 100000
theorem wE(x):EH x=Z' (b_ (iSub .i64 x.2 (V' x.1)) 0) (-1) (iSub .i64 x.2 (V' x.1)):=(K3.v x).trans (by kernel_rfl)
theorem v8(x):Sc x=True:=(K3.o x).trans (by kernel_rfl)
theorem Zme(x:Mh)(e)(_:e=V' x.1)(b)(_:b=iSub .i64 x.2 e)(f)(_:f=λ(x0:Au)=>So x.1 (R_ x0.2) [])(c)(_:c=(λ(x0:Au)=>W_ (b_ x0.2 e) (U' (b_ (EH (f x0,x0.1)) 0))))(d)(_:d=(λ(x0:Au)=>(EH (f x0,x0.1),V_ .i64 x0.2 1)))(a)(_:a=Am c d (b,0))(g)(_:g=List.length x.1)(h)(_:h=b_ b 0):MC x=Z' h (-1) (Z' (b_ a.2 e) (-1) a.1)/\Vy x=((h=true->True)/\(h=false->a_ c d (λ(x0:Au)=>(b_ x0.2 e=true->((0:Int)<=x0.2/\x0.2<(g:Int))/\R_ x0.2<g/\Sc (f x0,x0.1))/\(b_ x0.2 e=false->True)) (b,0))):=by subst_vars;exact⟨(KU.v x).trans (by kernel_rfl),(KU.o x).trans (by kernel_rfl)⟩
abbrev uc:=λx=>(Zme x _ rfl _ rfl _ rfl _ rfl _ rfl _ rfl _ rfl _ rfl).1
abbrev uZ:=λx=>(Zme x _ rfl _ rfl _ rfl _ rfl _ rfl _ rfl _ rfl _ rfl).2
theorem xG(x):Fw x=Z' (b_ (MC (x.1.2,x.2)) 0) (-1) (MC (x.1.2,x.2)):=(Lf.v x).trans (by kernel_rfl)
theorem xi(x):VO x=Vy (x.1.2,x.2):=(Lf.o x).trans (by kernel_rfl)
theorem Zmj(x:DA)(b)(_:b=λ(x0:L9)=>So x (R_ x0.2) (0,0,0,0))(a)(_:a=λ(x0:L9)=>Fv ((b x0).1,(b x0).2.1,(b x0).2.2.1,(b x0).2.2.2))(c)(_:c=(λ(x0:L9)=>(lSet x0.1 (R_ x0.2) ((a x0).1,(a x0).2.1,(a x0).2.2.1,(a x0).2.2.2),V_ .i64 x0.2 1)))(d)(_:d=V' x)(e)(_:e=(λ(x0:L9)=>b_ x0.2 d))(f)(_:f=lRep d (0,0,0,0)):P5 x=(Am e c (f,0)).1/\R7 x=(((0:Int)<=d/\AE (Int.toNat d*4))/\a_ e c (λ(x0:L9)=>(b_ x0.2 d=true->((0:Int)<=x0.2/\x0.2<(List.length x:Int))/\R_ x0.2<List.length x/\P1 ((b x0).1,(b x0).2.1,(b x0).2.2.1,(b x0).2.2.2)/\((0:Int)<=x0.2/\x0.2<(List.length x0.1:Int))/\R_ x0.2<List.length x0.1)/\(b_ x0.2 d=false->True)) (f,0)):=by subst_vars;exact⟨(KZ.v x).trans (by kernel_rfl),(KZ.o x).trans (by kernel_rfl)⟩
abbrev vW:=λx=>(Zmj x _ rfl _ rfl _ rfl _ rfl _ rfl _ rfl).1
abbrev wj:=λx=>(Zmj x _ rfl _ rfl _ rfl _ rfl _ rfl _ rfl).2
theorem Zml(x:Cz)(a)(_:a=(λ(x0:Mh)=>(lSet x0.1 (R_ x0.2) (P5 (So x (R_ x0.2) [])),V_ .i64 x0.2 1)))(b)(_:b=V' x)(c)(_:c=(λ(x0:Mh)=>b_ x0.2 b)):VG x=(Am c a (lRep b [],0)).1/\Vx x=(((0:Int)<=b/\AE (Int.toNat b*1))/\a_ c a (λ(x0:Mh)=>(b_ x0.2 b=true->((0:Int)<=x0.2/\x0.2<(List.length x:Int))/\R_ x0.2<List.length x/\R7 (So x (R_ x0.2) [])/\((0:Int)<=x0.2/\x0.2<(List.length x0.1:Int))/\R_ x0.2<List.length x0.1)/\(b_ x0.2 b=false->True)) (lRep b [],0)):=by subst_vars;exact⟨(KS.v x).trans (by kernel_rfl),(KS.o x).trans (by kernel_rfl)⟩
abbrev uj:=λx=>(Zml x _ rfl _ rfl _ rfl).1
abbrev uR:=λx=>(Zml x _ rfl _ rfl _ rfl).2
theorem wZ(x):SK x=(x.1,VG x.2):=(Lh.v x).trans (by kernel_rfl)
theorem y4(x):VU x=Vx x.2:=(Lh.o x).trans (by kernel_rfl)
theorem Zmo(x:Ca)(d)(_:d=λ(x0:Int)=>So x.2 (R_ x0) [])(c)(_:c=λ(x0:Int)(n:Int)=>So (d x0) (R_ n) (0,0,0,0))(g)(_:g=V' x.2)(k)(_:k=λ(x0:Int)=>V' (d x0))(a)(_:a=λ(x0:Int)=>λ(n:Int)=>W_ (b_ n (k x0)) (U' (t8 (U' (Ej ((c x0 n).1,(c x0 n).2.1,(c x0 n).2.2.1,(c x0 n).2.2.2))) (Z' (g_ (c x0 n).1 1) (t8 (g_ x0 0) (W_ (j_ (c x0 n).1 9) (iGe (c x0 n).2.2.2 g))) (W_ (j_ (c x0 n).1 9) (iGe (c x0 n).2.2.2 g))))))(i)(_:i=(λ(n:Int)=>V_ .i64 n 1))(b)(_:b=(λ(x0:Int)=>W_ (b_ x0 g) (W_ (U' (j_ (k x0) x.1)) (U' (b_ (Am (a x0) i 0) (k x0))))))(h)(_:h=(λ(x0:Int)=>V_ .i64 x0 1))(e)(_:e=b_ (Am b h 0) g)(f)(_:f=List.length x.2)(j)(_:j=BU (x.1,1,32))(l)(_:l=λ(x0:Int)=>(0:Int)<=x0/\x0<(f:Int)):G1 x=W_ (U' e) (W_ j (BU (g,1,4)))/\Sl x=(a_ b h (λ(x0:Int)=>(b_ x0 g=true->l x0/\R_ x0<f/\(j_ (k x0) x.1=true->True)/\(j_ (k x0) x.1=false->a_ (a x0) i (λ(n:Int)=>l x0/\R_ x0<f/\(b_ n (k x0)=true->l x0/\R_ x0<f/\((0:Int)<=n/\n<(List.length (d x0):Int))/\R_ n<List.length (d x0)/\N5 ((c x0 n).1,(c x0 n).2.1,(c x0 n).2.2.1,(c x0 n).2.2.2))/\(b_ n (k x0)=false->True)) 0))/\(b_ x0 g=false->True)) 0/\(e=true->True)/\(e=false->Ek (x.1,1,32)/\(j=true->Ek (g,1,4))/\(j=false->True))):=by subst_vars;exact⟨(I7.v x).trans (by kernel_rfl),(I7.o x).trans (by kernel_rfl)⟩
abbrev xd:=λx=>(Zmo x _ rfl _ rfl _ rfl _ rfl _ rfl _ rfl _ rfl _ rfl _ rfl _ rfl _ rfl _ rfl).1
abbrev yN:=λx=>(Zmo x _ rfl _ rfl _ rfl _ rfl _ rfl _ rfl _ rfl _ rfl _ rfl _ rfl _ rfl _ rfl).2
theorem Zmr(x:Ca)(e)(_:e=λ(x0:Int)=>So x.2 (R_ x0) [])(b)(_:b=λ(x0:Int)(n:Int)=>So (e x0) (R_ n) (0,0,0,0))(f)(_:f=V' x.2)(i)(_:i=λ(x0:Int)=>V' (e x0))(a)(_:a=λ(x0:Int)=>λ(n:Int)=>W_ (b_ n (i x0)) (U' (t8 (U' (Cc ((b x0 n).1,(b x0 n).2.1,(b x0 n).2.2.1,(b x0 n).2.2.2))) (Z' (g_ x0 0) (t8 (g_ (b x0 n).1 1) (W_ (j_ (b x0 n).1 9) (iGe (b x0 n).2.2.2 f))) (W_ (j_ (b x0 n).1 9) (iGe (b x0 n).2.2.2 f))))))(h)(_:h=(λ(n:Int)=>V_ .i64 n 1))(c)(_:c=(λ(x0:Int)=>W_ (b_ x0 f) (W_ (U' (j_ (i x0) x.1)) (U' (b_ (Am (a x0) h 0) (i x0))))))(d)(_:d=t8 (b_ x.1 1) (t8 (iGt x.1 32) (t8 (b_ f 1) (iGt f 4))))(g)(_:g=(λ(x0:Int)=>V_ .i64 x0 1))(j)(_:j=List.length x.2):Ei x=W_ (U' d) (U' (b_ (Am c g 0) f))/\Ss x=((d=true->True)/\(d=false->a_ c g (λ(x0:Int)=>(b_ x0 f=true->((0:Int)<=x0/\x0<(j:Int))/\R_ x0<j/\(j_ (i x0) x.1=true->True)/\(j_ (i x0) x.1=false->a_ (a x0) h (λ(n:Int)=>(b_ n (i x0)=true->((0:Int)<=n/\n<(List.length (e x0):Int))/\R_ n<List.length (e x0)/\N8 ((b x0 n).1,(b x0 n).2.1,(b x0 n).2.2.1,(b x0 n).2.2.2))/\(b_ n (i x0)=false->True)) 0))/\(b_ x0 f=false->True)) 0)):=by subst_vars;exact⟨(K9.v x).trans (by kernel_rfl),(K9.o x).trans (by kernel_rfl)⟩
abbrev Z6:=λx=>(Zmr x _ rfl _ rfl _ rfl _ rfl _ rfl _ rfl _ rfl _ rfl _ rfl _ rfl).1
abbrev yh:=λx=>(Zmr x _ rfl _ rfl _ rfl _ rfl _ rfl _ rfl _ rfl _ rfl _ rfl _ rfl).2
theorem Zmu(x:su)(b)(_:b=λ(x0:Int)=>So x.1 (R_ x0) (0,0,0,0))(c)(_:c=λ(x0:Int)=>So x.2 (R_ x0) (0,0,0,0))(d)(_:d=V' x.1)(a)(_:a=(λ(x0:Int)=>W_ (b_ x0 d) (U' (U' (J0 (((b x0).1,(b x0).2.1,(b x0).2.2.1,(b x0).2.2.2),(c x0).1,(c x0).2.1,(c x0).2.2.1,(c x0).2.2.2))))))(e)(_:e=j_ d (V' x.2))(f)(_:f=(λ(x0:Int)=>V_ .i64 x0 1))(g)(_:g=List.length x.1)(h)(_:h=List.length x.2):K4 x=W_ (U' e) (U' (b_ (Am a f 0) d))/\RZ x=((e=true->True)/\(e=false->a_ a f (λ(x0:Int)=>(b_ x0 d=true->((0:Int)<=x0/\x0<(g:Int))/\R_ x0<g/\((0:Int)<=x0/\x0<(h:Int))/\R_ x0<h/\P2 (((b x0).1,(b x0).2.1,(b x0).2.2.1,(b x0).2.2.2),(c x0).1,(c x0).2.1,(c x0).2.2.1,(c x0).2.2.2))/\(b_ x0 d=false->True)) 0)):=by subst_vars;exact⟨(KW.v x).trans (by kernel_rfl),(KW.o x).trans (by kernel_rfl)⟩
abbrev wP:=λx=>(Zmu x _ rfl _ rfl _ rfl _ rfl _ rfl _ rfl _ rfl _ rfl).1
abbrev wA:=λx=>(Zmu x _ rfl _ rfl _ rfl _ rfl _ rfl _ rfl _ rfl _ rfl).2
theorem Zmx(x:sm)(b)(_:b=V' x.1)(a)(_:a=(λ(x0:Int)=>W_ (b_ x0 b) (U' (U' (K4 (So x.1 (R_ x0) [],So x.2 (R_ x0) []))))))(c)(_:c=j_ b (V' x.2))(d)(_:d=(λ(x0:Int)=>V_ .i64 x0 1))(e)(_:e=List.length x.1)(f)(_:f=List.length x.2):VB x=W_ (U' c) (U' (b_ (Am a d 0) b))/\Vp x=((c=true->True)/\(c=false->a_ a d (λ(x0:Int)=>(b_ x0 b=true->((0:Int)<=x0/\x0<(e:Int))/\R_ x0<e/\((0:Int)<=x0/\x0<(f:Int))/\R_ x0<f/\RZ (So x.1 (R_ x0) [],So x.2 (R_ x0) []))/\(b_ x0 b=false->True)) 0)):=by subst_vars;exact⟨(KR.v x).trans (by kernel_rfl),(KR.o x).trans (by kernel_rfl)⟩
abbrev uM:=λx=>(Zmx x _ rfl _ rfl _ rfl _ rfl _ rfl _ rfl).1
abbrev uV:=λx=>(Zmx x _ rfl _ rfl _ rfl _ rfl _ rfl _ rfl).2
theorem yl(x):Qf x=W_ (U' (j_ x.1.1 x.2.1)) (U' (U' (VB (x.1.2,x.2.2)))):=(La.v x).trans (by kernel_rfl)
theorem wS(x):V5 x=((j_ x.1.1 x.2.1=true->True)/\(j_ x.1.1 x.2.1=false->Vp (x.1.2,x.2.2))):=(La.o x).trans (by kernel_rfl)
theorem ZmC(x:Kk)(d)(_:d=λ(x0:Int)=>g_ (iAnd .i64 (iShr .i64 x.2.1 x0) 1) 1)(h)(_:h=λ(x0:Int)=>So x.1.2 (R_ x0) [])(a)(_:a=(λ(x0:Int)=>W_ (iGt x0 0) (U' (W_ (d x0) (j_ (So (h x0) (R_ x.2.2) (0,0,0,0)).1 1)))))(e)(_:e=U' (G1 (x.1.1,x.1.2)))(i)(_:i=iSub .i64 x.1.1 1)(b)(_:b=t8 e (U' (BU (x.2.2,0,i))))(f)(_:f=(λ(x0:Int)=>iSub .i64 x0 1))(g)(_:g=iSub .i64 (V' x.1.2) 1)(c)(_:c=Am a f g)(j)(_:j=List.length x.1.2):FW x=Z' b (-1) (Z' (iGt c 0) c 0)/\Wl x=((Sl (x.1.1,x.1.2)/\(e=true->True)/\(e=false->Ek (x.2.2,0,i)))/\(b=true->True)/\(b=false->a_ a f (λ(x0:Int)=>(iGt x0 0=true->(0:Int)<=x0/\(d x0=true->((0:Int)<=x0/\x0<(j:Int))/\R_ x0<j/\((0:Int)<=x.2.2/\x.2.2<(List.length (h x0):Int))/\R_ x.2.2<List.length (h x0))/\(d x0=false->True))/\(iGt x0 0=false->True)) g)):=by subst_vars;exact⟨(Lp.v x).trans (by kernel_rfl),(Lp.o x).trans (by kernel_rfl)⟩
abbrev zN:=λx=>(ZmC x _ rfl _ rfl _ rfl _ rfl _ rfl _ rfl _ rfl _ rfl _ rfl _ rfl).1
abbrev Zah:=λx=>(ZmC x _ rfl _ rfl _ rfl _ rfl _ rfl _ rfl _ rfl _ rfl _ rfl _ rfl).2
theorem ZmF(x:Kk)(e)(_:e=λ(x0:Int)=>So x.1.2 (R_ x0) [])(g)(_:g=λ(x0:Int)=>g_ (Eu (x.2.1,x0)) 1)(a)(_:a=(λ(x0:Int)=>W_ (iGt x0 0) (U' (W_ (g x0) (j_ (So (e x0) (R_ x.2.2) (0,0,0,0)).1 1)))))(c)(_:c=(λ(x0:Int)=>iSub .i64 x0 1))(d)(_:d=iSub .i64 (V' x.1.2) 1)(b)(_:b=Am a c d)(f)(_:f=List.length x.1.2):SU x=Z' (iGt b 0) b 0/\SB x=a_ a c (λ(x0:Int)=>(iGt x0 0=true->W2 (x.2.1,x0)/\(g x0=true->((0:Int)<=x0/\x0<(f:Int))/\R_ x0<f/\((0:Int)<=x.2.2/\x.2.2<(List.length (e x0):Int))/\R_ x.2.2<List.length (e x0))/\(g x0=false->True))/\(iGt x0 0=false->True)) d:=by subst_vars;exact⟨(Ll.v x).trans (by kernel_rfl),(Ll.o x).trans (by kernel_rfl)⟩
abbrev aq:=λx=>(ZmF x _ rfl _ rfl _ rfl _ rfl _ rfl _ rfl _ rfl).1
abbrev zC:=λx=>(ZmF x _ rfl _ rfl _ rfl _ rfl _ rfl _ rfl _ rfl).2
@[irreducible] def B6(x:Kk):Int:=(Z' (t8 (U' (Ei (x.1.1,x.1.2))) (t8 (b_ x.2.2 0) (iGe x.2.2 x.1.1))) (-1) (SU ((x.1.1,x.1.2),x.2.1,x.2.2)))
@[irreducible] def Wk(x:Kk):Prop:=((Ss (x.1.1,x.1.2))/\(((t8 (U' (Ei (x.1.1,x.1.2))) (t8 (b_ x.2.2 0) (iGe x.2.2 x.1.1)))=true->True)/\((t8 (U' (Ei (x.1.1,x.1.2))) (t8 (b_ x.2.2 0) (iGe x.2.2 x.1.1)))=false->(SB ((x.1.1,x.1.2),x.2.1,x.2.2)))))
theorem ZmI(x:Kk)(a)(_:a=FW ((x.1.1,x.1.2),x.2.1,x.2.2))(c)(_:c=So x.1.2 (R_ a) [])(b)(_:b=So c (R_ x.2.2) (0,0,0,0))(d)(_:d=List.length x.1.2)(e)(_:e=b_ a 0):Wg x=Z' e (0,0,0,0) (b.1,b.2.1,b.2.2.1,b.2.2.2)/\V1 x=(Wl ((x.1.1,x.1.2),x.2.1,x.2.2)/\(e=true->True)/\(e=false->((0:Int)<=a/\a<(d:Int))/\R_ a<d/\((0:Int)<=x.2.2/\x.2.2<(List.length c:Int))/\R_ x.2.2<List.length c)):=by subst_vars;exact⟨(Lg.v x).trans (by kernel_rfl),(Lg.o x).trans (by kernel_rfl)⟩
abbrev yr:=λx=>(ZmI x _ rfl _ rfl _ rfl _ rfl _ rfl).1
abbrev wY:=λx=>(ZmI x _ rfl _ rfl _ rfl _ rfl _ rfl).2
@[irreducible] def JZ(x:Kk):Int×Int×Int×Int:=(Z' (b_ (B6 ((x.1.1,x.1.2),x.2.1,x.2.2)) 0) (0,0,0,0) ((So (So x.1.2 (R_ (B6 ((x.1.1,x.1.2),x.2.1,x.2.2))) []) (R_ x.2.2) (0,0,0,0)).1,(So (So x.1.2 (R_ (B6 ((x.1.1,x.1.2),x.2.1,x.2.2))) []) (R_ x.2.2) (0,0,0,0)).2.1,(So (So x.1.2 (R_ (B6 ((x.1.1,x.1.2),x.2.1,x.2.2))) []) (R_ x.2.2) (0,0,0,0)).2.2.1,(So (So x.1.2 (R_ (B6 ((x.1.1,x.1.2),x.2.1,x.2.2))) []) (R_ x.2.2) (0,0,0,0)).2.2.2))
@[irreducible] def iM(x:Kk):Prop:=((Wk ((x.1.1,x.1.2),x.2.1,x.2.2))/\(((b_ (B6 ((x.1.1,x.1.2),x.2.1,x.2.2)) 0)=true->True)/\((b_ (B6 ((x.1.1,x.1.2),x.2.1,x.2.2)) 0)=false->((((0:Int)<=(B6 ((x.1.1,x.1.2),x.2.1,x.2.2)))/\((B6 ((x.1.1,x.1.2),x.2.1,x.2.2))<(((List.length x.1.2):Int))))/\(((R_ (B6 ((x.1.1,x.1.2),x.2.1,x.2.2)))<(List.length x.1.2))/\((((0:Int)<=x.2.2)/\(x.2.2<(((List.length (So x.1.2 (R_ (B6 ((x.1.1,x.1.2),x.2.1,x.2.2))) [])):Int))))/\((R_ x.2.2)<(List.length (So x.1.2 (R_ (B6 ((x.1.1,x.1.2),x.2.1,x.2.2))) [])))))))))
attribute [irreducible] EH Sc MC Vy Fw VO P5 R7 VG Vx SK VU G1 Sl Ei Ss K4 RZ VB Vp Qf V5 FW Wl SU SB Wg V1
end
section
set_option maxRecDepth 8000
def zH:d5:=(A_ [1,0] 4 [E' 0] (A_ [1] 5 [C_ 1,D_ 0,L' 6,B_ (.bin .sub 5 7),G_ 1 (C_ 8)] (.seq [1] (A_ [10,1] 9 [C_ 1,M' 9 AQ] (.cond 10 (A_ [4] 4 [E' (-1)] .ret) .skip)) (A_ [4] 11 [C_ 1,G_ 4 (C_ 11)] .ret))))
def Lr:Fn:=⟨⟨2,12,0,true,[.tmp 4],zH⟩,[.one .Z_ (.sl AO),.one .Z_ (.int .i64)],.one (.one .own (.int .i64))⟩
theorem zK:Lr.A:=AK trivial
def EK:Mj->Int:=Lr.V
def SL:Mj->Prop:=Lr.O
theorem Zan:Lr.B:=AM trivial (by kernel_rfl) (λx=>by kernel_rfl)
def xE:d5:=(A_ [1,0] 4 [E' 0] (A_ [1,0] 6 [C_ 1,D_ 0,L' 7,B_ (.bin .sub 6 8),G_ 1 (C_ 9)] (.seq [1,0] (A_ [11,1,0] 10 [C_ 1,M' 10 AQ] (.cond 11 (A_ [4] 4 [E' (-1)] .ret) .skip)) (.seq [1] (A_ [5,1,0] 5 [E' 0] (.block 0 (.loop [0,1,5] 1 (.seq [5,1,0] (A_ [15,5,1,0] 12 [C_ 5,D_ 0,L' 13,M' 12 14] (.cond 15 .skip (.exit 0))) (.seq [5,1,0] (.block 1 (A_ [5,1,0] 18 [D_ 0,C_ 5,N_ 1 18 19,O_ 20,C_ 1,I' Lr [21,22],G_ 1 (C_ 23)] (A_ [25,5,1,0] 24 [C_ 1,M' 24 AQ] (.cond 25 (A_ [4] 4 [E' (-1)] .ret) .skip)))) (At 16 [C_ 5,M_ 16 AD,G_ 5 (C_ 17)])))))) (A_ [4] 26 [C_ 1,G_ 4 (C_ 26)] .ret)))))
def Lb:Fn:=⟨⟨2,27,0,true,[.tmp 4],xE⟩,[.one .Z_ (.sl (.one (.sl AO))),.one .Z_ (.int .i64)],.one (.one .own (.int .i64))⟩
theorem w9:Lb.A:=AK ⟨zK,trivial⟩
def HU:HD->Int:=Lb.V
def V7:HD->Prop:=Lb.O
theorem xp:Lb.B:=AM ⟨Zan,trivial⟩ (by kernel_rfl) (λx=>by kernel_rfl)
def xj:d5:=(A_ [2,1] 2 [O' 0 7 0,G_ 4 (E' 0)] (A_ [2,1] 5 [J' 0 2,K_ 0 2 5,C_ 1,I' Lf [6,7],G_ 1 (C_ 8)] (.seq [2,1] (A_ [10,2,1] 9 [C_ 1,M' 9 AQ] (.cond 10 (A_ [4] 4 [E' (-1)] .ret) .skip)) (A_ [2,1] 11 [J' 2 2,J_ 0 11,C_ 1,I' Lb [12,13],G_ 1 (C_ 14)] (.seq [2,1] (A_ [16,2,1] 15 [C_ 1,M' 15 AQ] (.cond 16 (A_ [4] 4 [E' (-1)] .ret) .skip)) (A_ [1] 17 [J' 4 2,J_ 0 17,C_ 1,I' Lo [18,19],G_ 1 (C_ 20)] (.seq [1] (A_ [22,1] 21 [C_ 1,M' 21 AQ] (.cond 22 (A_ [4] 4 [E' (-1)] .ret) .skip)) (A_ [4] 23 [C_ 1,G_ 4 (C_ 23)] .ret))))))))
def Le:Fn:=⟨⟨2,24,1,true,[.tmp 4],xj⟩,[.agg [Av,(.Z_,.sl (.one (.sl Az))),(.Z_,.sl (.one (.sl AO))),Av,(.Z_,.sl AS),Av,(.Z_,.bool)],.one .Z_ (.int .i64)],.one (.one .own (.int .i64))⟩
theorem xf:Le.A:=AK ⟨yi,w9,zr,trivial⟩
def JW:Gg->Int:=Le.V
def V4:Gg->Prop:=Le.O
theorem xn:Le.B:=AM ⟨xe,xp,zP,trivial⟩ (by kernel_rfl) (λx=>by kernel_rfl)
def Zbv:d5:=(A_ [2,1] 1 [O' 0 3 0,B_ (.d7 1 [Ab,Ab,Ab])] (A_ [3,2,1] 3 [B_ (.d7 2 [Ab,Ab,Ab])] (A_ [3,2,1] 4 [J' 0 1,C' (.d6 0 none 4),J' 0 3,E_ (.U_ 2 1 6 5)] (A_ [3,2,1] 7 [J' 1 1,C' (.d6 0 none 7),J' 1 3,E_ (.U_ 2 1 9 8)] (A_ [3,2] 10 [J' 2 1,C' (.d6 0 none 10),J' 2 3,E_ (.U_ 2 1 12 11)] (A_ [2] 13 [C' (.d6 2 (some 3) 3),E_ (.U_ 1 3 2 13)] .ret))))))
def LD:Fn:=⟨⟨1,14,3,true,[.cell 2 (some 3)],Zbv⟩,[.agg [Av,Av,Av]],.one (.agg [AF,AF,AF])⟩
theorem Zbg:LD.A:=AK trivial
def J1:DD->Int×Int×Int:=LD.V
def SO:DD->Prop:=LD.O
theorem ZaG:LD.B:=AM trivial (by kernel_rfl) (λx=>by kernel_rfl)
def ze:d5:=(A_ [0] 2 [Q_ (.c .X_)] (A_ [3,0] 5 [D_ 0,L' 5,Q' AO (.mkSlice 3 [Ab,Ab,Ab] 6),G_ 3 (C_ 7)] (.seq [3] (A_ [4,3,0] 4 [E' 0] (.block 0 (.loop [0,3,4] 1 (.seq [4,3,0] (A_ [11,4,3,0] 8 [C_ 4,D_ 0,L' 9,M' 8 10] (.cond 11 .skip (.exit 0))) (.seq [4,3,0] (.block 1 (At 14 [D_ 3,C_ 4,D_ 0,C_ 4,N_ 3 16 17,B_ (.g9 (some 3) 18),I' LD [19],N_ 3 14 15,E_ (.f6 3 21 20)])) (At 12 [C_ 4,M_ 12 AD,G_ 4 (C_ 13)])))))) (A_ [2] 22 [C_ 3,G_ 2 (C_ 22)] .ret))))
def Lm:Fn:=⟨⟨1,23,0,false,[.tmp 2],ze⟩,[.one .Z_ (.sl AO)],.one (.one .own (.sl AO))⟩
theorem Zac:Lm.A:=AK ⟨Zbg,trivial⟩
def Qo:Cn->List DD:=Lm.V
def SA:Cn->Prop:=Lm.O
theorem Zaj:Lm.B:=AM ⟨ZaG,trivial⟩ (by kernel_rfl) (λx=>by kernel_rfl)
def xa:d5:=(A_ [0] 2 [Q_ (.c .X_)] (A_ [3,0] 5 [D_ 0,L' 5,Q' (.one (.sl AO)) (.mkSlice 1 [.X_] 6),G_ 3 (C_ 7)] (.seq [3] (A_ [4,3,0] 4 [E' 0] (.block 0 (.loop [0,3,4] 1 (.seq [4,3,0] (A_ [11,4,3,0] 8 [C_ 4,D_ 0,L' 9,M' 8 10] (.cond 11 .skip (.exit 0))) (.seq [4,3,0] (.block 1 (At 14 [D_ 3,C_ 4,D_ 0,C_ 4,N_ 1 16 17,O_ 18,I' Lm [19],N_ 1 14 15,E_ (.f6 1 21 20)])) (At 12 [C_ 4,M_ 12 AD,G_ 4 (C_ 13)])))))) (A_ [2] 22 [C_ 3,G_ 2 (C_ 22)] .ret))))
def K5:Fn:=⟨⟨1,23,0,false,[.tmp 2],xa⟩,[.one .Z_ (.sl (.one (.sl AO)))],.one (.one .own (.sl (.one (.sl AO))))⟩
theorem xw:K5.A:=AK ⟨Zac,trivial⟩
def We:CJ->List Cn:=K5.V
def VJ:CJ->Prop:=K5.O
theorem yB:K5.B:=AM ⟨Zaj,trivial⟩ (by kernel_rfl) (λx=>by kernel_rfl)
def yc:d5:=(A_ [2,1] 1 [O' 0 7 0,B_ (.d7 1 [Ab,.X_,.X_,Ab,.X_,Ab,CB])] (A_ [3,2,1] 3 [B_ (.d7 2 [Ab,.X_,.X_,Ab,.X_,Ab,CB])] (A_ [3,2,1] 4 [J' 0 1,K_ 0 2 4,I' Lh [5],J' 0 3,E_ (.U_ 2 2 7 6)] (A_ [3,2,1] 8 [J' 2 1,J_ 0 8,I' K5 [9],J' 2 3,E_ (.U_ 2 1 11 10)] (A_ [3,2,1] 12 [J' 3 1,C' (.d6 0 none 12),J' 3 3,E_ (.U_ 2 1 14 13)] (A_ [3,2,1] 15 [J' 4 1,J_ 0 15,I' Lq [16],J' 4 3,E_ (.U_ 2 1 18 17)] (A_ [3,2,1] 19 [J' 5 1,C' (.d6 0 none 19),J' 5 3,E_ (.U_ 2 1 21 20)] (A_ [3,2] 22 [J' 6 1,C' (.d6 0 none 22),J' 6 3,E_ (.U_ 2 1 24 23)] (A_ [2] 25 [C' (.d6 2 (some 7) 3),E_ (.U_ 1 7 2 25)] .ret)))))))))
def FU:Fn:=⟨⟨1,26,3,false,[.cell 2 (some 7)],yc⟩,[.agg [Av,(.Z_,.sl (.one (.sl Az))),(.Z_,.sl (.one (.sl AO))),Av,(.Z_,.sl AS),Av,(.Z_,.bool)]],.one (.agg [AF,(.own,.sl (.one (.sl Az))),(.own,.sl (.one (.sl AO))),AF,(.own,.sl AS),AF,(.own,.bool)])⟩
theorem V8:FU.A:=AK ⟨yR,xw,zS,trivial⟩
def Ah:Bw->Int×Cz×CJ×Int×Bj×Int×Bool:=FU.V
def N6:Bw->Prop:=FU.O
theorem VY:FU.B:=AM ⟨xC,yB,zX,trivial⟩ (by kernel_rfl) (λx=>by kernel_rfl)
def Zbw:d5:=(A_ [2,1] 2 [O' 0 7 0,G_ 4 (E' 0)] (.seq [] (A_ [5,2,1] 5 [E' 0] (.block 0 (.loop [1,2,5] 1 (.seq [5,2,1] (A_ [10,5,2,1] 6 [C_ 5,J' 4 2,J_ 0 7,L' 8,M' 6 9] (.cond 10 .skip (.exit 0))) (.seq [5,2,1] (.block 1 (A_ [20,5,2,1] 13 [J' 4 2,J_ 0 13,C_ 5,N_ 5 14 15,J' 0 16,O_ 17,C_ 1,Nm 18 19] (.cond 20 (A_ [4] 21 [C_ 5,G_ 4 (C_ 21)] .ret) .skip))) (At 11 [C_ 5,M_ 11 AD,G_ 5 (C_ 12)])))))) (A_ [4] 4 [E' (-1)] .ret)))
def G6:Fn:=⟨⟨2,22,1,true,[.tmp 4],Zbw⟩,[.agg [Av,(.Z_,.sl (.one (.sl Az))),(.Z_,.sl (.one (.sl AO))),Av,(.Z_,.sl AS),Av,(.Z_,.bool)],.one .Z_ (.int .i64)],.one (.one .own (.int .i64))⟩
theorem kc:G6.A:=AK trivial
def Fx:Gg->Int:=G6.V
def SS:Gg->Prop:=G6.O
theorem jU:G6.B:=AM trivial (by kernel_rfl) (λx=>by kernel_rfl)
def ZbU:d5:=(A_ [2,1] 2 [O' 0 7 0,G_ 4 (E' 0)] (.seq [] (A_ [10,9,8,1] 7 [J' 4 2,J_ 0 7,L' 8,E' 0] (.block 0 (.loop [1,8,9,10] 1 (A_ [11,10,9,8,1] 11 [M' 10 9] (.seq [10,9,8,1] (.cond 11 .skip (.exit 0)) (.seq [10,9,8,1] (.block 1 (A_ [10,9,8,6,5,1] 12 [C_ 10,N_ 5 8 10,C' (.g9 (some 5) 13),G_ 6 (B_ (.d7 1 [Ab,Ab,Ab,Ab,Ab])),G_ 5 (C_ 12),E_ (.U_ 1 5 6 14)] (A_ [18,10,9,8,5,1] 15 [J' 0 6,J_ 1 15,C_ 1,Nm 16 17] (.cond 18 (A_ [4] 19 [C_ 5,G_ 4 (C_ 19)] .ret) .skip)))) (At 20 [M_ 10 AD,G_ 10 (C_ 20)]))))))) (A_ [4] 4 [E' (-1)] .ret)))
def G7:Fn:=⟨⟨2,21,2,true,[.tmp 4],ZbU⟩,[.agg [Av,(.Z_,.sl (.one (.sl Az))),(.Z_,.sl (.one (.sl AO))),Av,(.Z_,.sl AS),Av,(.Z_,.bool)],.one .Z_ (.int .i64)],.one (.one .own (.int .i64))⟩
theorem j3:G7.A:=AK trivial
def BP:Gg->Int:=G7.V
def Qm:Gg->Prop:=G7.O
theorem jT:G7.B:=AM trivial (by kernel_rfl) (λx=>by kernel_rfl)
def Zbk:d5:=(A_ [3,2] 2 [O' 0 3 0,O' 1 3 1,Q_ Ar] (.seq [3,2] (A_ [9,3,2] 5 [J' 0 2,J_ 0 5,J' 0 3,J_ 1 7,N' 6 8] (.cond 9 (A_ [4] 4 [Q_ Ar] .ret) .skip)) (.seq [3,2] (A_ [14,3,2] 10 [J' 1 2,J_ 0 10,J' 1 3,J_ 1 12,N' 11 13] (.cond 14 (A_ [4] 4 [Q_ Ar] .ret) .skip)) (.seq [] (A_ [19] 15 [J' 2 2,J_ 0 15,J' 2 3,J_ 1 17,N' 16 18] (.cond 19 (A_ [4] 4 [Q_ Ar] .ret) .skip)) (A_ [4] 4 [Q_ AU] .ret)))))
def Lv:Fn:=⟨⟨2,20,2,true,[.tmp 4],Zbk⟩,[.agg [Av,Av,Av],.agg [Av,Av,Av]],.one (.one .own (.bool))⟩
theorem Zbl:Lv.A:=AK trivial
def LF:rX->Bool:=Lv.V
def SP:rX->Prop:=Lv.O
theorem Zbi:Lv.B:=AM trivial (by kernel_rfl) (λx=>by kernel_rfl)
def zk:d5:=(A_ [1,0] 4 [Q_ Ar] (.seq [1,0] (A_ [10,1,0] 6 [D_ 0,L' 6,D_ 1,L' 8,N' 7 9] (.cond 10 (A_ [4] 4 [Q_ Ar] .ret) .skip)) (.seq [] (A_ [5,1,0] 5 [E' 0] (.block 0 (.loop [0,1,5] 1 (.seq [5,1,0] (A_ [14,5,1,0] 11 [C_ 5,D_ 0,L' 12,M' 11 13] (.cond 14 .skip (.exit 0))) (.seq [5,1,0] (.block 1 (A_ [26,5,1,0] 17 [D_ 0,C_ 5,G' (rg 2) (N_ 3 17 18),G' (rg 3) (B_ (.g9 (some 3) 19)),D_ 1,C_ 5,G' [4,5] (N_ 3 21 22),G' [4,5,6] (B_ (.g9 (some 3) 23)),G' (rg 8) (I' Lv [20,24]),G' (rg 9) (P' 25)] (.cond 26 (A_ [4] 4 [Q_ Ar] .ret) .skip))) (At 15 [C_ 5,M_ 15 AD,G_ 5 (C_ 16)])))))) (A_ [4] 4 [Q_ AU] .ret))))
def Ln:Fn:=⟨⟨2,27,0,true,[.tmp 4],zk⟩,[.one .Z_ (.sl AO),.one .Z_ (.sl AO)],.one (.one .own (.bool))⟩
theorem zf:Ln.A:=AK ⟨Zbl,trivial⟩
def Lk:r9->Bool:=Ln.V
def SF:r9->Prop:=Ln.O
theorem zn:Ln.B:=AM ⟨Zbi,trivial⟩ (by kernel_rfl) (λx=>by kernel_rfl)
def x9:d5:=(A_ [1,0] 4 [Q_ Ar] (.seq [1,0] (A_ [10,1,0] 6 [D_ 0,L' 6,D_ 1,L' 8,N' 7 9] (.cond 10 (A_ [4] 4 [Q_ Ar] .ret) .skip)) (.seq [] (A_ [5,1,0] 5 [E' 0] (.block 0 (.loop [0,1,5] 1 (.seq [5,1,0] (A_ [14,5,1,0] 11 [C_ 5,D_ 0,L' 12,M' 11 13] (.cond 14 .skip (.exit 0))) (.seq [5,1,0] (.block 1 (A_ [26,5,1,0] 17 [D_ 0,C_ 5,G' (rg 2) (N_ 1 17 18),G' (rg 3) (O_ 19),D_ 1,C_ 5,G' [4,5] (N_ 1 21 22),G' [4,5,6] (O_ 23),G' (rg 8) (I' Ln [20,24]),G' (rg 9) (P' 25)] (.cond 26 (A_ [4] 4 [Q_ Ar] .ret) .skip))) (At 15 [C_ 5,M_ 15 AD,G_ 5 (C_ 16)])))))) (A_ [4] 4 [Q_ AU] .ret))))
def Ld:Fn:=⟨⟨2,27,0,true,[.tmp 4],x9⟩,[.one .Z_ (.sl (.one (.sl AO))),.one .Z_ (.sl (.one (.sl AO)))],.one (.one .own (.bool))⟩
theorem ya:Ld.A:=AK ⟨zf,trivial⟩
def Qh:rH->Bool:=Ld.V
def VW:rH->Prop:=Ld.O
theorem xb:Ld.B:=AM ⟨zn,trivial⟩ (by kernel_rfl) (λx=>by kernel_rfl)
def xT:d5:=(A_ [3,2] 2 [O' 0 7 0,O' 1 7 1,Q_ Ar] (.seq [3,2] (A_ [10,3,2] 5 [J' 0 2,K_ 0 2 5,J' 0 3,K_ 1 2 7,I' La [6,8],P' 9] (.cond 10 (A_ [4] 4 [Q_ Ar] .ret) .skip)) (.seq [3,2] (A_ [16,3,2] 11 [J' 2 2,J_ 0 11,J' 2 3,J_ 1 13,I' Ld [12,14],P' 15] (.cond 16 (A_ [4] 4 [Q_ Ar] .ret) .skip)) (.seq [3,2] (A_ [21,3,2] 17 [J' 3 2,J_ 0 17,J' 3 3,J_ 1 19,N' 18 20] (.cond 21 (A_ [4] 4 [Q_ Ar] .ret) .skip)) (.seq [3,2] (A_ [27,3,2] 22 [J' 4 2,J_ 0 22,J' 4 3,J_ 1 24,I' Lt [23,25],P' 26] (.cond 27 (A_ [4] 4 [Q_ Ar] .ret) .skip)) (.seq [3,2] (A_ [32,3,2] 28 [J' 5 2,J_ 0 28,J' 5 3,J_ 1 30,N' 29 31] (.cond 32 (A_ [4] 4 [Q_ Ar] .ret) .skip)) (.seq [] (A_ [37] 33 [J' 6 2,J_ 0 33,J' 6 3,J_ 1 35,B_ (.eqB true 34 36)] (.cond 37 (A_ [4] 4 [Q_ Ar] .ret) .skip)) (A_ [4] 4 [Q_ AU] .ret))))))))
def E4:Fn:=⟨⟨2,38,2,true,[.tmp 4],xT⟩,[.agg [Av,(.Z_,.sl (.one (.sl Az))),(.Z_,.sl (.one (.sl AO))),Av,(.Z_,.sl AS),Av,(.Z_,.bool)],.agg [Av,(.Z_,.sl (.one (.sl Az))),(.Z_,.sl (.one (.sl AO))),Av,(.Z_,.sl AS),Av,(.Z_,.bool)]],.one (.one .own (.bool))⟩
theorem VN:E4.A:=AK ⟨xM,ya,zM,trivial⟩
def Ea:sy->Bool:=E4.V
def N7:sy->Prop:=E4.O
theorem VQ:E4.B:=AM ⟨yS,xb,z6,trivial⟩ (by kernel_rfl) (λx=>by kernel_rfl)
end
section
set_option maxRecDepth 100000
theorem zq(x):EK x=Z' (b_ (iSub .i64 x.2 (V' x.1)) 0) (-1) (iSub .i64 x.2 (V' x.1)):=(Lr.v x).trans (by kernel_rfl)
theorem zi(x):SL x=True:=(Lr.o x).trans (by kernel_rfl)
theorem ZmN(x:HD)(e)(_:e=V' x.1)(b)(_:b=iSub .i64 x.2 e)(f)(_:f=λ(x0:Au)=>So x.1 (R_ x0.2) [])(c)(_:c=(λ(x0:Au)=>W_ (b_ x0.2 e) (U' (b_ (EK (f x0,x0.1)) 0))))(d)(_:d=(λ(x0:Au)=>(EK (f x0,x0.1),V_ .i64 x0.2 1)))(a)(_:a=Am c d (b,0))(g)(_:g=List.length x.1)(h)(_:h=b_ b 0):HU x=Z' h (-1) (Z' (b_ a.2 e) (-1) a.1)/\V7 x=((h=true->True)/\(h=false->a_ c d (λ(x0:Au)=>(b_ x0.2 e=true->((0:Int)<=x0.2/\x0.2<(g:Int))/\R_ x0.2<g/\SL (f x0,x0.1))/\(b_ x0.2 e=false->True)) (b,0))):=by subst_vars;exact⟨(Lb.v x).trans (by kernel_rfl),(Lb.o x).trans (by kernel_rfl)⟩
abbrev yV:=λx=>(ZmN x _ rfl _ rfl _ rfl _ rfl _ rfl _ rfl _ rfl _ rfl).1
abbrev y8:=λx=>(ZmN x _ rfl _ rfl _ rfl _ rfl _ rfl _ rfl _ rfl _ rfl).2
theorem ZmQ(x:Gg)(a)(_:a=Fw ((x.1.1,x.1.2.1),x.2))(b)(_:b=HU (x.1.2.2.1,a))(c)(_:c=x.1.2.2.2.2.1)(d)(_:d=b_ a 0)(e)(_:e=b_ b 0):JW x=Z' d (-1) (Z' e (-1) (Z' (b_ (MK (c,b)) 0) (-1) (MK (c,b))))/\V4 x=(VO ((x.1.1,x.1.2.1),x.2)/\(d=true->True)/\(d=false->V7 (x.1.2.2.1,a)/\(e=true->True)/\(e=false->Wf (c,b)))):=by subst_vars;exact⟨(Le.v x).trans (by kernel_rfl),(Le.o x).trans (by kernel_rfl)⟩
abbrev ye:=λx=>(ZmQ x _ rfl _ rfl _ rfl _ rfl _ rfl).1
abbrev xR:=λx=>(ZmQ x _ rfl _ rfl _ rfl _ rfl _ rfl).2
theorem ZaB(x):J1 x=(x.1,x.2.1,x.2.2):=(LD.v x).trans (by kernel_rfl)
theorem ZbN(x):SO x=True:=(LD.o x).trans (by kernel_rfl)
theorem ZmT(x:Cn)(b)(_:b=λ(x0:Mj)=>So x (R_ x0.2) (0,0,0))(a)(_:a=λ(x0:Mj)=>J1 ((b x0).1,(b x0).2.1,(b x0).2.2))(c)(_:c=(λ(x0:Mj)=>(lSet x0.1 (R_ x0.2) ((a x0).1,(a x0).2.1,(a x0).2.2),V_ .i64 x0.2 1)))(d)(_:d=V' x)(e)(_:e=(λ(x0:Mj)=>b_ x0.2 d))(f)(_:f=lRep d (0,0,0)):Qo x=(Am e c (f,0)).1/\SA x=(((0:Int)<=d/\AE (Int.toNat d*3))/\a_ e c (λ(x0:Mj)=>(b_ x0.2 d=true->((0:Int)<=x0.2/\x0.2<(List.length x:Int))/\R_ x0.2<List.length x/\SO ((b x0).1,(b x0).2.1,(b x0).2.2)/\((0:Int)<=x0.2/\x0.2<(List.length x0.1:Int))/\R_ x0.2<List.length x0.1)/\(b_ x0.2 d=false->True)) (f,0)):=by subst_vars;exact⟨(Lm.v x).trans (by kernel_rfl),(Lm.o x).trans (by kernel_rfl)⟩
abbrev zo:=λx=>(ZmT x _ rfl _ rfl _ rfl _ rfl _ rfl _ rfl).1
abbrev Zao:=λx=>(ZmT x _ rfl _ rfl _ rfl _ rfl _ rfl _ rfl).2
theorem ZmV(x:CJ)(a)(_:a=(λ(x0:HD)=>(lSet x0.1 (R_ x0.2) (Qo (So x (R_ x0.2) [])),V_ .i64 x0.2 1)))(b)(_:b=V' x)(c)(_:c=(λ(x0:HD)=>b_ x0.2 b)):We x=(Am c a (lRep b [],0)).1/\VJ x=(((0:Int)<=b/\AE (Int.toNat b*1))/\a_ c a (λ(x0:HD)=>(b_ x0.2 b=true->((0:Int)<=x0.2/\x0.2<(List.length x:Int))/\R_ x0.2<List.length x/\SA (So x (R_ x0.2) [])/\((0:Int)<=x0.2/\x0.2<(List.length x0.1:Int))/\R_ x0.2<List.length x0.1)/\(b_ x0.2 b=false->True)) (lRep b [],0)):=by subst_vars;exact⟨(K5.v x).trans (by kernel_rfl),(K5.o x).trans (by kernel_rfl)⟩
abbrev xk:=λx=>(ZmV x _ rfl _ rfl _ rfl).1
abbrev y9:=λx=>(ZmV x _ rfl _ rfl _ rfl).2
theorem yG(x):Ah x=((SK (x.1,x.2.1)).1,(SK (x.1,x.2.1)).2,We x.2.2.1,x.2.2.2.1,WB x.2.2.2.2.1,x.2.2.2.2.2.1,x.2.2.2.2.2.2):=(FU.v x).trans (by kernel_rfl)
theorem xu(x):N6 x=(VU (x.1,x.2.1)/\VJ x.2.2.1/\Wj x.2.2.2.2.1):=(FU.o x).trans (by kernel_rfl)
theorem Zm0(x:Gg)(b)(_:b=x.1.2.2.2.2.1)(d)(_:d=V' b)(a)(_:a=(λ(x0:Int)=>W_ (b_ x0 d) (U' (g_ (So b (R_ x0) (0,0,0,0,0)).1 x.2))))(c)(_:c=(λ(x0:Int)=>V_ .i64 x0 1)):Fx x=Z' (b_ (Am a c 0) d) (Am a c 0) (-1)/\SS x=a_ a c (λ(x0:Int)=>(b_ x0 d=true->((0:Int)<=x0/\x0<(List.length b:Int))/\R_ x0<List.length b)/\(b_ x0 d=false->True)) 0:=by subst_vars;exact⟨(G6.v x).trans (by kernel_rfl),(G6.o x).trans (by kernel_rfl)⟩
abbrev ZbJ:=λx=>(Zm0 x _ rfl _ rfl _ rfl _ rfl).1
abbrev ZbV:=λx=>(Zm0 x _ rfl _ rfl _ rfl _ rfl).2
theorem Zm3(x:Gg)(b)(_:b=x.1.2.2.2.2.1)(d)(_:d=V' b)(a)(_:a=(λ(x0:Int)=>W_ (b_ x0 d) (U' (g_ (So b (R_ x0) (0,0,0,0,0)).1 x.2))))(c)(_:c=(λ(x0:Int)=>V_ .i64 x0 1)):BP x=Z' (b_ (Am a c 0) d) (Am a c 0) (-1)/\Qm x=a_ a c (λ(x0:Int)=>(b_ x0 d=true->((0:Int)<=x0/\x0<(List.length b:Int))/\R_ x0<List.length b)/\(b_ x0 d=false->True)) 0:=by subst_vars;exact⟨(G7.v x).trans (by kernel_rfl),(G7.o x).trans (by kernel_rfl)⟩
abbrev jO:=λx=>(Zm3 x _ rfl _ rfl _ rfl _ rfl).1
abbrev ZaZ:=λx=>(Zm3 x _ rfl _ rfl _ rfl _ rfl).2
theorem ZbI(x):LF x=W_ (U' (j_ x.1.1 x.2.1)) (W_ (U' (j_ x.1.2.1 x.2.2.1)) (U' (j_ x.1.2.2 x.2.2.2))):=(Lv.v x).trans (by kernel_rfl)
theorem Zbu(x):SP x=True:=(Lv.o x).trans (by kernel_rfl)
theorem Zm6(x:r9)(b)(_:b=λ(x0:Int)=>So x.1 (R_ x0) (0,0,0))(c)(_:c=λ(x0:Int)=>So x.2 (R_ x0) (0,0,0))(d)(_:d=V' x.1)(a)(_:a=(λ(x0:Int)=>W_ (b_ x0 d) (U' (U' (LF (((b x0).1,(b x0).2.1,(b x0).2.2),(c x0).1,(c x0).2.1,(c x0).2.2))))))(e)(_:e=j_ d (V' x.2))(f)(_:f=(λ(x0:Int)=>V_ .i64 x0 1))(g)(_:g=List.length x.1)(h)(_:h=List.length x.2):Lk x=W_ (U' e) (U' (b_ (Am a f 0) d))/\SF x=((e=true->True)/\(e=false->a_ a f (λ(x0:Int)=>(b_ x0 d=true->((0:Int)<=x0/\x0<(g:Int))/\R_ x0<g/\((0:Int)<=x0/\x0<(h:Int))/\R_ x0<h/\SP (((b x0).1,(b x0).2.1,(b x0).2.2),(c x0).1,(c x0).2.1,(c x0).2.2))/\(b_ x0 d=false->True)) 0)):=by subst_vars;exact⟨(Ln.v x).trans (by kernel_rfl),(Ln.o x).trans (by kernel_rfl)⟩
abbrev zj:=λx=>(Zm6 x _ rfl _ rfl _ rfl _ rfl _ rfl _ rfl _ rfl _ rfl).1
abbrev Zae:=λx=>(Zm6 x _ rfl _ rfl _ rfl _ rfl _ rfl _ rfl _ rfl _ rfl).2
theorem Zm9(x:rH)(b)(_:b=V' x.1)(a)(_:a=(λ(x0:Int)=>W_ (b_ x0 b) (U' (U' (Lk (So x.1 (R_ x0) [],So x.2 (R_ x0) []))))))(c)(_:c=j_ b (V' x.2))(d)(_:d=(λ(x0:Int)=>V_ .i64 x0 1))(e)(_:e=List.length x.1)(f)(_:f=List.length x.2):Qh x=W_ (U' c) (U' (b_ (Am a d 0) b))/\VW x=((c=true->True)/\(c=false->a_ a d (λ(x0:Int)=>(b_ x0 b=true->((0:Int)<=x0/\x0<(e:Int))/\R_ x0<e/\((0:Int)<=x0/\x0<(f:Int))/\R_ x0<f/\SF (So x.1 (R_ x0) [],So x.2 (R_ x0) []))/\(b_ x0 b=false->True)) 0)):=by subst_vars;exact⟨(Ld.v x).trans (by kernel_rfl),(Ld.o x).trans (by kernel_rfl)⟩
abbrev y5:=λx=>(Zm9 x _ rfl _ rfl _ rfl _ rfl _ rfl _ rfl).1
abbrev yy:=λx=>(Zm9 x _ rfl _ rfl _ rfl _ rfl _ rfl _ rfl).2
theorem Znb(x:sy)(a)(_:a=U' (Qf ((x.1.1,x.1.2.1),x.2.1,x.2.2.1)))(b)(_:b=U' (Qh (x.1.2.2.1,x.2.2.2.1)))(c)(_:c=j_ x.1.2.2.2.1 x.2.2.2.2.1):Ea x=W_ (U' a) (W_ (U' b) (W_ (U' c) (W_ (U' (U' (WC (x.1.2.2.2.2.1,x.2.2.2.2.2.1)))) (W_ (U' (j_ x.1.2.2.2.2.2.1 x.2.2.2.2.2.2.1)) (U' (U' (bIff x.1.2.2.2.2.2.2 x.2.2.2.2.2.2.2)))))))/\N7 x=(V5 ((x.1.1,x.1.2.1),x.2.1,x.2.2.1)/\(a=true->True)/\(a=false->VW (x.1.2.2.1,x.2.2.2.1)/\(b=true->True)/\(b=false->(c=true->True)/\(c=false->Wc (x.1.2.2.2.2.1,x.2.2.2.2.2.1))))):=by subst_vars;exact⟨(E4.v x).trans (by kernel_rfl),(E4.o x).trans (by kernel_rfl)⟩
abbrev xy:=λx=>(Znb x _ rfl _ rfl _ rfl).1
abbrev yW:=λx=>(Znb x _ rfl _ rfl _ rfl).2
attribute [irreducible] EK SL HU V7 JW V4 J1 SO Qo SA We VJ Ah N6 Fx SS BP Qm LF SP Lk SF Qh VW Ea N7
end
section
set_option maxRecDepth 8000
def ZbX:d5:=(A_ [0] 2 [Q_ (.c .X_)] (A_ [3,0] 5 [D_ 0,L' 5,Q' (.one (.int .i64)) (.mkSlice 1 [Ab] 6),G_ 3 (C_ 7)] (.seq [3] (A_ [4,3,0] 4 [E' 0] (.block 0 (.loop [0,3,4] 1 (.seq [4,3,0] (A_ [11,4,3,0] 8 [C_ 4,D_ 0,L' 9,M' 8 10] (.cond 11 .skip (.exit 0))) (.seq [4,3,0] (.block 1 (At 14 [D_ 3,C_ 4,D_ 0,C_ 4,N_ 1 16 17,C' (.g9 none 18),N_ 1 14 15,E_ (.f6 1 20 19)])) (At 12 [C_ 4,M_ 12 AD,G_ 4 (C_ 13)])))))) (A_ [2] 21 [C_ 3,G_ 2 (C_ 21)] .ret))))
def FZ:Fn:=⟨⟨1,22,0,false,[.tmp 2],ZbX⟩,[.one .Z_ (.sl (.one (.int .i64)))],.one (.one .own (.sl (.one (.int .i64))))⟩
theorem Wq:FZ.A:=AK trivial
def Ai:BO->List (Int):=FZ.V
def Od:BO->Prop:=FZ.O
theorem Wv:FZ.B:=AM trivial (by kernel_rfl) (λx=>by kernel_rfl)
def uT:d5:=(A_ [3,2] 2 [O' 0 2 0,O' 1 2 1,Q_ Ar] (.seq [3,2] (A_ [19,3,2] 6 [J' 0 2,J_ 0 6,J' 0 3,J_ 1 8,N' 7 9,C_ 10,F' 11 (J' 1 2),F' 11 (J_ 0 12),F' 11 (L' 13),F' 11 (J' 1 3),F' 11 (J_ 1 15),F' 11 (L' 16),F' 11 (N' 14 17),L_ 11 AU 18] (.cond 19 (A_ [4] 4 [Q_ Ar] .ret) .skip)) (.seq [] (A_ [5,3,2] 5 [E' 0] (.block 0 (.loop [2,3,5] 1 (.seq [5,3,2] (A_ [24,5,3,2] 20 [C_ 5,J' 1 2,J_ 0 21,L' 22,M' 20 23] (.cond 24 .skip (.exit 0))) (.seq [5,3,2] (.block 1 (A_ [37,5,3,2] 27 [J' 1 2,G' (rg 1) (J_ 0 27),C_ 5,G' (rg 3) (N_ 1 28 29),G' (rg 4) (O_ 30),J' 1 3,G' [5] (J_ 1 32),C_ 5,G' [5,6,7] (N_ 1 33 34),G' [5,6,7,8] (O_ 35),G' (rg 10) (N' 31 36)] (.cond 37 (A_ [4] 4 [Q_ Ar] .ret) .skip))) (At 25 [C_ 5,M_ 25 AD,G_ 5 (C_ 26)])))))) (A_ [4] 4 [Q_ AU] .ret))))
def KT:Fn:=⟨⟨2,38,2,true,[.tmp 4],uT⟩,[.agg [Av,(.Z_,.sl (.one (.int .i64)))],.agg [Av,(.Z_,.sl (.one (.int .i64)))]],.one (.one .own (.bool))⟩
theorem uA:KT.A:=AK trivial
def PY:Ph->Bool:=KT.V
def Vo:Ph->Prop:=KT.O
theorem vx:KT.B:=AM trivial (by kernel_rfl) (λx=>by kernel_rfl)
def yL:d5:=(A_ [1,0] 4 [Q_ Ar] (.seq [1,0] (A_ [10,1,0] 6 [D_ 0,L' 6,D_ 1,L' 8,N' 7 9] (.cond 10 (A_ [4] 4 [Q_ Ar] .ret) .skip)) (.seq [] (A_ [13,12,1,0] 11 [D_ 0,L' 11,E' 0] (.block 0 (.loop [0,1,12,13] 1 (A_ [14,13,12,1,0] 14 [M' 13 12] (.seq [13,12,1,0] (.cond 14 .skip (.exit 0)) (.seq [13,12,1,0] (.block 1 (A_ [13,12,5,1,0] 15 [C_ 13,G_ 5 (C_ 15)] (A_ [24,13,12,1,0] 16 [D_ 0,C_ 5,G' (rg 2) (N_ 1 16 17),G' (rg 3) (O_ 18),D_ 1,C_ 5,G' [4,5] (N_ 1 20 21),G' [4,5,6] (O_ 22),G' (rg 8) (N' 19 23)] (.cond 24 (A_ [4] 4 [Q_ Ar] .ret) .skip)))) (At 25 [M_ 13 AD,G_ 13 (C_ 25)]))))))) (A_ [4] 4 [Q_ AU] .ret))))
def IW:Fn:=⟨⟨2,26,0,true,[.tmp 4],yL⟩,[.one .Z_ (.sl (.one (.int .i64))),.one .Z_ (.sl (.one (.int .i64)))],.one (.one .own (.bool))⟩
theorem yx:IW.A:=AK trivial
def au:Zn->Bool:=IW.V
def Z2:Zn->Prop:=IW.O
theorem wX:IW.B:=AM trivial (by kernel_rfl) (λx=>by kernel_rfl)
def uG:d5:=(A_ [3,2] 2 [O' 0 2 0,O' 1 2 1,Q_ Ar] (A_ [4] 5 [J' 0 2,J_ 0 5,J' 0 3,J_ 1 7,Nm 6 8,C_ 9,F_ 10 (J' 1 2),F_ 10 (J_ 0 11),F_ 10 (J' 1 3),F_ 10 (J_ 1 13),F_ 10 (I' IW [12,14]),L_ 10 15 Ar,G_ 4 (C_ 16)] .ret))
def HR:Fn:=⟨⟨2,17,2,true,[.tmp 4],uG⟩,[.agg [Av,(.Z_,.sl (.one (.int .i64)))],.agg [Av,(.Z_,.sl (.one (.int .i64)))]],.one (.one .own (.bool))⟩
theorem u7:HR.A:=AK ⟨yx,trivial⟩
def Gp:Ph->Bool:=HR.V
def NW:Ph->Prop:=HR.O
theorem u9:HR.B:=AM ⟨wX,trivial⟩ (by kernel_rfl) (λx=>by kernel_rfl)
def ZbZ:d5:=(A_ [1,0] 4 [Q_ Ar] (.seq [1,0] (A_ [10,1,0] 6 [D_ 0,L' 6,D_ 1,L' 8,N' 7 9] (.cond 10 (A_ [4] 4 [Q_ Ar] .ret) .skip)) (.seq [] (A_ [5,1,0] 5 [E' 0] (.block 0 (.loop [0,1,5] 1 (.seq [5,1,0] (A_ [14,5,1,0] 11 [C_ 5,D_ 0,L' 12,M' 11 13] (.cond 14 .skip (.exit 0))) (.seq [5,1,0] (.block 1 (A_ [25,5,1,0] 17 [D_ 0,C_ 5,G' (rg 2) (N_ 1 17 18),G' (rg 3) (O_ 19),D_ 1,C_ 5,G' [4,5] (N_ 1 21 22),G' [4,5,6] (O_ 23),G' (rg 8) (N' 20 24)] (.cond 25 (A_ [4] 4 [Q_ Ar] .ret) .skip))) (At 15 [C_ 5,M_ 15 AD,G_ 5 (C_ 16)])))))) (A_ [4] 4 [Q_ AU] .ret))))
def Jd:Fn:=⟨⟨2,26,0,true,[.tmp 4],ZbZ⟩,[.one .Z_ (.sl (.one (.int .i64))),.one .Z_ (.sl (.one (.int .i64)))],.one (.one .own (.bool))⟩
theorem jZ:Jd.A:=AK trivial
def Og:Zn->Bool:=Jd.V
def SN:Zn->Prop:=Jd.O
theorem jM:Jd.B:=AM trivial (by kernel_rfl) (λx=>by kernel_rfl)
def yz:d5:=(A_ [3,2] 2 [O' 0 2 0,O' 1 2 1,Q_ Ar] (.seq [3,2] (A_ [9,3,2] 5 [J' 0 2,J_ 0 5,J' 0 3,J_ 1 7,N' 6 8] (.cond 9 (A_ [4] 4 [Q_ Ar] .ret) .skip)) (.seq [] (A_ [15] 10 [J' 1 2,J_ 0 10,J' 1 3,J_ 1 12,I' Jd [11,13],P' 14] (.cond 15 (A_ [4] 4 [Q_ Ar] .ret) .skip)) (A_ [4] 4 [Q_ AU] .ret))))
def K6:Fn:=⟨⟨2,16,2,true,[.tmp 4],yz⟩,[.agg [Av,(.Z_,.sl (.one (.int .i64)))],.agg [Av,(.Z_,.sl (.one (.int .i64)))]],.one (.one .own (.bool))⟩
theorem xg:K6.A:=AK ⟨jZ,trivial⟩
def Li:Ph->Bool:=K6.V
def Sn:Ph->Prop:=K6.O
theorem xl:K6.B:=AM ⟨jM,trivial⟩ (by kernel_rfl) (λx=>by kernel_rfl)
end
section
set_option maxRecDepth 100000
theorem Znd(x:BO)(a)(_:a=(λ(x0:DN)=>(lSet x0.1 (R_ x0.2) (So x (R_ x0.2) 0),V_ .i64 x0.2 1)))(b)(_:b=V' x)(c)(_:c=(λ(x0:DN)=>b_ x0.2 b)):Ai x=(Am c a (lRep b 0,0)).1/\Od x=(((0:Int)<=b/\AE (Int.toNat b*1))/\a_ c a (λ(x0:DN)=>(b_ x0.2 b=true->((0:Int)<=x0.2/\x0.2<(List.length x:Int))/\R_ x0.2<List.length x/\((0:Int)<=x0.2/\x0.2<(List.length x0.1:Int))/\R_ x0.2<List.length x0.1)/\(b_ x0.2 b=false->True)) (lRep b 0,0)):=by subst_vars;exact⟨(FZ.v x).trans (by kernel_rfl),(FZ.o x).trans (by kernel_rfl)⟩
abbrev ZbQ:=λx=>(Znd x _ rfl _ rfl _ rfl).1
abbrev Za1:=λx=>(Znd x _ rfl _ rfl _ rfl).2
theorem Zng(x:Ph)(c)(_:c=V' x.1.2)(a)(_:a=t8 (j_ x.1.1 x.2.1) (j_ c (V' x.2.2)))(b)(_:b=(λ(x0:Int)=>W_ (b_ x0 c) (U' (j_ (So x.1.2 (R_ x0) 0) (So x.2.2 (R_ x0) 0)))))(d)(_:d=(λ(x0:Int)=>V_ .i64 x0 1))(e)(_:e=List.length x.1.2)(f)(_:f=List.length x.2.2):PY x=W_ (U' a) (U' (b_ (Am b d 0) c))/\Vo x=((a=true->True)/\(a=false->a_ b d (λ(x0:Int)=>(b_ x0 c=true->((0:Int)<=x0/\x0<(e:Int))/\R_ x0<e/\((0:Int)<=x0/\x0<(f:Int))/\R_ x0<f)/\(b_ x0 c=false->True)) 0)):=by subst_vars;exact⟨(KT.v x).trans (by kernel_rfl),(KT.o x).trans (by kernel_rfl)⟩
abbrev uu:=λx=>(Zng x _ rfl _ rfl _ rfl _ rfl _ rfl _ rfl).1
abbrev vk:=λx=>(Zng x _ rfl _ rfl _ rfl _ rfl _ rfl _ rfl).2
theorem Znj(x:Zn)(b)(_:b=V' x.1)(a)(_:a=(λ(x0:Int)=>W_ (b_ x0 b) (U' (j_ (So x.1 (R_ x0) 0) (So x.2 (R_ x0) 0)))))(c)(_:c=j_ b (V' x.2))(d)(_:d=(λ(x0:Int)=>V_ .i64 x0 1))(e)(_:e=List.length x.1)(f)(_:f=List.length x.2):au x=W_ (U' c) (U' (b_ (Am a d 0) b))/\Z2 x=((c=true->True)/\(c=false->a_ a d (λ(x0:Int)=>(b_ x0 b=true->((0:Int)<=x0/\x0<(e:Int))/\R_ x0<e/\((0:Int)<=x0/\x0<(f:Int))/\R_ x0<f)/\(b_ x0 b=false->True)) 0)):=by subst_vars;exact⟨(IW.v x).trans (by kernel_rfl),(IW.o x).trans (by kernel_rfl)⟩
abbrev iV:=λx=>(Znj x _ rfl _ rfl _ rfl _ rfl _ rfl _ rfl).1
abbrev yM:=λx=>(Znj x _ rfl _ rfl _ rfl _ rfl _ rfl _ rfl).2
theorem ig(x):Gp x=W_ (g_ x.1.1 x.2.1) (au (x.1.2,x.2.2)):=(HR.v x).trans (by kernel_rfl)
theorem vr(x):NW x=((g_ x.1.1 x.2.1=true->Z2 (x.1.2,x.2.2))/\(g_ x.1.1 x.2.1=false->True)):=(HR.o x).trans (by kernel_rfl)
theorem Zno(x:Zn)(b)(_:b=V' x.1)(a)(_:a=(λ(x0:Int)=>W_ (b_ x0 b) (U' (j_ (So x.1 (R_ x0) 0) (So x.2 (R_ x0) 0)))))(c)(_:c=j_ b (V' x.2))(d)(_:d=(λ(x0:Int)=>V_ .i64 x0 1))(e)(_:e=List.length x.1)(f)(_:f=List.length x.2):Og x=W_ (U' c) (U' (b_ (Am a d 0) b))/\SN x=((c=true->True)/\(c=false->a_ a d (λ(x0:Int)=>(b_ x0 b=true->((0:Int)<=x0/\x0<(e:Int))/\R_ x0<e/\((0:Int)<=x0/\x0<(f:Int))/\R_ x0<f)/\(b_ x0 b=false->True)) 0)):=by subst_vars;exact⟨(Jd.v x).trans (by kernel_rfl),(Jd.o x).trans (by kernel_rfl)⟩
abbrev Zbp:=λx=>(Zno x _ rfl _ rfl _ rfl _ rfl _ rfl _ rfl).1
abbrev ZbP:=λx=>(Zno x _ rfl _ rfl _ rfl _ rfl _ rfl _ rfl).2
theorem xm(x):Li x=W_ (U' (j_ x.1.1 x.2.1)) (U' (U' (Og (x.1.2,x.2.2)))):=(K6.v x).trans (by kernel_rfl)
theorem yK(x):Sn x=((j_ x.1.1 x.2.1=true->True)/\(j_ x.1.1 x.2.1=false->SN (x.1.2,x.2.2))):=(K6.o x).trans (by kernel_rfl)
attribute [irreducible] Ai Od PY Vo au Z2 Gp NW Og SN Li Sn
end
section
set_option maxRecDepth 8000
def Zbc:d5:=(A_ [3,0] 3 [O' 0 3 1,E' 0] (.seq [] (A_ [5,3,0] 5 [E' 0] (.block 0 (.loop [0,3,5] 1 (.seq [5,3,0] (A_ [9,5,3,0] 6 [C_ 5,D_ 0,L' 7,M' 6 8] (.cond 9 .skip (.exit 0))) (.seq [5,3,0] (.block 1 (A_ [31,5,3,0] 12 [D_ 0,C_ 5,G' (rg 2) (N_ 5 12 13),G' (rg 3) (J' 1 14),G' (rg 4) (J' 1 15),G' (rg 5) (O_ 16),J' 1 3,G' [6] (J_ 0 18),G' (rg 8) (Nm 17 19),G' (rg 9) (Q_ 20),F_ 21 (G' [0,1,2,3,4,5,6,7,8,9] (I_ (.a true (.mv 0) none))),F_ 21 (G' [0,1,2,3,4,5,6,7,8,9] (I_ (.a false (.mv 5) none))),F_ 21 (G' [0,1,2,3,4,5,6,7,8,9,10,11] (I_ (.a false (.m_ 5 22 23) none))),F_ 21 (G' [0,1,2,3,4,5,6,7,8,9,10,11,12] (I_ (.a false (.f5 1 24) none))),F_ 21 (G' [0,1,2,3,4,5,6,7,8,9,10,11,12,13] (I_ (.a false (.f5 2 25) none))),F_ 21 (G' [0,1,2,3,4,5,6,7,8,9,10,11,12,13,14] (I_ (.a false (.g9 none 26) none))),F_ 21 (G' [0,1,2,3,4,5,6,7,8,9] (I_ (.a false (.f5 2 3) none))),F_ 21 (G' [0,1,2,3,4,5,6,7,8,9,16] (I_ (.a false (.d6 0 none 28) none))),F_ 21 (G' [0,1,2,3,4,5,6,7,8,9,10,11,12,13,14,15,16,17] (I_ (.a false (.bin .eql 27 29) none))),G' (rg 19) (L_ 21 30 Ar)] (.cond 31 (A_ [4] 32 [C_ 5,G_ 4 (C_ 32)] .ret) .skip))) (At 10 [C_ 5,M_ 10 AD,G_ 5 (C_ 11)])))))) (A_ [4] 4 [E' (-1)] .ret)))
def Je:Fn:=⟨⟨2,33,1,true,[.tmp 4],Zbc⟩,[.one .Z_ (.sl AS),.agg [Av,Av,Av]],.one (.one .own (.int .i64))⟩
theorem j4:Je.A:=AK trivial
def CV:sr->Int:=Je.V
def Of:sr->Prop:=Je.O
theorem j9:Je.B:=AM trivial (by kernel_rfl) (λx=>by kernel_rfl)
def y7:d5:=(A_ [2,1] 1 [O' 0 3 0,B_ (.d7 1 [Ab,Ab,Ab,Ab])] (A_ [2] 3 [J' 1 1,C' (.d6 0 none 3),J' 2 1,C' (.d6 0 none 5),B_ (.build [Ab,Ab,Ab,Ab] [(0,1,(.c (.int .i64 2))),(1,1,4),(2,1,6)]),E_ (.U_ 1 4 2 7)] .ret))
def FT:Fn:=⟨⟨1,8,2,true,[.cell 2 (some 4)],y7⟩,[.agg [Av,Av,Av]],.one (.agg [AF,AF,AF,AF])⟩
theorem Z4:FT.A:=AK trivial
def Bi:DD->Int×Int×Int×Int:=FT.V
def Sr:DD->Prop:=FT.O
theorem aa:FT.B:=AM trivial (by kernel_rfl) (λx=>by kernel_rfl)
def wL:d5:=(A_ [1,0] 4 [Q_ (.c .X_)] (.seq [4] (.region [on 1 6 0,om 2 7 1,xA 3 8 (.slice 5 6 none (some 7)) [1,2],on 5 10 0,om 6 11 1,xA 7 12 (.bin .add 11 AD) [6],xA 8 13 (.slice 5 10 (some 12) none) [5,6,7],⟨0,some 5,.a false (.d4 5 0 [] []) (some AS),none,[]⟩,xA 4 9 (.app 5 5 8) (rg 4),xA 9 14 (.app 5 9 13) (rg 9),xA 10 4 (.mv 14) (rg 10)]) .ret))
def G0:Fn:=⟨⟨2,15,0,false,[.tmp 4],wL⟩,[.one .Z_ (.sl AS),.one .Z_ (.int .i64)],.one (.one .own (.sl AS))⟩
theorem ZN:G0.A:=AK trivial
def Dw:D5->List Dk:=G0.V
def N3:D5->Prop:=G0.O
theorem ZO:G0.B:=AM trivial (by kernel_rfl) (λx=>by kernel_rfl)
def Zax:d5:=(A_ [0] 2 [Q_ Ar] (A_ [3,0] 7 [Q' AS (.d4 5 0 [] []),G_ 3 (C_ 7)] (.seq [3,0] (A_ [4,3,0] 4 [E' 0] (.block 0 (.loop [0,3,4] 1 (.seq [4,3,0] (A_ [11,4,3,0] 8 [C_ 4,D_ 0,L' 9,M' 8 10] (.cond 11 .skip (.exit 0))) (.seq [4,3,0] (.block 1 (A_ [5,4,3,0] 14 [D_ 0,C_ 4,N_ 3 14 15,C' (.g9 (some 3) 16),G_ 5 (B_ (.d7 0 [Ab,Ab,Ab])),E_ (.U_ 0 3 5 17)] (A_ [6,5,4,3,0] 18 [D_ 3,K_ 0 3 5,I' Je [18,19],G_ 6 (C_ 20)] (.seq [6,5,4,3,0] (A_ [38,6,5,4,3,0] 21 [J' 0 5,J_ 0 21,I' B0 [22,AQ,(.c (.int .i64 2))],P' 23,C_ 24,F' 25 (K_ 0 3 5),F' 25 (I' FT [26]),F' 25 (I' Er [27]),F' 25 (P' 28),L_ 25 AU 29,C_ 30,F' 31 (J' 0 5),F' 31 (J_ 0 32),F' 31 (Nm 33 (.c (.int .i64 2))),F' 31 (Q_ 6),F' 31 (B_ (.bin .geq 35 AQ)),F' 31 (B_ (.eqB true 34 36)),L_ 31 AU 37] (.cond 38 (A_ [2] 2 [Q_ Ar] .ret) .skip)) (A_ [40,6,5,4,3,0] 39 [J' 0 5,J_ 0 39] (.block 2 (A_ [41,40,6,5,4,3,0] 42 [Nm 40 AD,G_ 41 (C_ 42)] (.cond 41 (At 43 [C_ 3,K_ 0 3 5,I' FT [44],B_ (.build [Ab,Ab,Ab,Ab,Ab] [(1,4,45)]),Q' AS (.d4 5 1 [Ab,Ab,Ab,Ab,Ab] [(0,5,46)]),B_ (.app 5 43 47),G_ 3 (C_ 48)]) (A_ [49,6,4,3,0] 50 [Nm 40 (.c (.int .i64 2)),G_ 49 (C_ 50)] (.cond 49 (At 51 [D_ 3,C_ 6,I' G0 [51,52],G_ 3 (C_ 53)]) .skip)))))))))) (At 12 [C_ 4,M_ 12 AD,G_ 4 (C_ 13)])))))) (A_ [2] 54 [D_ 0,L' 54,B_ (.bin .leq 55 (.c (.int .i64 8))),C_ 56,F_ 57 (I_ (.a true (.mv 3) none)),F_ 57 (L' 58),F_ 57 (Nm 59 AQ),L_ 57 60 Ar,G_ 2 (C_ 61)] .ret))))
def G3:Fn:=⟨⟨1,62,1,true,[.tmp 2],Zax⟩,[.one .Z_ (.sl AO)],.one (.one .own (.bool))⟩
theorem jl:G3.A:=AK ⟨j4,Gt,Z4,VT,Z4,ZN,trivial⟩
def G5:Cn->Bool:=G3.V
def Qa:Cn->Prop:=G3.O
theorem jt:G3.B:=AM ⟨j9,Gv,aa,VS,aa,ZO,trivial⟩ (by kernel_rfl) (λx=>by kernel_rfl)
def Zbx:d5:=(A_ [3,0] 3 [O' 0 2 1,E' 0] (.seq [] (A_ [9,8,7,3] 7 [D_ 0,L' 7,E' 0] (.block 0 (.loop [3,7,8,9] 1 (A_ [10,9,8,7,3] 10 [M' 9 8] (.seq [9,8,7,3] (.cond 10 .skip (.exit 0)) (.seq [9,8,7,3] (.block 1 (A_ [9,8,7,6,5,3] 11 [C_ 9,N_ 2 7 9,C' (.g9 (some 2) 12),G_ 6 (B_ (.d7 1 [Ab,Ab])),G_ 5 (C_ 11),E_ (.U_ 1 2 6 13)] (A_ [16,9,8,7,5,3] 14 [K_ 1 2 6,K_ 0 2 3,B_ (.eqA 2 false 14 15)] (.cond 16 (A_ [4] 17 [C_ 5,G_ 4 (C_ 17)] .ret) .skip)))) (At 18 [M_ 9 AD,G_ 9 (C_ 18)]))))))) (A_ [4] 4 [E' (-1)] .ret)))
def Jf:Fn:=⟨⟨2,19,2,true,[.tmp 4],Zbx⟩,[.one .Z_ (.sl (.cons (.int .i64) (.one (.int .i64)))),.agg [Av,Av]],.one (.one .own (.int .i64))⟩
theorem j6:Jf.A:=AK trivial
def Bt:rW->Int:=Jf.V
def Qn:rW->Prop:=Jf.O
theorem j7:Jf.B:=AM trivial (by kernel_rfl) (λx=>by kernel_rfl)
def z8:d5:=(A_ [0] 2 [Q_ Ar] (.seq [0] (A_ [10,0] 8 [D_ 0,L' 8,B_ (.bin .gtr 9 (.c (.int .i64 8)))] (.cond 10 (A_ [2] 2 [Q_ Ar] .ret) .skip)) (A_ [3,0] 3 [I_ (.aw [(0,2)] false (.mv (.c .X_)) none)] (.seq [3] (A_ [13,12,11,3] 11 [D_ 0,L' 11,E' 0] (.block 0 (.loop [3,11,12,13] 1 (A_ [14,13,12,11,3] 14 [M' 13 12] (.seq [13,12,11,3] (.cond 14 .skip (.exit 0)) (.seq [13,12,11,3] (.block 1 (A_ [13,12,11,5,3] 15 [N_ 3 11 13,C' (.g9 (some 3) 15),G_ 5 (B_ (.d7 0 [Ab,Ab,Ab])),E_ (.U_ 0 3 5 16)] (A_ [13,12,11,6,5,3] 17 [J' 1 5,C' (.d6 0 none 17),J' 2 5,C' (.d6 0 none 19),B_ (.build [Ab,Ab] [(0,1,18),(1,1,20)]),G_ 6 (B_ (.d7 1 [Ab,Ab])),E_ (.U_ 1 2 6 21)] (A_ [13,12,11,7,6,5,3] 22 [D_ 3,K_ 1 2 6,I' Jf [22,23],G_ 7 (C_ 24)] (.seq [13,12,11,7,6,5,3] (A_ [31,13,12,11,7,6,5,3] 25 [J' 1 5,C' (.d6 0 none 25),J' 2 5,C' (.d6 0 none 27),B_ (.build [Ab,Ab,Ab,Ab] [(0,1,(.c (.int .i64 2))),(1,1,26),(2,1,28)]),I' E2 [29],P' 30] (.cond 31 (A_ [2] 2 [Q_ Ar] .ret) .skip)) (A_ [33,13,12,11,7,6,5,3] 32 [J' 0 5,J_ 0 32] (.block 2 (.seq [34,33,13,12,11,7,6,5,3] (A_ [34,33,13,12,11,7,6,5,3] 35 [Nm 33 AQ,G_ 34 (C_ 35)] (.cond 34 .skip (At 36 [Nm 33 AD,G_ 34 (C_ 36)]))) (.cond 34 (.seq [13,12,11,6,5,3] (A_ [38,13,12,11,6,5,3] 37 [C_ 7,B_ (.bin .geq 37 AQ)] (.cond 38 (A_ [2] 2 [Q_ Ar] .ret) .skip)) (A_ [41,13,12,11,6,3] 39 [J' 0 5,J_ 0 39,Nm 40 AD] (.cond 41 (At 42 [C_ 3,C' (.d6 1 (some 2) 6),Q' (.cons (.int .i64) (.one (.int .i64))) (.d4 2 1 [Ab,Ab] [(0,2,43)]),I_ (.aw [(0,2)] false (.app 2 42 44) none),G_ 3 (I_ (.aw [(0,2)] false (.mv 45) none))]) .skip))) (A_ [46,13,12,11,7,3] 47 [Nm 33 (.c (.int .i64 2)),G_ 46 (C_ 47)] (.cond 46 (.seq [13,12,11,7,3] (A_ [49,13,12,11,7,3] 48 [C_ 7,M' 48 AQ] (.cond 49 (A_ [2] 2 [Q_ Ar] .ret) .skip)) (At 50 [D_ 3,C_ 7,G' (rg 2) (B_ (.slice 2 50 none (some 51))),D_ 3,C_ 7,G' [4] (M_ 54 AD),G' [3,4,5] (B_ (.slice 2 53 (some 55) none)),G' [0,1,2,3,4,5,6] (I_ (.aw [(0,2)] false (.app 2 52 56) none)),G_ 3 (G' [0,1,2,3,4,5,6,7] (I_ (.aw [(0,2)] false (.mv 57) none)))])) (A_ [2] 2 [Q_ Ar] .ret)))))))))))) (At 58 [M_ 13 AD,G_ 13 (C_ 58)]))))))) (A_ [2] 59 [D_ 3,L' 59,Nm 60 AQ,G_ 2 (C_ 61)] .ret)))))
def G4:Fn:=⟨⟨1,62,2,true,[.tmp 2],z8⟩,[.one .Z_ (.sl AO)],.one (.one .own (.bool))⟩
theorem jA:G4.A:=AK ⟨j6,V0,trivial⟩
def I8:Cn->Bool:=G4.V
def Qc:Cn->Prop:=G4.O
theorem jy:G4.B:=AM ⟨j7,VR,trivial⟩ (by kernel_rfl) (λx=>by kernel_rfl)
end
section
set_option maxRecDepth 100000
theorem Znt(x:sr)(b)(_:b=λ(x0:Int)=>g_ (So x.1 (R_ x0) (0,0,0,0,0)).2.2.1 x.2.2.1)(e)(_:e=V' x.1)(a)(_:a=(λ(x0:Int)=>W_ (b_ x0 e) (U' (W_ (b x0) (g_ (So x.1 (R_ x0) (0,0,0,0,0)).2.2.2.1 x.2.2.2)))))(c)(_:c=(λ(x0:Int)=>V_ .i64 x0 1))(d)(_:d=List.length x.1):CV x=Z' (b_ (Am a c 0) e) (Am a c 0) (-1)/\Of x=a_ a c (λ(x0:Int)=>(b_ x0 e=true->((0:Int)<=x0/\x0<(d:Int))/\R_ x0<d/\(b x0=true->((0:Int)<=x0/\x0<(d:Int))/\R_ x0<d)/\(b x0=false->True))/\(b_ x0 e=false->True)) 0:=by subst_vars;exact⟨(Je.v x).trans (by kernel_rfl),(Je.o x).trans (by kernel_rfl)⟩
abbrev ZaV:=λx=>(Znt x _ rfl _ rfl _ rfl _ rfl _ rfl).1
abbrev Za4:=λx=>(Znt x _ rfl _ rfl _ rfl _ rfl _ rfl).2
theorem Sf(x):Bi x=(2,x.2.1,x.2.2,0):=(FT.v x).trans (by kernel_rfl)
theorem je(x):Sr x=True:=(FT.o x).trans (by kernel_rfl)
theorem Sa(x):Dw x=i9 (i9 [] (lSub x.1 0 (R_ x.2))) (lSub x.1 (R_ (V_ .i64 x.2 1)) (lN x.1)):=(G0.v x).trans (by kernel_rfl)
theorem Znu(x:D5)(a)(_:a=List.length x.1)(b)(_:b=V_ .i64 x.2 1)(c)(_:c=R_ x.2):N3 x=(((0:Int)<=x.2/\0<=c/\c<=a/\0<a)/\((0:Int)<=b/\R_ b<=lN x.1/\lN x.1<=a/\0<a)/\AE ((List.length ([]:List Dk)+List.length (lSub x.1 0 c))*5)/\AE ((List.length (i9 [] (lSub x.1 0 c))+List.length (lSub x.1 (R_ b) (lN x.1)))*5)):=by subst_vars;exact(G0.o x).trans (by kernel_rfl)
abbrev vK:=λx=>Znu x _ rfl _ rfl _ rfl
theorem Zny(x:Cn)(a)(_:a=λ(x0:D5)=>So x (R_ x0.2) (0,0,0))(b)(_:b=λ(x0:D5)=>Bi ((a x0).1,(a x0).2.1,(a x0).2.2))(f)(_:f=λ(x0:D5)=>CV (x0.1,(a x0).1,(a x0).2.1,(a x0).2.2))(h)(_:h=λ(x0:D5)=>U' (BU ((a x0).1,0,2)))(c)(_:c=λ(x0:D5)=>t8 (h x0) (t8 (U' (Ej ((b x0).1,(b x0).2.1,(b x0).2.2.1,(b x0).2.2.2))) (U' (bIff (g_ (a x0).1 2) (iGe (f x0) 0)))))(d)(_:d=(λ(x0:D5)=>(Z' (g_ (a x0).1 1) (i9 x0.1 [(0,(b x0).1,(b x0).2.1,(b x0).2.2.1,(b x0).2.2.2)]) (Z' (g_ (a x0).1 2) (Dw (x0.1,f x0)) x0.1),V_ .i64 x0.2 1)))(g)(_:g=V' x)(e)(_:e=(λ(x0:D5)=>W_ (b_ x0.2 g) (U' (c x0)))):G5 x=W_ (U' (b_ (Am e d ([],0)).2 g)) (W_ (iLe g 8) (g_ (V' (Am e d ([],0)).1) 0))/\Qa x=a_ e d (λ(x0:D5)=>(b_ x0.2 g=true->((0:Int)<=x0.2/\x0.2<(List.length x:Int))/\R_ x0.2<List.length x/\Of (x0.1,(a x0).1,(a x0).2.1,(a x0).2.2)/\(Ek ((a x0).1,0,2)/\(h x0=true->True)/\(h x0=false->Sr ((a x0).1,(a x0).2.1,(a x0).2.2)/\N5 ((b x0).1,(b x0).2.1,(b x0).2.2.1,(b x0).2.2.2)))/\(c x0=true->True)/\(c x0=false->(g_ (a x0).1 1=true->Sr ((a x0).1,(a x0).2.1,(a x0).2.2)/\AE ((List.length x0.1+List.length [(0,(b x0).1,(b x0).2.1,(b x0).2.2.1,(b x0).2.2.2)])*5))/\(g_ (a x0).1 1=false->(g_ (a x0).1 2=true->N3 (x0.1,f x0))/\(g_ (a x0).1 2=false->True))))/\(b_ x0.2 g=false->True)) ([],0):=by subst_vars;exact⟨(G3.v x).trans (by kernel_rfl),(G3.o x).trans (by kernel_rfl)⟩
abbrev jw:=λx=>(Zny x _ rfl _ rfl _ rfl _ rfl _ rfl _ rfl _ rfl _ rfl).1
abbrev zx:=λx=>(Zny x _ rfl _ rfl _ rfl _ rfl _ rfl _ rfl _ rfl _ rfl).2
theorem ZnB(x:rW)(c)(_:c=V' x.1)(a)(_:a=(λ(x0:Int)=>W_ (b_ x0 c) (U' (W_ (g_ (So x.1 (R_ x0) (0,0)).1 x.2.1) (g_ (So x.1 (R_ x0) (0,0)).2 x.2.2)))))(b)(_:b=(λ(x0:Int)=>V_ .i64 x0 1))(d)(_:d=List.length x.1):Bt x=Z' (b_ (Am a b 0) c) (Am a b 0) (-1)/\Qn x=a_ a b (λ(x0:Int)=>(b_ x0 c=true->((0:Int)<=x0/\x0<(d:Int))/\R_ x0<d)/\(b_ x0 c=false->True)) 0:=by subst_vars;exact⟨(Jf.v x).trans (by kernel_rfl),(Jf.o x).trans (by kernel_rfl)⟩
abbrev aA:=λx=>(ZnB x _ rfl _ rfl _ rfl _ rfl).1
abbrev ZbH:=λx=>(ZnB x _ rfl _ rfl _ rfl _ rfl).2
theorem ZnE(x:Cn)(a)(_:a=λ(x0:JF)=>So x (R_ x0.2) (0,0,0))(b)(_:b=λ(x0:JF)=>Bt (x0.1,(a x0).2.1,(a x0).2.2))(e)(_:e=λ(x0:JF)=>t8 (g_ (a x0).1 0) (g_ (a x0).1 1))(i)(_:i=λ(x0:JF)=>lSub x0.1 (R_ (V_ .i64 (b x0) 1)) (lN x0.1))(j)(_:j=λ(x0:JF)=>lSub x0.1 0 (R_ (b x0)))(c)(_:c=(λ(x0:JF)=>(Z' (e x0) (Z' (g_ (a x0).1 1) (i9 x0.1 [((a x0).2.1,(a x0).2.2)]) x0.1) (i9 (lTake x0.1 (lN (j x0))) (i x0)),V_ .i64 x0.2 1)))(g)(_:g=λ(x0:JF)=>U' (Cc (2,(a x0).2.1,(a x0).2.2,0)))(h)(_:h=V' x)(d)(_:d=(λ(x0:JF)=>W_ (b_ x0.2 h) (W_ (U' (g x0)) (Z' (e x0) (U' (iGe (b x0) 0)) (W_ (g_ (a x0).1 2) (U' (b_ (b x0) 0)))))))(f)(_:f=λ(x0:JF)=>List.length x0.1)(k)(_:k=iGt h 8):I8 x=W_ (U' k) (W_ (U' (b_ (Am d c ([],0)).2 h)) (g_ (V' (Am d c ([],0)).1) 0))/\Qc x=((k=true->True)/\(k=false->a_ d c (λ(x0:JF)=>(b_ x0.2 h=true->((0:Int)<=x0.2/\x0.2<(List.length x:Int))/\R_ x0.2<List.length x/\Qn (x0.1,(a x0).2.1,(a x0).2.2)/\N8 (2,(a x0).2.1,(a x0).2.2,0)/\(g x0=true->True)/\(g x0=false->(e x0=true->(iGe (b x0) 0=true->True)/\(iGe (b x0) 0=false->(g_ (a x0).1 1=true->AE ((f x0+List.length [((a x0).2.1,(a x0).2.2)])*2))/\(g_ (a x0).1 1=false->True)))/\(e x0=false->(g_ (a x0).1 2=true->(b_ (b x0) 0=true->True)/\(b_ (b x0) 0=false->((0:Int)<=b x0/\0<=R_ (b x0)/\R_ (b x0)<=f x0/\0<f x0)/\((0:Int)<=V_ .i64 (b x0) 1/\R_ (V_ .i64 (b x0) 1)<=lN x0.1/\lN x0.1<=f x0/\0<f x0)/\0<f x0/\List.length (j x0)<=f x0/\AE ((List.length (j x0)+List.length (i x0))*2)))/\(g_ (a x0).1 2=false->True))))/\(b_ x0.2 h=false->True)) ([],0))):=by subst_vars;exact⟨(G4.v x).trans (by kernel_rfl),(G4.o x).trans (by kernel_rfl)⟩
abbrev zt:=λx=>(ZnE x _ rfl _ rfl _ rfl _ rfl _ rfl _ rfl _ rfl _ rfl _ rfl _ rfl _ rfl).1
abbrev zu:=λx=>(ZnE x _ rfl _ rfl _ rfl _ rfl _ rfl _ rfl _ rfl _ rfl _ rfl _ rfl _ rfl).2
attribute [irreducible] CV Of Bi Sr Dw N3 G5 Qa Bt Qn I8 Qc
end
section
set_option maxRecDepth 8000
def jn:ACode:=(.seq (.region [⟨0,some 4,.mv (.c (.int .i64 0)),none,[]⟩]) (.seq (.seq (.region [⟨0,some 5,.mv (.c (.int .i64 0)),none,[]⟩]) (.block 0 (.loop [0,1,5] (.seq (.seq (.region [⟨0,some 6,.mv (.t 5),none,[]⟩,⟨1,some 7,.mv (.t 0),none,[]⟩,⟨2,some 8,.len (.t 7),none,[]⟩,⟨3,some 9,.bin .lss (.t 6) (.t 8),none,[]⟩]) (.cond (.t 9) .skip (.exit 0))) (.seq (.block 1 (.seq (.region [⟨0,some 12,.mv (.t 0),none,[]⟩,⟨1,some 13,.mv (.t 5),none,[]⟩,⟨2,some 14,.mv (.t 1),none,[]⟩,⟨3,some 15,.m_ 1 (.t 12) (.t 13),none,[]⟩,⟨4,none,.f6 1 (.t 15) (.t 14),none,[]⟩]) (.region [⟨0,some 16,.mv (.t 1),none,[]⟩,⟨1,some 17,.bin .add (.t 16) (.c (.int .i64 1)),none,[]⟩,⟨2,some 1,.mv (.t 17),none,[]⟩]))) (.region [⟨0,some 10,.mv (.t 5),none,[]⟩,⟨1,some 11,.bin .add (.t 10) (.c (.int .i64 1)),none,[]⟩,⟨2,some 5,.mv (.t 11),none,[]⟩])))))) (.seq (.region [⟨0,some 18,.mv (.t 1),none,[]⟩,⟨1,some 4,.mv (.t 18),none,[]⟩]) .ret)))
def al:AFun:=⟨2,19,0,false,[.tmp 4],jn⟩
@[irreducible] def JX:Bg:=ER al
@[irreducible] def D9(x:BO)(m:Int):BO×Int:=(shut λ(x:BO) (m:Int)=>AV (RT.mkI (.one (.int .i64))) x m).1 x m
@[irreducible] def PN(x:BO):Prop:=(shut λ(x:BO)=>CT.wl (.sl (.one (.int .i64))) x).1 x
theorem ZQ:D9=λx m=>AV (RT.mkI (.one (.int .i64))) x m:=by unfold D9;exact(shut _).2
theorem iy:PN=λx=>CT.wl (.sl (.one (.int .i64))) x:=by unfold PN;exact(shut _).2
theorem jf:SlC JX (.one (.int .i64)):=by
 rintro h ω hd p l u m Q d9 hinj hM hQ;have C:=hM.len;have Y:l.length<=9223372036854775807:=d9.1;unfold JX;refine J6 rfl ?_;unfold jn;simp only[go_sem,reduceIte,reduceCtorEq,Nat.reduceAdd,Nat.reduceBEq,Int.reduceLT,Int.reduceLE,Int.reduceGT,Int.reduceGE,Int.reduceBEq,Int.reduceBNe,Nat.reduceEqDiff,Nat.reduceLeDiff,Nat.reduceLT,C];refine M9 l.length (λi st=>∃h',st=⟨[u,.int .i64 (A8 (RT.mkI (.one (.int .i64))) l m i).2,.undef,.undef,.undef,.int .i64 (i:Int)]++EE 13,[],h'⟩/\x_ (GM ω hd p) h h'/\MS h' ω hd p (.one (.int .i64)) (A8 (RT.mkI (.one (.int .i64))) l m i).1 u) ?_ ?_
 ·refine⟨h,?_,x_.refl _ _,hM⟩;simp only[MR,keep,Ns];rfl
 rintro i st next hi ⟨h1,rfl,I,s⟩ A
 by_cases t:i<l.length
 ·have G:decide ((i:Int)<(l.length:Int))=true:=FC (by omega);have U:IntKind.i64.wrap ((i:Int)+1)=((i+1:Nat):Int):=(by rw[Mc (by omega)];omega);obtain⟨b,n⟩:=s.slice (by rw[FA];omega);rw[FA]at n;subst n;cases J:A8 (RT.mkI (.one (.int .i64))) l m i with
  |mk L z=>
  rw[J]at s;obtain⟨Z,hs,g⟩:=Ou t J;have q:i<L.length:=(by omega);have j:=O5 d9 t;rw[<- g]at j;have N:=MS.frame s q;clear g;generalize g:List.getD L i (RT.dflt (.one (.int .i64)))=x0 at N hs j;clear g;have R:=Na (b:=b) (w:=1) t (k:=.i64);simp only;obtain⟨M,x,O,R1⟩:=MS.st N q (off:=0) (by decide) (v:=(.int .i64 z)) rfl rfl (y:=(z:RT.D (.one (.int .i64)))) rfl hinj [];replace x:Ew [] h1 1 (.ptr b (i*1)) (.int .i64 z)=some (.undef,[],M):=x;simp only[go_sem,reduceIte,reduceCtorEq,Nat.reduceAdd,Nat.reduceBEq,Int.reduceLT,Int.reduceLE,Int.reduceGT,Int.reduceGE,Int.reduceBEq,Int.reduceBNe,Nat.reduceEqDiff,Nat.reduceLeDiff,Nat.reduceLT,C,G,U,R,x];exact A _ t ⟨M,by rw[hs];rfl,(x_.trans I O),by rw[hs];exact R1⟩
 have G:decide ((i:Int)<(l.length:Int))=false:=C7 (by omega);have F:i=l.length:=by omega
 subst F;simp only[go_sem,reduceIte,reduceCtorEq,Nat.reduceAdd,Nat.reduceBEq,Int.reduceLT,Int.reduceLE,Int.reduceGT,Int.reduceGE,Int.reduceBEq,Int.reduceBNe,Nat.reduceEqDiff,Nat.reduceLeDiff,Nat.reduceLT,C,G];have e:=Hj (RT.mkI (.one (.int .i64))) l m;rw[e]at s ⊢;exact hQ h1 I s
theorem zc:JD JX (gv (.one (.int .i64))).P:=SlC.sound jf
def ak:DMk:=⟨.one (.sl (.one (.int .i64))),false,PN,D9,false⟩
theorem wz:JD JX (DMk.P ak):=by unfold ak;rw[iy,ZQ];exact zc
def xo:d5:=(A_ [1,0] 4 [E' 0] (.seq [1] (A_ [5,1,0] 5 [E' 0] (.block 0 (.loop [0,1,5] 1 (.seq [5,1,0] (A_ [9,5,1,0] 6 [C_ 5,D_ 0,L' 7,M' 6 8] (.cond 9 .skip (.exit 0))) (.seq [5,1,0] (.block 1 (.seq [5,1,0] (A_ [17,5,1,0] 12 [D_ 0,C_ 5,N_ 1 12 13,O_ 14,C_ 1,N' 15 16] (.cond 17 (A_ [4] 4 [E' (-1)] .ret) .skip)) (At 18 [C_ 1,M_ 18 AD,G_ 1 (C_ 19)]))) (At 10 [C_ 5,M_ 10 AD,G_ 5 (C_ 11)])))))) (A_ [4] 20 [C_ 1,G_ 4 (C_ 20)] .ret)))
def Lc:Fn:=⟨⟨2,21,0,true,[.tmp 4],xo⟩,[.one .Z_ (.sl (.one (.int .i64))),.one .Z_ (.int .i64)],.one (.one .own (.int .i64))⟩
theorem wT:Lc.A:=AK trivial
def E6:DN->Int:=Lc.V
def Si:DN->Prop:=Lc.O
theorem w8:Lc.B:=AM trivial (by kernel_rfl) (λx=>by kernel_rfl)
end
section
set_option maxRecDepth 100000
theorem ZnH(x:DN)(c)(_:c=V' x.1)(a)(_:a=(λ(x0:Au)=>W_ (b_ x0.2 c) (U' (j_ (So x.1 (R_ x0.2) 0) x0.1))))(b)(_:b=(λ(x0:Au)=>(V_ .i64 x0.1 1,V_ .i64 x0.2 1)))(d)(_:d=List.length x.1)(e)(_:e=Am a b (x.2,0)):E6 x=Z' (b_ e.2 c) (-1) e.1/\Si x=a_ a b (λ(x0:Au)=>(b_ x0.2 c=true->((0:Int)<=x0.2/\x0.2<(d:Int))/\R_ x0.2<d)/\(b_ x0.2 c=false->True)) (x.2,0):=by subst_vars;exact⟨(Lc.v x).trans (by kernel_rfl),(Lc.o x).trans (by kernel_rfl)⟩
abbrev xY:=λx=>(ZnH x _ rfl _ rfl _ rfl _ rfl _ rfl).1
abbrev xh:=λx=>(ZnH x _ rfl _ rfl _ rfl _ rfl _ rfl).2
attribute [irreducible] E6 Si
end
section
set_option maxRecDepth 8000
def xD:d5:=(A_ [0] 2 [Q_ (.c .X_)] (A_ [2] 3 [D_ 0,B_ (.app 1 (.c .X_) 3),G_ 2 (C_ 4)] .ret))
def IX:Fn:=⟨⟨1,5,0,false,[.tmp 2],xD⟩,[.one .Z_ (.sl (.one (.int .i64)))],.one (.one .own (.sl (.one (.int .i64))))⟩
theorem jd:IX.A:=AK trivial
def Dg:BO->List (Int):=IX.V
def Sm:BO->Prop:=IX.O
theorem iS:IX.B:=AM trivial (by kernel_rfl) (λx=>by kernel_rfl)
end
section
set_option maxRecDepth 100000
theorem VH(x):Dg x=x:=(IX.v x).trans (by kernel_rfl)
theorem iQ(x):Sm x=AE (List.length x*1):=(IX.o x).trans (by kernel_rfl)
attribute [irreducible] Dg Sm
end
section
set_option maxRecDepth 8000
def ie:ACode:=(.seq (.region [⟨0,some 4,.mv (.c (.int .i64 0)),none,[]⟩]) (.seq (.seq (.region [⟨0,some 5,.mv (.c (.int .i64 0)),none,[]⟩]) (.block 0 (.loop [0,1,5] (.seq (.seq (.region [⟨0,some 6,.mv (.t 5),none,[]⟩,⟨1,some 7,.mv (.t 0),none,[]⟩,⟨2,some 8,.len (.t 7),none,[]⟩,⟨3,some 9,.bin .lss (.t 6) (.t 8),none,[]⟩]) (.cond (.t 9) .skip (.exit 0))) (.seq (.block 1 (.seq (.region [⟨0,some 12,.mv (.t 0),none,[]⟩,⟨1,some 13,.mv (.t 5),none,[]⟩,⟨2,some 14,.mv (.t 1),none,[]⟩,⟨3,some 15,.m_ 4 (.t 12) (.t 13),none,[]⟩,⟨4,some 16,.f5 0 (.t 15),none,[]⟩,⟨5,none,.f6 1 (.t 16) (.t 14),none,[]⟩]) (.seq (.region [⟨0,some 17,.mv (.t 1),none,[]⟩,⟨1,some 18,.bin .add (.t 17) (.c (.int .i64 1)),none,[]⟩,⟨2,some 1,.mv (.t 18),none,[]⟩]) (.seq (.region [⟨0,some 19,.mv (.t 0),none,[]⟩,⟨1,some 20,.mv (.t 5),none,[]⟩,⟨2,some 21,.mv (.t 1),none,[]⟩,⟨3,some 22,.m_ 4 (.t 19) (.t 20),none,[]⟩,⟨4,some 23,.f5 1 (.t 22),none,[]⟩,⟨5,none,.f6 1 (.t 23) (.t 21),none,[]⟩]) (.seq (.region [⟨0,some 24,.mv (.t 1),none,[]⟩,⟨1,some 25,.bin .add (.t 24) (.c (.int .i64 1)),none,[]⟩,⟨2,some 1,.mv (.t 25),none,[]⟩]) (.seq (.region [⟨0,some 26,.mv (.t 0),none,[]⟩,⟨1,some 27,.mv (.t 5),none,[]⟩,⟨2,some 28,.mv (.t 1),none,[]⟩,⟨3,some 29,.m_ 4 (.t 26) (.t 27),none,[]⟩,⟨4,some 30,.f5 2 (.t 29),none,[]⟩,⟨5,none,.f6 1 (.t 30) (.t 28),none,[]⟩]) (.seq (.region [⟨0,some 31,.mv (.t 1),none,[]⟩,⟨1,some 32,.bin .add (.t 31) (.c (.int .i64 1)),none,[]⟩,⟨2,some 1,.mv (.t 32),none,[]⟩]) (.seq (.region [⟨0,some 33,.mv (.t 0),none,[]⟩,⟨1,some 34,.mv (.t 5),none,[]⟩,⟨2,some 35,.mv (.t 1),none,[]⟩,⟨3,some 36,.m_ 4 (.t 33) (.t 34),none,[]⟩,⟨4,some 37,.f5 3 (.t 36),none,[]⟩,⟨5,none,.f6 1 (.t 37) (.t 35),none,[]⟩]) (.region [⟨0,some 38,.mv (.t 1),none,[]⟩,⟨1,some 39,.bin .add (.t 38) (.c (.int .i64 1)),none,[]⟩,⟨2,some 1,.mv (.t 39),none,[]⟩]))))))))) (.region [⟨0,some 10,.mv (.t 5),none,[]⟩,⟨1,some 11,.bin .add (.t 10) (.c (.int .i64 1)),none,[]⟩,⟨2,some 5,.mv (.t 11),none,[]⟩])))))) (.seq (.region [⟨0,some 40,.mv (.t 1),none,[]⟩,⟨1,some 4,.mv (.t 40),none,[]⟩]) .ret)))
def ZJ:AFun:=⟨2,41,0,false,[.tmp 4],ie⟩
@[irreducible] def PM:Bg:=ER ZJ
@[irreducible] def GV(x:DA)(m:Int):DA×Int:=(shut λ(x:DA) (m:Int)=>AV (RT.mkI Az) x m).1 x m
@[irreducible] def Vc(x:DA):Prop:=(shut λ(x:DA)=>CT.wl (.sl Az) x).1 x
theorem gI:GV=λx m=>AV (RT.mkI Az) x m:=by unfold GV;exact(shut _).2
theorem tc:Vc=λx=>CT.wl (.sl Az) x:=by unfold Vc;exact(shut _).2
theorem tK:SlC PM Az:=by
 rintro h ω hd p l u m Q d9 hinj hM hQ;have I:=hM.len;have hlb:l.length<=9223372036854775807:=d9.1;unfold PM;refine J6 rfl ?_;unfold ie;simp only[go_sem,reduceIte,reduceCtorEq,Nat.reduceAdd,Nat.reduceBEq,Int.reduceLT,Int.reduceLE,Int.reduceGT,Int.reduceGE,Int.reduceBEq,Int.reduceBNe,Nat.reduceEqDiff,Nat.reduceLeDiff,Nat.reduceLT,I];refine M9 l.length (λi st=>∃h',st=⟨[u,.int .i64 (A8 (RT.mkI Az) l m i).2,.undef,.undef,.undef,.int .i64 (i:Int)]++EE 35,[],h'⟩/\x_ (GM ω hd p) h h'/\MS h' ω hd p Az (A8 (RT.mkI Az) l m i).1 u) ?_ ?_
 ·refine⟨h,?_,x_.refl _ _,hM⟩;simp only[MR,keep,Ns];rfl
 rintro i st next hi ⟨h1,rfl,N,t⟩ G
 by_cases x:i<l.length
 ·have M:decide ((i:Int)<(l.length:Int))=true:=FC (by omega);have hw:IntKind.i64.wrap ((i:Int)+1)=((i+1:Nat):Int):=(by rw[Mc (by omega)];omega);obtain⟨b,s⟩:=t.slice (by rw[FA];omega);rw[FA]at s;subst s;cases O:A8 (RT.mkI Az) l m i with
  |mk L g=>
  rw[O]at t;obtain⟨hLl,hs,n⟩:=Ou x O;have j:i<L.length:=(by omega);have q:=O5 d9 x;rw[<- n]at q;have R0:=MS.frame t j;clear n;generalize n:List.getD L i (RT.dflt Az)=x0 at R0 hs q;clear n;have hx:=Na (b:=b) (w:=4) x (k:=.i64);simp only;obtain⟨Z,F,o0,R1⟩:=MS.st R0 j (off:=0) (by decide) (v:=(.int .i64 g)) rfl rfl (y:=((g,x0.2.1,x0.2.2.1,x0.2.2.2):RT.D Az)) rfl hinj [];replace F:Ew [] h1 1 (.ptr b (i*4)) (.int .i64 g)=some (.undef,[],Z):=F;obtain⟨Y,C,o1,R2⟩:=MS.st R1 j (off:=1) (by decide) (v:=(.int .i64 (IntKind.i64.wrap (g+1)))) rfl rfl (y:=((g,(IntKind.i64.wrap (g+1)),x0.2.2.1,x0.2.2.2):RT.D Az)) rfl hinj [];replace C:Ew [] Z 1 (.ptr b (i*4+1)) (.int .i64 (IntKind.i64.wrap (g+1)))=some (.undef,[],Y):=C;obtain⟨U,A,o2,R3⟩:=MS.st R2 j (off:=2) (by decide) (v:=(.int .i64 (IntKind.i64.wrap (IntKind.i64.wrap (g+1)+1)))) rfl rfl (y:=((g,(IntKind.i64.wrap (g+1)),(IntKind.i64.wrap (IntKind.i64.wrap (g+1)+1)),x0.2.2.2):RT.D Az)) rfl hinj [];replace A:Ew [] Y 1 (.ptr b (i*4+2)) (.int .i64 (IntKind.i64.wrap (IntKind.i64.wrap (g+1)+1)))=some (.undef,[],U):=A;obtain⟨R,z,o3,R4⟩:=MS.st R3 j (off:=3) (by decide) (v:=(.int .i64 (IntKind.i64.wrap (IntKind.i64.wrap (IntKind.i64.wrap (g+1)+1)+1)))) rfl rfl (y:=((g,(IntKind.i64.wrap (g+1)),(IntKind.i64.wrap (IntKind.i64.wrap (g+1)+1)),(IntKind.i64.wrap (IntKind.i64.wrap (IntKind.i64.wrap (g+1)+1)+1))):RT.D Az)) rfl hinj [];replace z:Ew [] U 1 (.ptr b (i*4+3)) (.int .i64 (IntKind.i64.wrap (IntKind.i64.wrap (IntKind.i64.wrap (g+1)+1)+1)))=some (.undef,[],R):=z;simp only[go_sem,reduceIte,reduceCtorEq,Nat.reduceAdd,Nat.reduceBEq,Int.reduceLT,Int.reduceLE,Int.reduceGT,Int.reduceGE,Int.reduceBEq,Int.reduceBNe,Nat.reduceEqDiff,Nat.reduceLeDiff,Nat.reduceLT,I,M,hw,hx,F,C,A,z];exact G _ x ⟨R,by rw[hs];rfl,(x_.trans (x_.trans (x_.trans (x_.trans N o0) o1) o2) o3),by rw[hs];exact R4⟩
 have M:decide ((i:Int)<(l.length:Int))=false:=C7 (by omega);have J:i=l.length:=by omega
 subst J;simp only[go_sem,reduceIte,reduceCtorEq,Nat.reduceAdd,Nat.reduceBEq,Int.reduceLT,Int.reduceLE,Int.reduceGT,Int.reduceGE,Int.reduceBEq,Int.reduceBNe,Nat.reduceEqDiff,Nat.reduceLeDiff,Nat.reduceLT,I,M];have e:=Hj (RT.mkI Az) l m;rw[e]at t ⊢;exact hQ h1 N t
def gR:ACode:=(.seq (.region [⟨0,some 4,.mv (.c (.int .i64 0)),none,[]⟩]) (.seq (.seq (.region [⟨0,some 5,.mv (.c (.int .i64 0)),none,[]⟩]) (.block 0 (.loop [0,1,5] (.seq (.seq (.region [⟨0,some 6,.mv (.t 5),none,[]⟩,⟨1,some 7,.mv (.t 0),none,[]⟩,⟨2,some 8,.len (.t 7),none,[]⟩,⟨3,some 9,.bin .lss (.t 6) (.t 8),none,[]⟩]) (.cond (.t 9) .skip (.exit 0))) (.seq (.block 1 (.region [⟨0,some 12,.mv (.t 0),none,[]⟩,⟨1,some 13,.mv (.t 5),none,[]⟩,⟨2,some 14,.m_ 1 (.t 12) (.t 13),none,[]⟩,⟨3,some 15,.g9 none (.t 14),none,[]⟩,⟨4,some 16,.mv (.t 1),none,[]⟩,⟨5,some 17,.call PM [(.t 15),(.t 16)],none,[]⟩,⟨6,some 1,.mv (.t 17),none,[]⟩])) (.region [⟨0,some 10,.mv (.t 5),none,[]⟩,⟨1,some 11,.bin .add (.t 10) (.c (.int .i64 1)),none,[]⟩,⟨2,some 5,.mv (.t 11),none,[]⟩])))))) (.seq (.region [⟨0,some 18,.mv (.t 1),none,[]⟩,⟨1,some 4,.mv (.t 18),none,[]⟩]) .ret)))
def ZA:AFun:=⟨2,19,0,false,[.tmp 4],gR⟩
@[irreducible] def PG:Bg:=ER ZA
@[irreducible] def IC(x:Cz)(m:Int):Cz×Int:=(shut λ(x:Cz) (m:Int)=>AV (RT.mkI (.one (.sl Az))) x m).1 x m
@[irreducible] def U8(x:Cz):Prop:=(shut λ(x:Cz)=>CT.wl (.sl (.one (.sl Az))) x).1 x
theorem gE:IC=λx m=>AV (RT.mkI (.one (.sl Az))) x m:=by unfold IC;exact(shut _).2
theorem sV:U8=λx=>CT.wl (.sl (.one (.sl Az))) x:=by unfold U8;exact(shut _).2
theorem tj:SlC PG (.one (.sl Az)):=by
 rintro h ω hd p l u m Q d9 hinj hM hQ;have y:=hM.len;have hlb:l.length<=9223372036854775807:=d9.1;unfold PG;refine J6 rfl ?_;unfold gR;simp only[go_sem,reduceIte,reduceCtorEq,Nat.reduceAdd,Nat.reduceBEq,Int.reduceLT,Int.reduceLE,Int.reduceGT,Int.reduceGE,Int.reduceBEq,Int.reduceBNe,Nat.reduceEqDiff,Nat.reduceLeDiff,Nat.reduceLT,y];refine M9 l.length (λi st=>∃h',st=⟨[u,.int .i64 (A8 (RT.mkI (.one (.sl Az))) l m i).2,.undef,.undef,.undef,.int .i64 (i:Int)]++EE 13,[],h'⟩/\x_ (GM ω hd p) h h'/\MS h' ω hd p (.one (.sl Az)) (A8 (RT.mkI (.one (.sl Az))) l m i).1 u) ?_ ?_
 ·refine⟨h,?_,x_.refl _ _,hM⟩;simp only[MR,keep,Ns];rfl
 rintro i st next hi ⟨h1,rfl,N,t⟩ C
 by_cases A:i<l.length
 ·have z:decide ((i:Int)<(l.length:Int))=true:=FC (by omega);have M:IntKind.i64.wrap ((i:Int)+1)=((i+1:Nat):Int):=(by rw[Mc (by omega)];omega);obtain⟨b,q⟩:=t.slice (by rw[FA];omega);rw[FA]at q;subst q;cases O:A8 (RT.mkI (.one (.sl Az))) l m i with
  |mk L I=>
  rw[O]at t;obtain⟨hLl,hs,g⟩:=Ou A O;have s:i<L.length:=(by omega);have j:=O5 d9 A;rw[<- g]at j;have U:=MS.frame t s;clear g;generalize g:List.getD L i (RT.dflt (.one (.sl Az)))=x0 at U hs j;clear g;have J:=Na (b:=b) (w:=1) A (k:=.i64);simp only;obtain⟨G,x,Y,f0⟩:=MS.sb U s (off:=0) (by decide) (r':=Az) (l':=x0) rfl;replace x:LS h1 none (.ptr b (i*1))=some G:=x;have n:=(MS.ok1 Y).1;simp only[go_sem,reduceIte,reduceCtorEq,Nat.reduceAdd,Nat.reduceBEq,Int.reduceLT,Int.reduceLE,Int.reduceGT,Int.reduceGE,Int.reduceBEq,Int.reduceBNe,Nat.reduceEqDiff,Nat.reduceLeDiff,Nat.reduceLT,y,z,M,J,x,n];refine Me (tK h1 ω hd _ x0 G I _ j hinj Y λR O0 N0=>?_);obtain⟨Z,R1⟩:=f0 R _ ((AV (RT.mkI Az) x0 I).1:RT.D (.one (.sl Az))) O0 N0 rfl;simp only[go_sem,reduceIte,reduceCtorEq,Nat.reduceAdd,Nat.reduceBEq,Int.reduceLT,Int.reduceLE,Int.reduceGT,Int.reduceGE,Int.reduceBEq,Int.reduceBNe,Nat.reduceEqDiff,Nat.reduceLeDiff,Nat.reduceLT,y,z,M,J,x,n];exact C _ A ⟨R,by rw[hs];rfl,(x_.trans N Z),by rw[hs];exact R1⟩
 have z:decide ((i:Int)<(l.length:Int))=false:=C7 (by omega);have F:i=l.length:=by omega
 subst F;simp only[go_sem,reduceIte,reduceCtorEq,Nat.reduceAdd,Nat.reduceBEq,Int.reduceLT,Int.reduceLE,Int.reduceGT,Int.reduceGE,Int.reduceBEq,Int.reduceBNe,Nat.reduceEqDiff,Nat.reduceLeDiff,Nat.reduceLT,y,z];have e:=Hj (RT.mkI (.one (.sl Az))) l m;rw[e]at t ⊢;exact hQ h1 N t
def iK:ACode:=(.seq (.region [⟨0,some 2,.boxB 0 2 (.t 0),none,[]⟩,⟨1,some 4,.mv (.c (.int .i64 0)),none,[]⟩]) (.seq (.region [⟨0,some 5,.f5 1 (.t 2),none,[]⟩,⟨1,some 6,.d6 0 none (.t 5),none,[]⟩,⟨2,some 7,.mv (.t 1),none,[]⟩,⟨3,some 8,.call PG [(.t 6),(.t 7)],none,[]⟩,⟨4,some 1,.mv (.t 8),none,[]⟩]) (.seq (.region [⟨0,some 9,.mv (.t 1),none,[]⟩,⟨1,some 4,.mv (.t 9),none,[]⟩]) .ret)))
def ZP:AFun:=⟨2,10,1,false,[.tmp 4],iK⟩
@[irreducible] def N4:Bg:=ER ZP
@[irreducible] def EZ(x:Ca)(m:Int):Ca×Int:=(shut λ(x:Ca) (m:Int)=>RT.mkT (.cons (.int .i64) (.one (.sl (.one (.sl Az))))) x m).1 x m
@[irreducible] def Vi(x:Ca):Prop:=(shut λ(x:Ca)=>RT.wl (.cons (.int .i64) (.one (.sl (.one (.sl Az))))) x).1 x
theorem gQ:EZ=λx m=>RT.mkT (.cons (.int .i64) (.one (.sl (.one (.sl Az))))) x m:=by unfold EZ;exact(shut _).2
theorem tE:Vi=λx=>RT.wl (.cons (.int .i64) (.one (.sl (.one (.sl Az))))) x:=by unfold Vi;exact(shut _).2
theorem uC:JD N4 (gq (.cons (.int .i64) (.one (.sl (.one (.sl Az)))))).P:=by
 rintro h ω hd P b AN us u m K Q hinj n hl hr ⟨x,rfl,d9,hK⟩ hQ;have n:u= .agg us:=n;subst n;show N4 [.agg us,.int .i64 m] h Q;obtain⟨F,j,rfl⟩:=Zk4 hl;have C:RM h ω hd (P++[b+0]) (CT.enc (.int .i64) x.1) F:=hr 0 (Gc (by decide));have i:RM h ω hd (P++[b+1]) (CT.enc (.sl (.one (.sl Az))) x.2) j:=hr 1 (Gc (by decide));have A:=C.cellV rfl;have z:=i.cellV rfl;have y:=(RM.own1 i).1;have G:=(RM.own1 i).2.2;unfold N4;refine J6 rfl ?_;unfold iK;simp only[go_sem,reduceIte,reduceCtorEq,Nat.reduceAdd,Nat.reduceBEq,Int.reduceLT,Int.reduceLE,Int.reduceGT,Int.reduceGE,Int.reduceBEq,Int.reduceBNe,Nat.reduceEqDiff,Nat.reduceLeDiff,Nat.reduceLT,A,z,y];refine Me (tj h ω hd (P++[b+1]) x.2 j m _ d9.2 hinj i λh1 D s=>?_);replace s:RM h1 ω hd (P++[b+1]) (CT.enc (.sl (.one (.sl Az))) (AV (RT.mkI (.one (.sl Az))) x.2 m).1) j:=s;have g:=RM.beside C D (λl hs=>by obtain⟨q,e⟩:=hs;exact⟨b+1,q,by omega,by rw[e];simp⟩);simp only[go_sem,reduceIte,reduceCtorEq,Nat.reduceAdd,Nat.reduceBEq,Int.reduceLT,Int.reduceLE,Int.reduceGT,Int.reduceGE,Int.reduceBEq,Int.reduceBNe,Nat.reduceEqDiff,Nat.reduceLeDiff,Nat.reduceLT,A,z,y];refine hQ _ _ h1 hK rfl ((x_.mono D λl hs=>by obtain⟨q,e⟩:=hs;exact⟨1,_,q,Gc (by decide),rfl,by rw[e];simp⟩)) λc t=>?_;have t:c<2:=t;rcases (show c=0\/c=1 by omega)with rfl|rfl
 ·exact g
 exact s
def tH:d5:=(A_ [1,0] 4 [E' 0] (.seq [1] (A_ [5,1,0] 5 [E' 0] (.block 0 (.loop [0,1,5] 1 (.seq [5,1,0] (A_ [9,5,1,0] 6 [C_ 5,D_ 0,L' 7,M' 6 8] (.cond 9 .skip (.exit 0))) (.seq [5,1,0] (.block 1 (.seq [5,1,0] (A_ [18,5,1,0] 12 [D_ 0,C_ 5,N_ 4 12 13,J' 0 14,O_ 15,C_ 1,N' 16 17] (.cond 18 (A_ [4] 4 [E' (-1)] .ret) .skip)) (A_ [5,1,0] 19 [C_ 1,M_ 19 AD,G_ 1 (C_ 20)] (.seq [5,1,0] (A_ [27,5,1,0] 21 [D_ 0,C_ 5,N_ 4 21 22,J' 1 23,O_ 24,C_ 1,N' 25 26] (.cond 27 (A_ [4] 4 [E' (-1)] .ret) .skip)) (A_ [5,1,0] 28 [C_ 1,M_ 28 AD,G_ 1 (C_ 29)] (.seq [5,1,0] (A_ [36,5,1,0] 30 [D_ 0,C_ 5,N_ 4 30 31,J' 2 32,O_ 33,C_ 1,N' 34 35] (.cond 36 (A_ [4] 4 [E' (-1)] .ret) .skip)) (A_ [5,1,0] 37 [C_ 1,M_ 37 AD,G_ 1 (C_ 38)] (.seq [5,1,0] (A_ [45,5,1,0] 39 [D_ 0,C_ 5,N_ 4 39 40,J' 3 41,O_ 42,C_ 1,N' 43 44] (.cond 45 (A_ [4] 4 [E' (-1)] .ret) .skip)) (At 46 [C_ 1,M_ 46 AD,G_ 1 (C_ 47)]))))))))) (At 10 [C_ 5,M_ 10 AD,G_ 5 (C_ 11)])))))) (A_ [4] 48 [C_ 1,G_ 4 (C_ 48)] .ret)))
def KL:Fn:=⟨⟨2,49,0,true,[.tmp 4],tH⟩,[.one .Z_ (.sl Az),.one .Z_ (.int .i64)],.one (.one .own (.int .i64))⟩
theorem tD:KL.A:=AK trivial
def GW:L9->Int:=KL.V
def RN:L9->Prop:=KL.O
theorem tJ:KL.B:=AM trivial (by kernel_rfl) (λx=>by kernel_rfl)
def tq:d5:=(A_ [1,0] 4 [E' 0] (.seq [1] (A_ [5,1,0] 5 [E' 0] (.block 0 (.loop [0,1,5] 1 (.seq [5,1,0] (A_ [9,5,1,0] 6 [C_ 5,D_ 0,L' 7,M' 6 8] (.cond 9 .skip (.exit 0))) (.seq [5,1,0] (.block 1 (A_ [5,1,0] 12 [D_ 0,C_ 5,N_ 1 12 13,O_ 14,C_ 1,I' KL [15,16],G_ 1 (C_ 17)] (A_ [19,5,1,0] 18 [C_ 1,M' 18 AQ] (.cond 19 (A_ [4] 4 [E' (-1)] .ret) .skip)))) (At 10 [C_ 5,M_ 10 AD,G_ 5 (C_ 11)])))))) (A_ [4] 20 [C_ 1,G_ 4 (C_ 20)] .ret)))
def KE:Fn:=⟨⟨2,21,0,true,[.tmp 4],tq⟩,[.one .Z_ (.sl (.one (.sl Az))),.one .Z_ (.int .i64)],.one (.one .own (.int .i64))⟩
theorem td:KE.A:=AK ⟨tD,trivial⟩
def RP:Mh->Int:=KE.V
def Vg:Mh->Prop:=KE.O
theorem sY:KE.B:=AM ⟨tJ,trivial⟩ (by kernel_rfl) (λx=>by kernel_rfl)
def uk:d5:=(A_ [2,1] 2 [O' 0 2 0,G_ 4 (E' 0)] (A_ [1] 5 [J' 1 2,J_ 0 5,C_ 1,I' KE [6,7],G_ 1 (C_ 8)] (.seq [1] (A_ [10,1] 9 [C_ 1,M' 9 AQ] (.cond 10 (A_ [4] 4 [E' (-1)] .ret) .skip)) (A_ [4] 11 [C_ 1,G_ 4 (C_ 11)] .ret))))
def KQ:Fn:=⟨⟨2,12,1,true,[.tmp 4],uk⟩,[.agg [Av,(.Z_,.sl (.one (.sl Az)))],.one .Z_ (.int .i64)],.one (.one .own (.int .i64))⟩
theorem vf:KQ.A:=AK ⟨td,trivial⟩
def GX:Y5->Int:=KQ.V
def Vn:Y5->Prop:=KQ.O
theorem uI:KQ.B:=AM ⟨sY,trivial⟩ (by kernel_rfl) (λx=>by kernel_rfl)
end
section
set_option maxRecDepth 100000
theorem ZnK(x:L9)(c)(_:c=λ(x0:Au)=>So x.1 (R_ x0.2) (0,0,0,0))(d)(_:d=λ(x0:Au)=>V_ .i64 (V_ .i64 x0.1 1) 1)(i)(_:i=λ(x0:Au)=>j_ (c x0).2.1 (V_ .i64 x0.1 1))(j)(_:j=V' x.1)(k)(_:k=λ(x0:Au)=>j_ (c x0).2.2.1 (d x0))(b)(_:b=(λ(x0:Au)=>W_ (b_ x0.2 j) (W_ (U' (j_ (c x0).1 x0.1)) (W_ (U' (i x0)) (W_ (U' (k x0)) (U' (j_ (c x0).2.2.2 (V_ .i64 (d x0) 1))))))))(f)(_:f=(λ(x0:Au)=>(V_ .i64 (V_ .i64 (d x0) 1) 1,V_ .i64 x0.2 1)))(a)(_:a=Am b f (x.2,0))(e)(_:e=List.length x.1)(g)(_:g=So x.1 (R_ a.2) (0,0,0,0))(h)(_:h=λ(x0:Au)=>(0:Int)<=x0.2/\x0.2<(e:Int))(l)(_:l=V_ .i64 a.1 1):GW x=Z' (b_ a.2 j) (Z' (j_ g.1 a.1) (-1) (Z' (j_ g.2.1 l) (-1) (Z' (j_ g.2.2.1 (V_ .i64 l 1)) (-1) (-1)))) a.1/\RN x=a_ b f (λ(x0:Au)=>(b_ x0.2 j=true->h x0/\R_ x0.2<e/\(j_ (c x0).1 x0.1=true->True)/\(j_ (c x0).1 x0.1=false->h x0/\R_ x0.2<e/\(i x0=true->True)/\(i x0=false->h x0/\R_ x0.2<e/\(k x0=true->True)/\(k x0=false->h x0/\R_ x0.2<e))))/\(b_ x0.2 j=false->True)) (x.2,0):=by subst_vars;exact⟨(KL.v x).trans (by kernel_rfl),(KL.o x).trans (by kernel_rfl)⟩
abbrev tO:=λx=>(ZnK x _ rfl _ rfl _ rfl _ rfl _ rfl _ rfl _ rfl _ rfl _ rfl _ rfl _ rfl _ rfl).1
abbrev tI:=λx=>(ZnK x _ rfl _ rfl _ rfl _ rfl _ rfl _ rfl _ rfl _ rfl _ rfl _ rfl _ rfl _ rfl).2
theorem ZnN(x:Mh)(c)(_:c=V' x.1)(d)(_:d=λ(x0:Au)=>So x.1 (R_ x0.2) [])(a)(_:a=(λ(x0:Au)=>W_ (b_ x0.2 c) (U' (b_ (GW (d x0,x0.1)) 0))))(b)(_:b=(λ(x0:Au)=>(GW (d x0,x0.1),V_ .i64 x0.2 1)))(e)(_:e=List.length x.1)(f)(_:f=Am a b (x.2,0)):RP x=Z' (b_ f.2 c) (-1) f.1/\Vg x=a_ a b (λ(x0:Au)=>(b_ x0.2 c=true->((0:Int)<=x0.2/\x0.2<(e:Int))/\R_ x0.2<e/\RN (d x0,x0.1))/\(b_ x0.2 c=false->True)) (x.2,0):=by subst_vars;exact⟨(KE.v x).trans (by kernel_rfl),(KE.o x).trans (by kernel_rfl)⟩
abbrev tf:=λx=>(ZnN x _ rfl _ rfl _ rfl _ rfl _ rfl _ rfl).1
abbrev tw:=λx=>(ZnN x _ rfl _ rfl _ rfl _ rfl _ rfl _ rfl).2
theorem uW(x):GX x=Z' (b_ (RP (x.1.2,x.2)) 0) (-1) (RP (x.1.2,x.2)):=(KQ.v x).trans (by kernel_rfl)
theorem um(x):Vn x=Vg (x.1.2,x.2):=(KQ.o x).trans (by kernel_rfl)
attribute [irreducible] GW RN RP Vg GX Vn
end
open Go.Sort
def DB(l:BO):List Int:=l.mergeSort λx y=>decide (x<=y)
theorem bK(l:BO):(DB l).length=l.length:=List.length_mergeSort l
def DI(l:BO):List V:=l.map λn=>.int .i64 n
def Ol:Bg:=λargs h Q=>match args with
 |[.X_]=>Q .undef h|[.slice l o n]=>(n=0/\Q .undef h)\/o=0/\∃(b:Blk) (g:BO),h[l]?=some b/\b.k= .own/\g.length=n/\0<n/\n<4611686018427387904/\b.cs=DI g++b.cs.drop n/\Q .undef (h.set l { b with cs:=DI (DB g)++b.cs.drop n })|_=>False
def Zhj(P:Program)(g:FuncId):Prop:=
 (∀(Y_ off cap:Nat) (b:BO) (w:World),Holds (Value.int .i64) w Y_ off b.toArray->Y_<w.heap.size->b.length<4611686018427387904 ->
  Calls P g #[.slice (some ⟨Y_,off,none⟩) b.length cap] w λe w'=>e= .returned (.tuple #[])/\∃n os,w'=grow (putRow (Value.int .i64) (Sort.ahead w n) Y_ off (b.mergeSort λx y=>decide (x<=y)).toArray) os) /\
 ∀(p:Option Addr) (cap:Nat) (w:World),Calls P g #[.slice p 0 cap] w λe w'=>e= .returned (.tuple #[])/\w'=w
theorem Zfy {ι:AL} {k:Ac} {w w':World} {l:Nat} {Y_:Blk} {cs':List V} {arr':Array Value} {e:TypeId} (H:HRel ι k w) (C:k[l]?=some Y_) (N:Y_.k= .own) (hl:cs'.length=Y_.cs.length) (y:w.heap.size<=w'.heap.size)
 (F:∀j,j<w.heap.size->j≠(ι l).b->w'.heap[j]?=w.heap[j]?) (D:w'.heap[(ι l).b]?=some (.cells arr' e (0,0))) (Z:arr'.size=(ι l).c) (A:∀(i:Nat) u,cs'[i]?=some u->u.cell=true/\∃z,arr'[i]?=some z/\∀β,Rel ι k β u z)
 (ho:w'.os=w.os) (O:w'.output=w.output) (ht:w'.tape=w.tape):HRel ι (k.set l { Y_ with cs:=cs' }) w'/\Step ι k w ι (k.set l { Y_ with cs:=cs' }) w':=by
 have K:=Xy ι k l Y_ { Y_ with cs:=cs' } C rfl;have s:∀(j:Nat) (b:Blk),(k.set l { Y_ with cs:=cs' })[j]?=some b->(j=l/\b={ Y_ with cs:=cs' })\/(j≠l/\k[j]?=some b):=by
  intro j b q;rcases Ie q with⟨h1,h2,_⟩|h
  ·exact .inl ⟨h1,h2⟩
  exact .inr h
 obtain⟨z0,L,_⟩:=H.own l Y_ C N;have G:∀(j:Nat) (b:Blk),j≠l->k[j]?=some b->b.k≠.dead->w'.heap[(ι j).b]?=w.heap[(ι j).b]?:=λj b t q n=>F _ (H.there j b q n) λg=>H.apart l j Y_ b (Ic t) C q N n g.symm;refine⟨⟨λj b q n i u hu=>?_,λj b q n=>?_,λj j' b M Y q x n I=>?_,λj b q n=>?_⟩,{ keeps:=K,kinds:=λj b M q x=>?_,fresh:=λj M hle' q n=>?_,frame:=λb hb' hf=>F b hb' λg=>hf l Y_ C N g.symm,size:=y,os:=ho,output:=O,tape:=ht }⟩
 ·rcases s j b q with⟨rfl,rfl⟩|⟨t,q⟩
  ·obtain⟨J,z,L,U⟩:=A i u hu;refine⟨J,z,?_,λβ=>(U β).cellMono K J⟩;rw[z0,BJ];simp only[World.cell?,D];exact L
  obtain⟨J,z,L,U⟩:=H.cells j b q n i u hu;exact⟨J,z,by rw[Yf (w:=w) (G j b t q n)];exact L,λβ=>(U β).cellMono K J⟩
 ·rcases s j b q with⟨rfl,rfl⟩|⟨t,q⟩
  ·exact⟨z0,by simp only;omega,_,e,D,Z⟩
  obtain⟨J,L,arr',e',U,g4⟩:=H.own j b q n;exact⟨J,L,arr',e',by rw[G j b t q (by rw[n];decide)];exact U,g4⟩
 ·rcases s j b q with⟨rfl,rfl⟩|⟨t,hg⟩<;>rcases s j' M x with⟨rfl,rfl⟩|⟨hjl',R⟩
  ·exact absurd rfl Y
  ·exact H.apart _ _ _ _ Y C R N I
  ·exact H.apart _ _ _ _ Y hg C n (by rw[N];decide)
  exact H.apart j j' b M Y hg R n I
 ·refine Ih ?_ y;rcases s j b q with⟨rfl,rfl⟩|⟨t,q⟩
  ·exact H.there _ _ C n
  exact H.there j b q n
 ·rcases s j M x with⟨rfl,rfl⟩|⟨t,x⟩
  ·rw[C]at q;cases q;exact .inl rfl
  rw[q]at x;cases x;exact .inl rfl
 rcases s j M q with⟨rfl,rfl⟩|⟨t,q⟩
 ·have:=BB C;omega
 have:=BB q;omega
theorem Zev{P:Program}{g:FuncId}(hs:Zhj P g):AA P g Ol:=by
 intro Φ ι σ w args xs Q hΦ H hargs q _;have G:=hargs.1;unfold Ol at q;split at q
 ·match xs,G with
  | [x],_=>
    have M:=hargs.2 0 _ _ rfl rfl (λ_=>0);obtain⟨a,rfl⟩:=QM M;refine(hs.2 a 0 w).mono ?_;rintro e w' ⟨rfl,rfl⟩;exact⟨_,.undef,σ,ι,rfl,q,hΦ,λβ=>.undef _,H,.refl _ _ _⟩
 ·rename_i l o n
  match xs,G with
  | [x],_=>
    have M:=hargs.2 0 _ _ rfl rfl (λ_=>0);rcases q with⟨rfl,hq⟩|⟨rfl,q⟩
    ·obtain⟨b1,g1,hc⟩:=Gx M;obtain⟨p,a,rfl⟩:∃p a,x= .slice p 0 a:=(by rcases hc with⟨c,rfl,_,_⟩|⟨_,_,rfl⟩<;>exact⟨_,_,rfl⟩);refine(hs.2 p a w).mono ?_;rintro e w' ⟨rfl,rfl⟩;exact⟨_,.undef,σ,ι,rfl,hq,hΦ,λβ=>.undef _,H,.refl _ _ _⟩
    obtain⟨b,s,hb,U,hz,hn0,hn,N,hQ⟩:=q;have R:Φ l=none:=(dA M).1 l 0 n rfl;have D:(kill Φ σ)[l]?=some b:=(by rw[Rb R];exact hb);obtain⟨b1,g1,hc⟩:=Gx M;rw[D]at g1;cases g1;rcases hc with⟨c,rfl,c1,c2⟩|⟨rfl,_⟩
    ·obtain⟨z0,arr,el,F,hsz,I⟩:=H.ownCells D U;rw[z0,Fg];have hle:b.cs.length<=arr.size:=(by simpa using I.1);have hcl:n<=b.cs.length:=(by rw[N,CM];simp[DI];omega);have A:∀j (J:j<n),arr[j]?=some (.int .i64 (s[j]'(by omega))):=by
      intro j J;have hcj:b.cs[j]?=some (.int .i64 (s[j]'(by omega))):=by
       rw[N,Bp (by simp[DI];omega)];simp[DI,Bc (show j<s.length by omega)]
      obtain⟨_,z,Z,Y⟩:=I.2 j _ hcj;have:=E9 (Y (λ_=>0));subst this;simpa using Z
     have hH:Holds (Value.int .i64) w (ι l).b 0 s.toArray:=by
      intro j J;have J:j<n:=(by simpa [hz]using J);refine⟨?_,?_⟩
      ·simp only[World.cell?,F,BJ,A j J];rw[getElem!_pos _ j (by simp;omega)];simp
      simp only[World.frozen?,F];simp
     have C:=hs.1 (ι l).b 0 c s w hH (H.there l b D (by rw[U];decide)) (by omega);rw[hz]at C;refine C.mono ?_;rintro e w' ⟨rfl,m,os,rfl⟩;have O:=H.there l b D (by rw[U];decide);have t:=bK s;have y:(grow (putRow (Value.int .i64) (Sort.ahead w m) (ι l).b 0 (DB s).toArray) os).heap=w.heap.modify (ι l).b (onCells (putCells (Value.int .i64) 0 (DB s).toArray))++os:=rfl;have W:=Zfy (w':=grow (putRow (Value.int .i64) (Sort.ahead w m) (ι l).b 0 (DB s).toArray) os) (cs':=DI (DB s)++b.cs.drop n) (arr':=putCells (Value.int .i64) 0 (DB s).toArray arr) (e:=el) H D U
      (by simp[DI,t];omega) (by rw[y];simp) (λj J f9=>by
       rw[y,Array.getElem?_append_left (by simpa using J),Array.getElem?_modify,Ae (Ic f9)]) (by
       rw[y,Array.getElem?_append_left (by simpa using O),Array.getElem?_modify,Ad rfl,F];rfl) (by simp[putCells,hsz]) (λi u L=>by
       have hpi:(putCells (Value.int .i64) 0 (DB s).toArray arr)[i]?=(arr[i]?).map λx=>if i<n then .int .i64 ((DB s).toArray)[i]! else x:=by
        simp[putCells,Array.getElem?_mapIdx,t,hz]
       rw[hpi];by_cases hi:i<n
       ·rw[Bp (by simp[DI,t];omega)]at L;simp only[DI,Im,Bc (show i<(DB s).length by omega),Cw,Ap]at L;subst L;refine⟨rfl,_,by rw[A i hi];rfl,λβ=>?_⟩;simp only[Ad hi];rw[getElem!_pos _ i (by simp;omega)];simpa using Rel.int .i64 _
       rw[Dj (by simp[DI,t];omega)]at L;have hu':b.cs[i]?=some u:=by
        rw[L4]at L;rw[<- L];congr 1;simp[DI,t];omega
       obtain⟨q0,z,Z,Y⟩:=I.2 i u hu';refine⟨q0,z,?_,Y⟩;have:arr[i]?=some z:=(by simpa using Z);rw[this,Cw,Ae hi]) rfl rfl rfl
     refine⟨_,.undef,_,ι,rfl,hQ,hΦ.set R _,λβ=>.undef _,?_,?_⟩
     ·rw[XN R];exact W.1
     rw[XN R];exact W.2
    omega
 exact q.elim
@[irreducible] def Eb(x:BO)(m:Int):BO×Int:=(shut λ(x:BO) (m:Int)=>(DB x,m)).1 x m
@[irreducible] def WG(x:BO):Prop:=(shut λ(x:BO)=>x.length<4611686018427387904).1 x
theorem kq:Eb=λx m=>(DB x,m):=by unfold Eb;exact(shut _).2
theorem kl:WG=λx=>x.length<4611686018427387904:=by unfold WG;exact(shut _).2
def bh:DMk:=⟨.one (.sl (.one (.int .i64))),false,WG,Eb,true⟩
def FH(l:BO):List (List PV):=l.map λn=>[.fl (.int .i64 n)]
theorem ZeY(l:BO):(FH l).flatten=l.map λn=>.fl (.int .i64 n):=by
 induction l with
 |nil=>rfl
 |cons n r b=>simpa [FH]using b
theorem nw{l:List Int}{k:Nat}(h:k<l.length):Aa (FH l).flatten k= .fl (.int .i64 (l[k])):=by
 rw[ZeY,D1,Im,Bc h];rfl
theorem ZcL:JD Ol (DMk.P bh):=by
 unfold bh;rw[kl,kq];rintro h ω hd P b AN us u m K Q hinj R hl hr ⟨(x:BO),rfl,d9,hK⟩ C;have R:us=[u]:=R;subst R;have s:RM h ω hd (P++[b+0]) (.sl .own (FH x)) u:=hr 0 (by exact Nat.one_pos);have C:=λh' hO (U:RM h' ω hd (P++[b+0]) (.sl .own (FH (DB x))) u)=>C _ m h' hK rfl hO λc O=>by
  have O:c<1:=O;have:c=0:=(by omega);subst this;exact U
 show Ol [u] h Q;have d9:x.length<4611686018427387904:=d9;have g:=bK x;generalize M:FH x=es at s;have N:es=[]->FH (DB x)=[]:=by
  rintro rfl;have:x=[]:=by
   cases x with
   |nil=>rfl
   |cons=>cases M
  subst this;rw[Dq g];rfl
 rcases s with s|⟨e,l,o,rfl⟩;case inr=>
  cases e;rw[N rfl]at C;exact .inl ⟨rfl,C h (x_.refl _ _) (.inr ⟨rfl,l,o,rfl⟩)⟩
 cases s with
 | nil=>
   rw[N rfl]at C;exact C h (x_.refl _ _) (.inl (.nil _ _))
 | sl _ _ _ l o n Y_ hb q O f9 hn hw hle hcell=>
   subst M;obtain⟨Z,rfl,A⟩:=O;have hx:x≠[]:=λe=>(by subst e;exact f9 rfl (.inl rfl) rfl);obtain⟨y,ys,rfl⟩:=List.exists_cons_of_ne_nil hx;generalize D:y::ys=zs at *;have t:0<zs.length:=(by rw[<- D];simp);have G:(FH zs).length=zs.length:=(by simp[FH]);have i:Y_.w=1:=by
    have:=hw [.fl (.int .i64 y)] (by rw[<- D];simp[FH]);simpa using this.symm
   rw[G]at hn hle hcell;rw[i,Uc,BJ]at hle;rw[i,Uc]at hcell;have L:∀k (q:k<zs.length),Y_.cs[k]?=some (.int .i64 (zs[k])):=by
    intro k q;have r:=hcell k q;rw[BJ,nw q]at r;have e:get Y_.cs k= .int .i64 (zs[k]):=by
     generalize get Y_.cs k=z at r;cases r with
     |v=>rfl
    rw[CZ,Bc (show k<Y_.cs.length by omega)]at e;rw[Bc (show k<Y_.cs.length by omega)];simpa using e
   have Y:Y_.cs=DI zs++Y_.cs.drop n:=by
    apply JB;intro k;by_cases q:k<zs.length
    ·rw[Bp (by simp[DI];omega),L k q];simp[DI,Bc q]
    rw[Dj (by simp[DI];omega),L4];congr 1;simp[DI];omega
   have h_:=BB hb;have F:(DI (DB zs)++Y_.cs.drop n).length=Y_.cs.length:=(by simp[DI,g];omega);refine .inr ⟨rfl,Y_,zs,hb,A,hn.symm,by omega,by omega,Y,?_⟩;refine C _ ⟨by simp,λj J=>?_,λj c J=>?_⟩ (.inl (.sl _ _ _ _ _ _ { Y_ with cs:=DI (DB zs)++Y_.cs.drop n } (by simp[h_]) q ⟨Z,rfl,A⟩ (λ_ _ e=>?_) ?_ ?_ ?_ ?_))
   ·rw[Hw,Ae];intro e;subst e;exact J ⟨0,FH zs,[],Nat.one_pos,rfl,by simpa using Z⟩
   ·rw[Hw];by_cases e:l=j
    ·subst e;rw[hb]at J;cases J;exact⟨{ Y_ with cs:=DI (DB zs)++Y_.cs.drop n },by simp[h_],rfl,rfl,F⟩
    exact⟨c,by rw[Ae e];exact J,rfl,rfl,rfl⟩
   ·have:=congrArg List.length e;simp[FH,g]at this;rw[this]at t;simp at t
   ·rw[hn];simp[FH,g]
   ·intro e he;simp only[FH,List.mem_map]at he;obtain⟨_,_,rfl⟩:=he;simp[i]
   ·simp only[FH,Bh,g,i,F];omega
   intro k q;simp only[FH,Bh,g,i,Uc]at q;have I:k<(DB zs).length:=(by omega);rw[BJ,nw I];have:get (DI (DB zs)++Y_.cs.drop n) k= .int .i64 ((DB zs)[k]):=by
    rw[CZ,Bp (by simp[DI];omega)];simp[DI,Bc I]
   simp only[this];exact .v _ _ rfl
section
set_option maxRecDepth 8000
def xc:d5:=(A_ [2,0] 2 [B_ (.d7 0 [Ab,.X_])] (A_ [3,2,0] 7 [Q' (.one (.int .i64)) (.d4 1 0 [] []),B_ (.build [Ab,.X_] [(1,1,7)]),G_ 3 (B_ (.d7 1 [Ab,.X_])),E_ (.U_ 1 2 3 8)] (.seq [3,2,0] (A_ [11,3,2,0] 9 [D_ 0,I' Et [9],P' 10] (.cond 11 (A_ [2] 12 [C' (.d6 1 (some 2) 3),E_ (.U_ 0 2 2 12)] .ret) .skip)) (.seq [3,2,0] (A_ [4,3,2,0] 4 [E' 0] (.block 0 (.loop [0,2,3,4] 1 (.seq [4,3,2,0] (A_ [16,4,3,2,0] 13 [C_ 4,D_ 0,L' 14,M' 13 15] (.cond 16 .skip (.exit 0))) (.seq [4,3,2,0] (.block 1 (A_ [34,4,3,2,0] 19 [D_ 0,C_ 4,N_ 5 19 20,J' 1 21,J' 0 22,O_ 23,Nm 24 (.c (.int .i64 2)),C_ 25,F' 26 (I_ (.a true (.mv 0) none)),F' 26 (Q_ 4),F' 26 (N_ 5 27 28),F' 26 (J' 1 29),F' 26 (J' 0 30),F' 26 (O_ 31),F' 26 (Nm 32 (.c (.int .i64 8))),L_ 26 AU 33] (.cond 34 (At 35 [J' 0 3,G' (rg 1) (J_ 1 35),D_ 0,C_ 4,G' [2,3] (N_ 5 37 38),G' [2,3,4] (J' 1 39),G' [2,3,4,5] (J' 2 40),G' [2,3,4,5,6] (O_ 41),G' (rg 8) (B_ (.bin .or 36 42)),G' (rg 9) (J' 0 3),G' (rg 10) (E_ (.U_ 1 1 44 43))]) .skip))) (At 17 [C_ 4,M_ 17 AD,G_ 4 (C_ 18)])))))) (.seq [3,2] (A_ [5,3,2,0] 5 [E' 1] (.block 2 (.loop [0,2,3,5] 1 (.seq [5,3,2,0] (A_ [46,5,3,2,0] 45 [C_ 5,B_ (.bin .leq 45 (.c (.int .i64 56)))] (.cond 46 .skip (.exit 2))) (.seq [5,3,2,0] (.block 3 (A_ [6,5,3,2,0] 6 [E' 0] (.block 4 (.loop [0,2,3,5,6] 1 (.seq [6,5,3,2,0] (A_ [52,6,5,3,2,0] 49 [C_ 6,D_ 0,L' 50,M' 49 51] (.cond 52 .skip (.exit 4))) (.seq [6,5,3,2,0] (.block 5 (A_ [62,6,5,3,2,0] 55 [D_ 0,C_ 6,N_ 5 55 56,J' 1 57,J' 1 58,O_ 59,C_ 5,Nm 60 61] (.cond 62 (A_ [5,3,2,0] 63 [J' 1 3,C' (.d6 1 none 63),C_ 5,Q' (.one (.int .i64)) (.d4 1 1 [Ab] [(0,1,65)]),B_ (.app 1 64 66),J' 1 3,E_ (.U_ 1 1 68 67)] (.exit 4)) .skip))) (At 53 [C_ 6,M_ 53 AD,G_ 6 (C_ 54)]))))))) (At 47 [C_ 5,M_ 47 AD,G_ 5 (C_ 48)])))))) (A_ [2] 69 [C' (.d6 1 (some 2) 3),E_ (.U_ 0 2 2 69)] .ret))))))
def E3:Fn:=⟨⟨1,70,2,false,[.cell 2 (some 2)],xc⟩,[.one .Z_ (.sl AS)],.one (.agg [AF,(.own,.sl (.one (.int .i64)))])⟩
theorem Sq:E3.A:=AK ⟨Wx,trivial⟩
def Cb:Bj->Int×List (Int):=E3.V
def MD:Bj->Prop:=E3.O
theorem Sj:E3.B:=AM ⟨Wr,trivial⟩ (by kernel_rfl) (λx=>by kernel_rfl)
def Za5:d5:=(A_ [1,0] 4 [Q_ Ar] (.seq [] (A_ [9,8,7,1] 7 [D_ 0,L' 7,E' 0] (.block 0 (.loop [1,7,8,9] 1 (A_ [10,9,8,7,1] 10 [M' 9 8] (.seq [9,8,7,1] (.cond 10 .skip (.exit 0)) (.seq [9,8,7,1] (.block 1 (A_ [9,8,7,6,1] 11 [N_ 1 7 9,O_ 11,G_ 6 (C_ 12)] (A_ [15,9,8,7,1] 13 [C_ 6,C_ 1,Nm 13 14] (.cond 15 (A_ [4] 4 [Q_ AU] .ret) .skip)))) (At 16 [M_ 9 AD,G_ 9 (C_ 16)]))))))) (A_ [4] 4 [Q_ Ar] .ret)))
def Jc:Fn:=⟨⟨2,17,0,true,[.tmp 4],Za5⟩,[.one .Z_ (.sl (.one (.int .i64))),.one .Z_ (.int .i64)],.one (.one .own (.bool))⟩
theorem Zbn:Jc.A:=AK trivial
def Qs:DN->Bool:=Jc.V
def Wp:DN->Prop:=Jc.O
theorem ZaC:Jc.B:=AM trivial (by kernel_rfl) (λx=>by kernel_rfl)
def Zam:d5:=(A_ [0] 2 [Q_ (.c .X_)] (A_ [3] 7 [D_ 0,I' IX [7],G_ 3 (C_ 8)] (A_ [3] 9 [D_ 3,I_ (.mark Ol bh 9 AQ)] (A_ [4,3] 4 [Q_ (.c .X_)] (.seq [4] (A_ [13,12,11,4] 11 [D_ 3,L' 11,E' 0] (.block 0 (.loop [4,11,12,13] 1 (A_ [14,13,12,11,4] 14 [M' 13 12] (.seq [13,12,11,4] (.cond 14 .skip (.exit 0)) (.seq [13,12,11,4] (.block 1 (A_ [13,12,11,6,4] 15 [N_ 1 11 13,C' (.g9 none 15),G_ 6 (C_ 16)] (A_ [24,13,12,11,6,4] 17 [C_ 6,N' 17 AQ,C_ 18,F_ 19 (I_ (.a true (.mv 4) none)),F_ 19 (Q_ 6),F_ 19 (I' Jc [20,21]),F_ 19 (P' 22),L_ 19 23 Ar] (.cond 24 (At 25 [C_ 4,C_ 6,Q' (.one (.int .i64)) (.d4 1 1 [Ab] [(0,1,26)]),B_ (.app 1 25 27),G_ 4 (C_ 28)]) .skip)))) (At 29 [M_ 13 AD,G_ 13 (C_ 29)]))))))) (A_ [2] 30 [C_ 4,G_ 2 (C_ 30)] .ret))))))
def Ja:Fn:=⟨⟨1,31,0,false,[.tmp 2],Zam⟩,[.one .Z_ (.sl (.one (.int .i64)))],.one (.one .own (.sl (.one (.int .i64))))⟩
theorem jJ:Ja.A:=AK ⟨jd,ZcL,Zbn,trivial⟩
def MI:BO->List (Int):=Ja.V
def SJ:BO->Prop:=Ja.O
theorem jE:Ja.B:=AM ⟨iS,ZaC,trivial⟩ (by kernel_rfl) (λx=>by kernel_rfl)
def xJ:d5:=(A_ [2,0] 2 [B_ (.d7 0 [Ab,.X_])] (.seq [2,0] (A_ [9,2,0] 7 [D_ 0,I' E7 [7],P' 8] (.cond 9 (A_ [2] 10 [B_ (.build [Ab,.X_] []),E_ (.U_ 0 2 2 10)] .ret) .skip)) (A_ [3,2,0] 3 [B_ (.d7 1 [Ab,.X_])] (A_ [4,3,2,0] 4 [Q_ (.c .X_)] (.seq [4,3,2] (A_ [13,12,11,4,3,2] 11 [D_ 0,L' 11,E' 0] (.block 0 (.loop [2,3,4,11,12,13] 1 (A_ [14,13,12,11,4,3,2] 14 [M' 13 12] (.seq [13,12,11,4,3,2] (.cond 14 .skip (.exit 0)) (.seq [13,12,11,4,3,2] (.block 1 (A_ [13,12,11,6,4,3,2] 15 [N_ 5 11 13,C' (.g9 (some 5) 15),G_ 6 (B_ (.d7 2 [Ab,Ab,Ab,Ab,Ab])),E_ (.U_ 2 5 6 16)] (.seq [13,12,11,6,4,3,2] (A_ [26,13,12,11,6,4,3,2] 17 [J' 1 6,J' 0 17,J_ 2 18,Nm 19 (.c (.int .i64 2)),C_ 20,F' 21 (J' 1 6),F' 21 (J' 0 22),F' 21 (J_ 2 23),F' 21 (Nm 24 (.c (.int .i64 8))),L_ 21 AU 25] (.cond 26 (At 27 [J' 0 3,J_ 1 27,J' 1 6,J' 2 29,J_ 2 30,B_ (.bin .or 28 31),J' 0 3,E_ (.U_ 1 1 33 32)]) .skip)) (At 34 [C_ 4,J' 1 6,J' 1 35,C' (.d6 2 none 36),Q' (.one (.int .i64)) (.d4 1 1 [Ab] [(0,1,37)]),B_ (.app 1 34 38),G_ 4 (C_ 39)])))) (At 40 [M_ 13 AD,G_ 13 (C_ 40)]))))))) (A_ [3,2] 41 [D_ 4,I' Ja [41],J' 1 3,E_ (.U_ 1 1 43 42)] (A_ [2] 44 [C' (.d6 1 (some 2) 3),E_ (.U_ 0 2 2 44)] .ret)))))))
def E1:Fn:=⟨⟨1,45,3,false,[.cell 2 (some 2)],xJ⟩,[.one .Z_ (.sl AS)],.one (.agg [AF,(.own,.sl (.one (.int .i64)))])⟩
theorem Su:E1.A:=AK ⟨WE,jJ,trivial⟩
def B8:Bj->Int×List (Int):=E1.V
def MF:Bj->Prop:=E1.O
theorem Sg:E1.B:=AM ⟨Ws,jE,trivial⟩ (by kernel_rfl) (λx=>by kernel_rfl)
end
section
set_option maxRecDepth 100000
def NU(x:Bj)(x0:Au):Bool:=(b_ x0.1 (V' x))
def PL(x:Bj)(x0:Au):Au:=((V_ .i64 x0.1 1),(Z' (t8 (g_ (So x (R_ x0.1) (0,0,0,0,0)).2.1 2) (g_ (So x (R_ x0.1) (0,0,0,0,0)).2.1 8)) (iOr .i64 x0.2 (So x (R_ x0.1) (0,0,0,0,0)).2.2.2.1) x0.2))
def KH(x0:BH):Bool:=(iLe x0.1 56)
def PK(x:Bj)(x0:BH)(b:Int):Bool:=(W_ (b_ b (V' x)) (U' (g_ (So x (R_ b) (0,0,0,0,0)).2.2.1 x0.1)))
def RU(b:Int):Int:=(V_ .i64 b 1)
def My(x:Bj)(x0:BH):BH:=((V_ .i64 x0.1 1),(Z' (b_ (Am (PK x x0) RU 0) (V' x)) (i9 x0.2 [x0.1]) x0.2))
def Vw(x:Bj)(x0:Au):Prop:=(((b_ x0.1 (V' x))=true->(((((0:Int)<=x0.1)/\(x0.1<(((List.length x):Int))))/\(((R_ x0.1)<(List.length x))/\(((g_ (So x (R_ x0.1) (0,0,0,0,0)).2.1 2)=true->True)/\((g_ (So x (R_ x0.1) (0,0,0,0,0)).2.1 2)=false->((((0:Int)<=x0.1)/\(x0.1<(((List.length x):Int))))/\((R_ x0.1)<(List.length x)))))))/\(((t8 (g_ (So x (R_ x0.1) (0,0,0,0,0)).2.1 2) (g_ (So x (R_ x0.1) (0,0,0,0,0)).2.1 8))=true->((((0:Int)<=x0.1)/\(x0.1<(((List.length x):Int))))/\((R_ x0.1)<(List.length x))))/\((t8 (g_ (So x (R_ x0.1) (0,0,0,0,0)).2.1 2) (g_ (So x (R_ x0.1) (0,0,0,0,0)).2.1 8))=false->True))))/\((b_ x0.1 (V' x))=false->True))
def Vs(x:Bj)(x0:BH)(b:Int):Prop:=(((b_ b (V' x))=true->((((0:Int)<=b)/\(b<(((List.length x):Int))))/\(((R_ b)<(List.length x))/\(((g_ (So x (R_ b) (0,0,0,0,0)).2.2.1 x0.1)=true->(AE (((List.length x0.2)+(List.length [x0.1]))*1)))/\((g_ (So x (R_ b) (0,0,0,0,0)).2.2.1 x0.1)=false->True)))))/\((b_ b (V' x))=false->True))
def ZL(x:Bj)(x0:BH):Prop:=(((iLe x0.1 56)=true->(a_ (PK x x0) RU (Vs x x0) 0))/\((iLe x0.1 56)=false->True))
theorem iZ(x):Cb x=Z' (U' (EM x)) (0,[]) ((Am (NU x) (PL x) (0,0)).2,(Am KH (My x) (1,[])).2):=(E3.v x).trans (by kernel_rfl)
theorem yn(x):MD x=(Oe x/\(U' (EM x)=true->True)/\(U' (EM x)=false->a_ (NU x) (PL x) (Vw x) (0,0)/\a_ KH (My x) (ZL x) (1,[]))):=(E3.o x).trans (by kernel_rfl)
def V2(x:DN)(x0:Int):Bool:=(W_ (b_ x0 (V' x.1)) (U' (g_ (So x.1 (R_ x0) 0) x.2)))
def ae(x0:Int):Int:=(V_ .i64 x0 1)
def Z5(x:DN)(x0:Int):Prop:=(((b_ x0 (V' x.1))=true->((((0:Int)<=x0)/\(x0<(((List.length x.1):Int))))/\((R_ x0)<(List.length x.1))))/\((b_ x0 (V' x.1))=false->True))
theorem Za7(x):Qs x=b_ (Am (V2 x) ae 0) (V' x.1):=(Jc.v x).trans (by kernel_rfl)
theorem Zbo(x):Wp x=a_ (V2 x) ae (Z5 x) 0:=(Jc.o x).trans (by kernel_rfl)
def R6(x:BO)(x0:DN):Bool:=(b_ x0.2 (V' (Eb (Dg x) 0).1))
def VE(x:BO)(x0:DN):DN:=((Z' (W_ (j_ (So (Eb (Dg x) 0).1 (R_ x0.2) 0) 0) (U' (Qs (x0.1,(So (Eb (Dg x) 0).1 (R_ x0.2) 0))))) (i9 x0.1 [(So (Eb (Dg x) 0).1 (R_ x0.2) 0)]) x0.1),(V_ .i64 x0.2 1))
def ZS(x:BO)(x0:DN):Prop:=(((b_ x0.2 (V' (Eb (Dg x) 0).1))=true->((((0:Int)<=x0.2)/\(x0.2<(((List.length (Eb (Dg x) 0).1):Int))))/\(((R_ x0.2)<(List.length (Eb (Dg x) 0).1))/\((((j_ (So (Eb (Dg x) 0).1 (R_ x0.2) 0) 0)=true->(Wp (x0.1,(So (Eb (Dg x) 0).1 (R_ x0.2) 0))))/\((j_ (So (Eb (Dg x) 0).1 (R_ x0.2) 0) 0)=false->True))/\(((W_ (j_ (So (Eb (Dg x) 0).1 (R_ x0.2) 0) 0) (U' (Qs (x0.1,(So (Eb (Dg x) 0).1 (R_ x0.2) 0)))))=true->(AE (((List.length x0.1)+(List.length [(So (Eb (Dg x) 0).1 (R_ x0.2) 0)]))*1)))/\((W_ (j_ (So (Eb (Dg x) 0).1 (R_ x0.2) 0) 0) (U' (Qs (x0.1,(So (Eb (Dg x) 0).1 (R_ x0.2) 0)))))=false->True))))))/\((b_ x0.2 (V' (Eb (Dg x) 0).1))=false->True))
theorem zI(x):MI x=(Am (R6 x) (VE x) ([],0)).1:=(Ja.v x).trans (by kernel_rfl)
theorem zV(x):SJ x=(Sm x/\(List.length (Dg x)=List.length (Dg x)/\DMk.ok (DMk.mk (RT.one (CT.sl (RT.one (CT.int IntKind.i64)))) false WG Eb true) (Dg x))/\a_ (R6 x) (VE x) (ZS x) ([],0)):=(Ja.o x).trans (by kernel_rfl)
def KI(x:Bj)(x0:Nz):Bool:=(b_ x0.2.1 (V' x))
def KG(x:Bj)(x0:Nz):Nz:=((i9 x0.1 [(So x (R_ x0.2.1) (0,0,0,0,0)).2.2.1]),(V_ .i64 x0.2.1 1),(Z' (t8 (g_ (So x (R_ x0.2.1) (0,0,0,0,0)).2.1 2) (g_ (So x (R_ x0.2.1) (0,0,0,0,0)).2.1 8)) (iOr .i64 x0.2.2 (So x (R_ x0.2.1) (0,0,0,0,0)).2.2.2.1) x0.2.2))
def Vq(x:Bj)(x0:Nz):Prop:=(((b_ x0.2.1 (V' x))=true->((((0:Int)<=x0.2.1)/\(x0.2.1<(((List.length x):Int))))/\(((R_ x0.2.1)<(List.length x))/\(AE (((List.length x0.1)+(List.length [(So x (R_ x0.2.1) (0,0,0,0,0)).2.2.1]))*1)))))/\((b_ x0.2.1 (V' x))=false->True))
theorem wU(x):B8 x=Z' (U' (CC x)) (0,[]) ((Am (KI x) (KG x) ([],0,0)).2.2,MI (Am (KI x) (KG x) ([],0,0)).1):=(E1.v x).trans (by kernel_rfl)
theorem yC(x):MF x=(Oc x/\(U' (CC x)=true->True)/\(U' (CC x)=false->a_ (KI x) (KG x) (Vq x) ([],0,0)/\SJ (Am (KI x) (KG x) ([],0,0)).1)):=(E1.o x).trans (by kernel_rfl)
attribute [irreducible] Cb MD Qs Wp MI SJ B8 MF
end
section
set_option maxRecDepth 8000
def Zbd:d5:=(A_ [2,1] 1 [O' 0 2 0,B_ (.d7 1 [Ab,.X_])] (A_ [3,2,1] 5 [J' 0 1,C' (.d6 0 none 5),B_ (.build [Ab,.X_] [(0,1,6)]),G_ 3 (B_ (.d7 2 [Ab,.X_])),E_ (.U_ 2 2 3 7)] (.seq [3,2] (A_ [4,3,2,1] 4 [E' 0] (.block 0 (.loop [1,2,3,4] 1 (.seq [4,3,2,1] (A_ [12,4,3,2,1] 8 [C_ 4,J' 1 1,J_ 0 9,L' 10,M' 8 11] (.cond 12 .skip (.exit 0))) (.seq [4,3,2,1] (.block 1 (.region [oa 0 15 (.f5 1 3),xB 1 16 (.d6 2 none 15) (rg 1),oa 3 18 (.f5 1 1),xA 4 19 (.d6 0 none 18) [3],om 5 20 4,xA 6 21 (.m_ 1 19 20) [3,4,5],xA 7 22 (.g9 none 21) [3,4,5,6],⟨2,some 17,.a false (.d4 4 0 [] []) (some Az),none,[]⟩,xA 8 23 (.app 4 17 22) [2,3,4,5,6,7],⟨9,some 24,.a false (.d4 1 1 [.X_] [(0,1,23)]) (some (.one (.sl Az))),none,[2,3,4,5,6,7,8]⟩,xA 10 25 (.app 1 16 24) (rg 10),xA 11 26 (.f5 1 3) (rg 11),xS 12 (.U_ 2 1 26 25) (rg 12)])) (At 13 [C_ 4,M_ 13 AD,G_ 4 (C_ 14)])))))) (A_ [2] 27 [C' (.d6 2 (some 2) 3),E_ (.U_ 1 2 2 27)] .ret))))
def Lx:Fn:=⟨⟨1,28,3,false,[.cell 2 (some 2)],Zbd⟩,[.agg [Av,(.Z_,.sl (.one (.sl Az)))]],.one (.agg [AF,(.own,.sl (.one (.sl Az)))])⟩
theorem Zbf:Lx.A:=AK trivial
def SX:Ca->Int×Cz:=Lx.V
def WD:Ca->Prop:=Lx.O
theorem Za6:Lx.B:=AM trivial (by kernel_rfl) (λx=>by kernel_rfl)
def tZ:d5:=(A_ [2,1] 1 [O' 0 2 0,B_ (.d7 1 [Ab,.X_])] (A_ [3,2,1] 6 [J' 0 1,C' (.d6 0 none 6),B_ (.build [Ab,.X_] [(0,1,7)]),G_ 3 (B_ (.d7 2 [Ab,.X_])),E_ (.U_ 2 2 3 8)] (.seq [3,2] (A_ [12,11,10,3,2] 9 [J' 1 1,J_ 0 9,L' 10,E' 0] (.block 0 (.loop [2,3,10,11,12] 1 (A_ [13,12,11,10,3,2] 13 [M' 12 11] (.seq [12,11,10,3,2] (.cond 13 .skip (.exit 0)) (.seq [12,11,10,3,2] (.block 1 (A_ [12,11,10,5,3,2] 14 [N_ 1 10 12,O_ 14,G_ 5 (D_ 15)] (At 16 [J' 1 3,G' (rg 1) (C' (.d6 2 none 16)),D_ 5,G' [2] (B_ (.app 4 (.c .X_) 18)),G' [2,3] (Q' (.one (.sl Az)) (.d4 1 1 [.X_] [(0,1,19)])),G' (rg 5) (B_ (.app 1 17 20)),G' (rg 6) (J' 1 3),G' (rg 7) (E_ (.U_ 2 1 22 21))]))) (At 23 [M_ 12 AD,G_ 12 (C_ 23)]))))))) (A_ [2] 24 [C' (.d6 2 (some 2) 3),E_ (.U_ 1 2 2 24)] .ret))))
def IH:Fn:=⟨⟨1,25,3,false,[.cell 2 (some 2)],tZ⟩,[.agg [Av,(.Z_,.sl (.one (.sl Az)))]],.one (.agg [AF,(.own,.sl (.one (.sl Az)))])⟩
theorem gZ:IH.A:=AK trivial
def NY:Ca->Int×Cz:=IH.V
def RX:Ca->Prop:=IH.O
theorem gV:IH.B:=AM trivial (by kernel_rfl) (λx=>by kernel_rfl)
end
section
set_option maxRecDepth 100000
def VL(x:Ca)(x0:Ca):Bool:=(b_ x0.1 (V' x.2))
def V6(x:Ca)(x0:Ca):Ca:=((V_ .i64 x0.1 1),(i9 x0.2 [(i9 [] (So x.2 (R_ x0.1) []))]))
def ai(x:Ca)(x0:Ca):Prop:=(((b_ x0.1 (V' x.2))=true->((((0:Int)<=x0.1)/\(x0.1<(((List.length x.2):Int))))/\(((R_ x0.1)<(List.length x.2))/\((AE (((List.length ([]:List CF))+(List.length (So x.2 (R_ x0.1) [])))*4))/\(AE (((List.length x0.2)+(List.length [(i9 [] (So x.2 (R_ x0.1) []))]))*1))))))/\((b_ x0.1 (V' x.2))=false->True))
theorem ZaS(x):SX x=(x.1,(Am (VL x) (V6 x) (0,[])).2):=(Lx.v x).trans (by kernel_rfl)
theorem Zba(x):WD x=a_ (VL x) (V6 x) (ai x) (0,[]):=(Lx.o x).trans (by kernel_rfl)
def Ve(x:Ca)(x0:Ca):Bool:=(b_ x0.1 (V' x.2))
def Vf(x:Ca)(x0:Ca):Ca:=((V_ .i64 x0.1 1),(i9 x0.2 [(So x.2 (R_ x0.1) [])]))
def Zz(x:Ca)(x0:Ca):Prop:=(((b_ x0.1 (V' x.2))=true->((((0:Int)<=x0.1)/\(x0.1<(((List.length x.2):Int))))/\(((R_ x0.1)<(List.length x.2))/\((AE ((List.length (So x.2 (R_ x0.1) []))*4))/\(AE (((List.length x0.2)+(List.length [(So x.2 (R_ x0.1) [])]))*1))))))/\((b_ x0.1 (V' x.2))=false->True))
theorem uE(x):NY x=(x.1,(Am (Ve x) (Vf x) (0,[])).2):=(IH.v x).trans (by kernel_rfl)
theorem uf(x):RX x=a_ (Ve x) (Vf x) (Zz x) (0,[]):=(IH.o x).trans (by kernel_rfl)
attribute [irreducible] SX WD NY RX
end
end
end Go.Ag
