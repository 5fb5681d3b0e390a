/- Part 9 of what FnExactTapKeys needs. No conditions. -/
import Derived.Test.YtbkpfpcnjpggaaaGreatLibH
namespace Go.Ag
set_option linter.unusedSimpArgs false
set_option linter.unusedVariables false
noncomputable section
section
set_option maxRecDepth 8000
def tW:d5:=(A_ [2,1] 1 [O' 0 7 0,B_ (.d7 1 [Ab,.X_,.X_,Ab,.X_,Ab,CB])] (A_ [2,1] 3 [J' 0 1,K_ 0 2 3,I' IH [4],J' 0 1,E_ (.U_ 0 2 6 5)] (A_ [2,1] 7 [J' 2 1,J_ 0 7,I' IK [8],J' 2 1,E_ (.U_ 0 1 10 9)] (A_ [2,1] 11 [J' 4 1,J_ 0 11,B_ (.app 5 (.c .X_) 12),J' 4 1,E_ (.U_ 0 1 14 13)] (A_ [2] 15 [I_ (.aw [(4,0)] true (.d6 0 (some 7) 1) none),E_ (.U_ 1 7 2 15)] .ret)))))
def KK:Fn:=⟨⟨1,16,2,false,[.cell 2 (some 7)],tW⟩,[.agg [Av,(.Z_,.sl (.one (.sl Az))),(.Z_,.sl (.one (.sl AO))),Av,(.Z_,.sl AS),Av,(.Z_,.bool)]],.one (.agg [AF,(.own,.sl (.one (.sl Az))),(.own,.sl (.one (.sl AO))),AF,(.i5 0,.sl AS),AF,(.own,.bool)])⟩
theorem tT:KK.A:=AK ⟨gZ,gW,trivial⟩
def NX:Bw->Int×Cz×CJ×Int×Bj×Int×Bool:=KK.V
def Vk:Bw->Prop:=KK.O
theorem tX:KK.B:=AM ⟨gV,hJ,trivial⟩ (by kernel_rfl) (λx=>by kernel_rfl)
def Zar:d5:=(A_ [4,2,1] 2 [O' 0 7 0,H_ 4 (B_ (.d7 1 [Ab,.X_,.X_,Ab,.X_,Ab,CB])),Q_ (.c .X_),Q_ Ar] (A_ [7,4,2,1] 16 [Q' (.cons (.int .i64) (.one (.sl (.one (.int .i64))))) (.d4 2 0 [] []),G_ 7 (C_ 16)] (A_ [8,7,4,1] 17 [C' (.d6 0 (some 7) 2),G_ 8 (B_ (.d7 2 [Ab,.X_,.X_,Ab,.X_,Ab,CB])),E_ (.U_ 2 7 8 17)] (.seq [8,7,4] (A_ [9,8,7,4,1] 9 [E' 0] (.block 0 (.loop [1,4,7,8,9] 1 (.seq [9,8,7,4,1] (A_ [21,9,8,7,4,1] 18 [C_ 9,D_ 1,L' 19,M' 18 20] (.cond 21 .skip (.exit 0))) (.seq [9,8,7,4,1] (.scope (.block 1 (.seq [12,11,10,9,8,7,4,1] (.region [oa 10 10 (.allocH [Ab,.X_,.X_,Ab,.X_,Ab,CB]),oa 0 25 (.d6 2 (some 7) 8),on 1 26 1,om 2 27 9,xA 3 28 (.m_ 1 26 27) [1,2],xA 4 29 (.g9 none 28) [1,2,3],xF 5 30 LI [25,29,Ar] (rg 5),xA 6 24 (.mv 30) (rg 6),xA 7 31 (.extract 24 0) (rg 7),xA 8 32 (.extract 24 1) [0,1,2,3,4,5,6],xA 9 33 (.extract 24 2) [0,1,2,3,4,5,6],xS 11 (.f6 7 10 31) [0,1,2,3,4,5,6,7,10],xA 12 11 (.mv 32) [0,1,2,3,4,5,6,7,8,10,11],xA 13 12 (.mv 33) (rg 13)]) (.seq [15,14,13,12,11,9,8,7,4,1] (.region [oa 10 13 (.allocH [Ab,.X_,.X_,Ab,.X_,Ab,CB]),oa 0 35 (.g9 (some 7) 10),on 1 36 1,om 2 37 9,xA 3 38 (.m_ 1 36 37) [1,2],xA 4 39 (.g9 none 38) [1,2,3],xF 5 40 Lu [35,39] (rg 5),xA 6 34 (.mv 40) (rg 6),xA 7 41 (.extract 34 0) (rg 7),xA 8 42 (.extract 34 1) [0,1,2,3,4,5,6],xA 9 43 (.extract 34 2) [0,1,2,3,4,5,6],xS 11 (.f6 7 13 41) [0,1,2,3,4,5,6,7,10],xA 12 14 (.mv 42) [0,1,2,3,4,5,6,7,8,10,11],xA 13 15 (.mv 43) (rg 13)]) (.seq [14,13,11,9,8,7,4,1] (A_ [49,14,13,11,9,8,7,4,1] 44 [C_ 12,P' 44,C_ 45,F' 46 (Q_ 15),F' 46 (P' 47),L_ 46 AU 48] (.cond 49 (A_ [6,5,4] 50 [B_ (.build [Ab,.X_,.X_,Ab,.X_,Ab,CB] []),Q' (.cons (.int .i64) (.one (.sl (.one (.int .i64))))) (.d4 2 0 [] []),E_ (.U_ 1 7 4 50),H_ 5 (C_ 51),Q_ Ar] .ret) .skip)) (A_ [13,9,8,7,4,1] 52 [C_ 7,C_ 11,B_ (.app 2 52 53),C_ 14,B_ (.app 2 54 55),G_ 7 (C_ 56)] (At 57 [I_ (.fzb 13 (.g9 (some 7) 13)),E_ (.U_ 2 7 8 57)]))))))) (At 22 [C_ 9,M_ 22 AD,G_ 9 (C_ 23)])))))) (.seq [8,7,4] (A_ [60,8,7,4] 58 [K_ 2 7 8,I' G2 [58],P' 59] (.cond 60 (A_ [6,5,4] 61 [B_ (.build [Ab,.X_,.X_,Ab,.X_,Ab,CB] []),Q' (.cons (.int .i64) (.one (.sl (.one (.int .i64))))) (.d4 2 0 [] []),E_ (.U_ 1 7 4 61),H_ 5 (C_ 62),Q_ Ar] .ret) .skip)) (A_ [6,5,4] 63 [K_ 2 7 8,I' G8 [63],C_ 7,E_ (.U_ 1 7 4 64),H_ 5 (C_ 65),Q_ AU] .ret))))))
def Lj:Fn:=⟨⟨2,66,3,false,[.cell 4 (some 7),.tmp 5,.tmp 6],Zar⟩,[.agg [Av,(.Z_,.sl (.one (.sl Az))),(.Z_,.sl (.one (.sl AO))),Av,(.Z_,.sl AS),Av,(.Z_,.bool)],.one .Z_ (.sl (.one (.int .i64)))],.f8 [.agg [AF,(.own,.sl (.one (.sl Az))),(.own,.sl (.one (.sl AO))),AF,(.own,.sl AS),AF,(.own,.bool)],.one .own (.sl (.cons (.int .i64) (.one (.sl (.one (.int .i64)))))),.one .own (.bool)]⟩
theorem zW:Lj.A:=AK ⟨Zce,zv,Z3,aC,trivial⟩
def BZ:Ip->Bw×BQ×Bool:=Lj.V
def SH:Ip->Prop:=Lj.O
theorem Zak:Lj.B:=AM ⟨Zb2,Zaw,Z0,aB,trivial⟩ (by kernel_rfl) (λx=>by kernel_rfl)
def zG:d5:=(A_ [4,2,1] 2 [O' 0 7 0,H_ 4 (B_ (.d7 1 [Ab,.X_,.X_,Ab,.X_,Ab,CB])),Q_ (.c .X_),Q_ Ar] (.seq [4,2,1] (A_ [16,4,2,1] 14 [K_ 0 7 2,I' IZ [14],P' 15] (.cond 16 (A_ [6,5,4] 17 [I_ (.aw [(4,0)] false (.build [Ab,.X_,.X_,Ab,.X_,Ab,CB] []) none),E_ (.U_ 1 7 4 17),H_ 5 (Q_ (.c .X_)),Q_ Ar] .ret) .skip)) (A_ [7,4,1] 18 [K_ 0 7 2,I' KK [18],G_ 7 (B_ (.d7 2 [Ab,.X_,.X_,Ab,.X_,Ab,CB])),E_ (.U_ 2 7 7 19)] (A_ [8,7,4,1] 8 [Q_ (.c .X_)] (.seq [8,7,4] (A_ [22,21,20,8,7,4] 20 [D_ 1,L' 20,E' 0] (.block 0 (.loop [4,7,8,20,21,22] 1 (A_ [23,22,21,20,8,7,4] 23 [M' 22 21] (.seq [22,21,20,8,7,4] (.cond 23 .skip (.exit 0)) (.seq [22,21,20,8,7,4] (.block 1 (A_ [22,21,20,10,8,7,4] 24 [N_ 1 20 22,O_ 24,G_ 10 (C_ 25)] (A_ [22,21,20,13,12,11,10,8,7,4] 27 [K_ 2 7 7,C_ 10,I' LJ [27,28,Ar],G_ 26 (C_ 29),B_ (.extract 26 0),B_ (.extract 26 1),B_ (.extract 26 2),H_ 11 (B_ (.d7 3 [Ab,.X_,.X_,Ab,.X_,Ab,CB])),E_ (.U_ 3 7 11 30),C_ 31,C_ 32] (.seq [22,21,20,12,11,10,8,7,4] (A_ [34,22,21,20,12,11,10,8,7,4] 33 [C_ 13,P' 33] (.cond 34 (A_ [6,5,4] 35 [I_ (.aw [(4,0)] false (.build [Ab,.X_,.X_,Ab,.X_,Ab,CB] []) none),E_ (.U_ 1 7 4 35),H_ 5 (Q_ (.c .X_)),Q_ Ar] .ret) .skip)) (A_ [22,21,20,12,10,8,7,4] 36 [I_ (.aw [(4,0)] true (.d6 3 (some 7) 11) none),E_ (.U_ 2 7 7 36)] (A_ [22,21,20,10,8,7,4] 37 [C_ 8,C_ 12,B_ (.app 2 37 38),G_ 8 (C_ 39)] (A_ [22,21,20,12,8,7,4] 41 [K_ 2 7 7,C_ 10,I' Ls [41,42],G_ 40 (C_ 43),B_ (.extract 40 0),B_ (.extract 40 1),E_ (.U_ 2 7 7 44),G_ 12 (C_ 45)] (At 46 [C_ 8,C_ 12,B_ (.app 2 46 47),G_ 8 (C_ 48)])))))))) (At 49 [M_ 22 AD,G_ 22 (C_ 49)]))))))) (A_ [6,5,4] 50 [C' (.d6 2 (some 7) 7),C_ 8,E_ (.U_ 1 7 4 50),H_ 5 (C_ 51),Q_ AU] .ret))))))
def I9:Fn:=⟨⟨2,52,4,false,[.cell 4 (some 7),.tmp 5,.tmp 6],zG⟩,[.agg [Av,(.Z_,.sl (.one (.sl Az))),(.Z_,.sl (.one (.sl AO))),Av,(.Z_,.sl AS),Av,(.Z_,.bool)],.one .Z_ (.sl (.one (.int .i64)))],.f8 [.agg [AF,(.own,.sl (.one (.sl Az))),(.own,.sl (.one (.sl AO))),AF,(.i5 0,.sl AS),AF,(.own,.bool)],.one .own (.sl (.cons (.int .i64) (.one (.sl (.one (.int .i64)))))),.one .own (.bool)]⟩
theorem jI:I9.A:=AK ⟨iP,tT,ZcM,zR,trivial⟩
def As:Ip->Bw×BQ×Bool:=I9.V
def Qd:Ip->Prop:=I9.O
theorem jx:I9.B:=AM ⟨jh,tX,Zcp,zy,trivial⟩ (by kernel_rfl) (λx=>by kernel_rfl)
end
section
set_option maxRecDepth 100000
theorem tY(x):NX x=((NY (x.1,x.2.1)).1,(NY (x.1,x.2.1)).2,Sb x.2.2.1,x.2.2.2):=(KK.v x).trans (by kernel_rfl)
theorem tM(x):Vk x=(RX (x.1,x.2.1)/\RY x.2.2.1/\AE (List.length x.2.2.2.2.1*5)):=(KK.o x).trans (by kernel_rfl)
def E0(x:Ip)(x0:Nv):Bool:=(W_ (b_ x0.2.1 (V' x.2)) (U' (t8 (U' (EN (x0.2.2,(So x.2 (R_ x0.2.1) 0),false)).2.2) (U' (HV ((EN (x0.2.2,(So x.2 (R_ x0.2.1) 0),false)).1,(So x.2 (R_ x0.2.1) 0))).2.2))))
def Gq(x:Ip)(x0:Nv):Nv:=((i9 (i9 x0.1 (EN (x0.2.2,(So x.2 (R_ x0.2.1) 0),false)).2.1) (HV ((EN (x0.2.2,(So x.2 (R_ x0.2.1) 0),false)).1,(So x.2 (R_ x0.2.1) 0))).2.1),(V_ .i64 x0.2.1 1),(HV ((EN (x0.2.2,(So x.2 (R_ x0.2.1) 0),false)).1,(So x.2 (R_ x0.2.1) 0))).1)
def NZ(x:Ip)(x0:Nv):Prop:=(((b_ x0.2.1 (V' x.2))=true->((((0:Int)<=x0.2.1)/\(x0.2.1<(((List.length x.2):Int))))/\(((R_ x0.2.1)<(List.length x.2))/\((Qr (x0.2.2,(So x.2 (R_ x0.2.1) 0),false))/\((((0:Int)<=x0.2.1)/\(x0.2.1<(((List.length x.2):Int))))/\(((R_ x0.2.1)<(List.length x.2))/\((N9 ((EN (x0.2.2,(So x.2 (R_ x0.2.1) 0),false)).1,(So x.2 (R_ x0.2.1) 0)))/\(((t8 (U' (EN (x0.2.2,(So x.2 (R_ x0.2.1) 0),false)).2.2) (U' (HV ((EN (x0.2.2,(So x.2 (R_ x0.2.1) 0),false)).1,(So x.2 (R_ x0.2.1) 0))).2.2))=true->True)/\((t8 (U' (EN (x0.2.2,(So x.2 (R_ x0.2.1) 0),false)).2.2) (U' (HV ((EN (x0.2.2,(So x.2 (R_ x0.2.1) 0),false)).1,(So x.2 (R_ x0.2.1) 0))).2.2))=false->((AE (((List.length x0.1)+(List.length (EN (x0.2.2,(So x.2 (R_ x0.2.1) 0),false)).2.1))*2))/\(AE (((List.length (i9 x0.1 (EN (x0.2.2,(So x.2 (R_ x0.2.1) 0),false)).2.1))+(List.length (HV ((EN (x0.2.2,(So x.2 (R_ x0.2.1) 0),false)).1,(So x.2 (R_ x0.2.1) 0))).2.1))*2))))))))))))/\((b_ x0.2.1 (V' x.2))=false->True))
theorem ZoL(x:Ip)(a)(_:a=Am (E0 x) (Gq x) ([],0,x.1))(b)(_:b=b_ a.2.1 (V' x.2))(c)(_:c=U' (Gr a.2.2)):BZ x=Z' b ((0,[],[],0,[],0,false),[],false) (Z' c ((0,[],[],0,[],0,false),[],false) (DQ a.2.2,a.1,true))/\SH x=(a_ (E0 x) (Gq x) (NZ x) ([],0,x.1)/\(b=true->True)/\(b=false->PZ a.2.2/\(c=true->True)/\(c=false->Qi a.2.2))):=by subst_vars;exact⟨(Lj.v x).trans (by kernel_rfl),(Lj.o x).trans (by kernel_rfl)⟩
abbrev jv:=λx=>(ZoL x _ rfl _ rfl _ rfl).1
abbrev jm:=λx=>(ZoL x _ rfl _ rfl _ rfl).2
def MA(x:Ip)(x0:Nv):Bool:=(W_ (b_ x0.2.1 (V' x.2)) (U' (U' (F0 (x0.2.2,(So x.2 (R_ x0.2.1) 0),false)).2.2)))
def PR(x:Ip)(x0:Nv):Nv:=((i9 (i9 x0.1 (F0 (x0.2.2,(So x.2 (R_ x0.2.1) 0),false)).2.1) (MJ ((F0 (x0.2.2,(So x.2 (R_ x0.2.1) 0),false)).1,(So x.2 (R_ x0.2.1) 0))).2),(V_ .i64 x0.2.1 1),(MJ ((F0 (x0.2.2,(So x.2 (R_ x0.2.1) 0),false)).1,(So x.2 (R_ x0.2.1) 0))).1)
def R8(x:Ip)(x0:Nv):Prop:=(((b_ x0.2.1 (V' x.2))=true->((((0:Int)<=x0.2.1)/\(x0.2.1<(((List.length x.2):Int))))/\(((R_ x0.2.1)<(List.length x.2))/\((Qq (x0.2.2,(So x.2 (R_ x0.2.1) 0),false))/\(((U' (F0 (x0.2.2,(So x.2 (R_ x0.2.1) 0),false)).2.2)=true->True)/\((U' (F0 (x0.2.2,(So x.2 (R_ x0.2.1) 0),false)).2.2)=false->((AE (((List.length x0.1)+(List.length (F0 (x0.2.2,(So x.2 (R_ x0.2.1) 0),false)).2.1))*2))/\((SG ((F0 (x0.2.2,(So x.2 (R_ x0.2.1) 0),false)).1,(So x.2 (R_ x0.2.1) 0)))/\(AE (((List.length (i9 x0.1 (F0 (x0.2.2,(So x.2 (R_ x0.2.1) 0),false)).2.1))+(List.length (MJ ((F0 (x0.2.2,(So x.2 (R_ x0.2.1) 0),false)).1,(So x.2 (R_ x0.2.1) 0))).2))*2))))))))))/\((b_ x0.2.1 (V' x.2))=false->True))
theorem ZoM(x:Ip)(a)(_:a=Am (MA x) (PR x) ([],0,NX x.1)):As x=Z' (U' (CG x.1)) ((0,[],[],0,[],0,false),[],false) (Z' (b_ a.2.1 (V' x.2)) ((0,[],[],0,[],0,false),[],false) (a.2.2,a.1,true)):=by subst_vars;exact(I9.v x).trans (by kernel_rfl)
abbrev jz:=λx=>ZoM x _ rfl
theorem jk(x):Qd x=(P8 x.1/\(U' (CG x.1)=true->True)/\(U' (CG x.1)=false->Vk x.1/\a_ (MA x) (PR x) (R8 x) ([],0,NX x.1))):=(I9.o x).trans (by kernel_rfl)
attribute [irreducible] NX Vk BZ SH As Qd
end
section
set_option maxRecDepth 20000
def Ti(x:BQ):Prop:=x.length<=1073741824/\∀a∈x,Xz a
section
variable {α:Type} {f:α->Int->α×Int} {l:List α} {m:Int} {c:Nat}
theorem Zen {C:Int×Int->Bool} {F:Int×Int->Int×Int} {p:Int×Int->Prop} (q:l.length<=1073741824) (d:α)
 (hs:∀i,i<l.length->p ((A8 f l m i).2,(i:Int))/\C ((A8 f l m i).2,(i:Int))=true/\F ((A8 f l m i).2,(i:Int))=((f (l.getD i d) (A8 f l m i).2).2,V_ .i64 (i:Int) 1))
 (g:p ((AV f l m).2,(l.length:Int))/\C ((AV f l m).2,(l.length:Int))=false):a_ C F p (m,0)/\Am C F (m,0)=((AV f l m).2,(l.length:Int)):=by
 have:=H4 (p:=p) (c:=C) (f:=F) l.length (λi=>((A8 f l m i).2,(i:Int))) (x0:=(m,0)) rfl (λk b=>by
  obtain⟨h1,n,j⟩:=hs k b;refine⟨h1,n,?_⟩;rw[j,QA f l m b d,B9 (by unfold Bl;omega)];simp) (by rw[Hj];exact g)
 simp only[Hj]at this;exact this
end
theorem ZeR(a b:BQ)(h:Ti a):PO (a,b)/\(HS (a,b)=true↔a=b):=by
 rw[wq,vZ];obtain⟨h1,s⟩:=h;have n:∀i:Nat,i<a.length->Sn (((So a i (0,[])).1,(So a i (0,[])).2),((So b i (0,[])).1,(So b i (0,[])).2))/\(Li (((So a i (0,[])).1,(So a i (0,[])).2),((So b i (0,[])).1,(So b i (0,[])).2))=true↔a.getD i (0,[])=b.getD i (0,[])):=λi hi=>by
  have:=Zfs (a.getD i (0,[])) (b.getD i (0,[])) (s _ (Cd a i (0,[]) hi));rw[AJ,AJ];exact this
 by_cases j:a.length=b.length
 ·refine⟨⟨λ_=>trivial,λ_=>Pd a b (0,[]) (λi=>U' (Li (((So a i (0,[])).1,(So a i (0,[])).2),((So b i (0,[])).1,(So b i (0,[])).2)))) j (λi hi=>by simp only[Ax,B7,(n i hi).2]) (by omega) (λi hi=>by simp only[AB,An,Al,Aw,Ax,AG,CX]) (λi hi=>rfl) (λi hi=>?_)⟩,?_⟩
  ·simp only[An,Al,Aw,Ay,AG];exact⟨λt=>⟨by omega,by omega,by omega,by omega,(n i (by omega)).1⟩,λ_=>trivial⟩
  have q:=Pt (c:=λi:Int=>W_ (b_ i (V' a)) (U' ((λi=>U' (Li (((So a i (0,[])).1,(So a i (0,[])).2),((So b i (0,[])).1,(So b i (0,[])).2)))) i.toNat))) (f:=λi=>V_ .i64 i 1) a b (0,[]) (λi=>U' (Li (((So a i (0,[])).1,(So a i (0,[])).2),((So b i (0,[])).1,(So b i (0,[])).2)))) j (λi hi=>by simp only[Ax,B7,(n i hi).2]) (by omega) (λi hi=>by simp only[AB,An,Al,Ax,AG,CX]) (λi hi=>rfl);have g:U' (j_ (V' a) (V' b))=true:=(by rw[Ax,Bo,Al,Al,j];simp);rw[g,AB true,Hv,Ax (b_ _ (V' a)),An _ (V' a)];simp only[<- Aw,Al]at q ⊢;simp only[Br,Bn];rw[q];simp
 have g:U' (j_ (V' a) (V' b))=false:=by rw[Ax,Bo,Al,Al];simp;omega
 refine⟨⟨λ_=>trivial,λh=>?_⟩,?_⟩
 ·rw[Ax]at g;rw[h]at g;cases g
 rw[g,AB,Kj];constructor
 ·intro h;cases h
 intro e;subst e;exact absurd rfl j
def Hg(a:BH)(k:Int):BH×Int:=((k,(D9 a.2 (IntKind.i64.wrap (k+1))).1),(D9 a.2 (IntKind.i64.wrap (k+1))).2)
theorem Zd9(x:BQ)(h:Ti x)(m:Int)(h0:0<=m)(h1:m+1125900980584448<=2305843009213693952):PE x/\(m<=(Dm x m).2/\(Dm x m).2<=m+1125900980584448)/\RL ((Dm x m).1,m)/\IF ((Dm x m).1,m)=(Dm x m).2:=by
 have z:x.length<=1073741824:=h.1;have C:Mp Hg x 1048577:=by
  intro a b k U R;have y:IntKind.i64.wrap (k+1)=k+1:=Da (by omega) (by omega);obtain⟨_,⟨G,F⟩,q,n⟩:=ew a.2 (h.2 a b).1 (k+1) (by omega) (by omega);have t1:¬(D9 a.2 (k+1)).2<0:=(by omega);have J:(Hg a k).2=(D9 a.2 (k+1)).2:=(by simp only[Hg,y]);rw[J];omega
 have Y:x.length*1048577<=1125900980584448:=OM z (by decide);have D:=OX (m:=m) C h0 (by omega);have s:Dm x m=AV Hg x m:=by unfold Hg;rw[gG,ZQ];rfl
 rw[s];have u:=Ht Hg x m;have A:∀i,i<x.length->(AV Hg x m).1.getD i (0,[])=(Hg (x.getD i (0,[])) (A8 Hg x m i).2).1:=λi hi=>OG _ _ _ hi _;have M:PE x:=by rw[gH];exact⟨CW h.1 (by decide),λa b=>⟨trivial,⟨CW (h.2 a b).1 (by decide),λa b=>trivial⟩⟩⟩
 rw[tS,tU];dsimp only;generalize (AV Hg x m).1=L at u A ⊢;have j:a_ (λ(x0:Au)=>(W_ (b_ x0.2 (V' L)) (W_ (U' (j_ (So L (R_ x0.2) (0,[])).1 x0.1)) (U' (b_ (E6 ((So L (R_ x0.2) (0,[])).2,(V_ .i64 x0.1 1))) 0))))) (λ(x0:Au)=>((E6 ((So L (R_ x0.2) (0,[])).2,(V_ .i64 x0.1 1))),(V_ .i64 x0.2 1))) (λ(x0:Au)=>(((b_ x0.2 (V' L))=true->((((0:Int)<=x0.2)/\(x0.2<(((List.length L):Int))))/\(((R_ x0.2)<(List.length L))/\(((j_ (So L (R_ x0.2) (0,[])).1 x0.1)=true->True)/\((j_ (So L (R_ x0.2) (0,[])).1 x0.1)=false->((((0:Int)<=x0.2)/\(x0.2<(((List.length L):Int))))/\(((R_ x0.2)<(List.length L))/\(Si ((So L (R_ x0.2) (0,[])).2,(V_ .i64 x0.1 1))))))))))/\((b_ x0.2 (V' L))=false->True))) (m,0)/\Am (λ(x0:Au)=>(W_ (b_ x0.2 (V' L)) (W_ (U' (j_ (So L (R_ x0.2) (0,[])).1 x0.1)) (U' (b_ (E6 ((So L (R_ x0.2) (0,[])).2,(V_ .i64 x0.1 1))) 0))))) (λ(x0:Au)=>((E6 ((So L (R_ x0.2) (0,[])).2,(V_ .i64 x0.1 1))),(V_ .i64 x0.2 1))) (m,0)=((AV Hg x m).2,(x.length:Int)):=by
  refine Zen z (0,[]) (λi hi=>?_) ?_
  ·obtain⟨O,N⟩:=M3 (m:=m) C h0 (by omega) (0,[]) i (by omega);have Z:i*1048577+1048577<=x.length*1048577:=OH hi;have g:=A i hi;have I:(i:Int)<(L.length:Int):=(by omega);have t:i<L.length:=(by omega);have b:=Cd x i (0,[]) hi;generalize (A8 Hg x m i).2=k at O N g ⊢;generalize x.getD i (0,[])=a at g b ⊢;have y:IntKind.i64.wrap (k+1)=k+1:=Da (by omega) (by omega);obtain⟨_,⟨G,F⟩,q,n⟩:=ew a.2 (h.2 a b).1 (k+1) (by omega) (by omega);have t1:¬(D9 a.2 (k+1)).2<0:=(by omega);simp only[AJ,Aw,Al,AG,OK,OB,Bo,An,BF,OJ,AB,Ax,EP,g,Hg,y,q,n,t1];simp[I,t,q,n,t1]
  simp[An,Al,u,AB]
 refine⟨M,⟨D.1,by omega⟩,j.1,?_⟩;simp only[j.2];simp[BM,An,Al,u]
end
section
set_option maxRecDepth 20000
theorem EngOk.relX{x:CP}(h:EngOk x)(q:x.2.2.2.2.1.length<=1048576)(i:Nat):EngOk (x.1,x.2.1,x.2.2.1,x.2.2.2.1,x.2.2.2.2.1.eraseIdx i,x.2.2.2.2.2):=by
 obtain⟨I,G,F,D,C,A,z,y,u,n⟩:=h;have b:=List.eraseIdx_sublist x.2.2.2.2.1 i;have g:(x.2.2.2.2.1.eraseIdx i).length<=1048576:=CW b.length_le q;obtain⟨t,s⟩:=(Tf q).1 D;refine⟨I,G,F,(Tf g).2 ⟨λa j=>t a (b.subset j),s.sublist b⟩,λa j=>C a (b.subset j),A,z,y,u,n⟩
theorem n6{l:CQ}(h:l.length<=1048576):Ho l:=⟨h,λa _=>by simp[OP,Ox]⟩
theorem ZbT(x:CP)(hs:Cg x):Vk x/\NX x=x:=by
 obtain⟨a,b⟩:=aR x hs;rw[il]at a;rw[gU]at b;rw[tM,tY];exact⟨a,b⟩
theorem Zjd(E:CP)(k:Int)(hs:Cg E)(O:CG E=true):∃P l b,Qr (E,k,false)/\Qq (E,k,false)/\EN (E,k,false)=(P,l,b)/\F0 (E,k,false)=(P,l,b)/\N9 (P,k) /\
   (b=false\/(b=true/\∃R n,HV (P,k)=(R,n,true)/\SG (P,k)/\MJ (P,k)=(R,n)/\Cg R/\CG R=true/\(∀r∈l,Gj r)/\(∀r∈n,Gj r)/\l.length<=1001/\n.length<=1)):=by
 have M:E.2.2.2.2.1.length<=1048576:=hs.2.2.1.1;by_cases t:CG E=false\/k<0\/E.1<=k\/0<=BP (E,k)
 ·obtain⟨G,F,D,C⟩:=mW E k false hs t;obtain⟨_,_,_,z,_⟩:=kU HH k (by simp[HH,Cg,DW,Hh,Ho,Ji]);exact⟨_,_,_,G,F,D,C,z,.inl rfl⟩
 have g1 : ¬k<0:=λq=>t (.inr (.inl q));have g2:¬E.1<=k:=λq=>t (.inr (.inr (.inl q)));have g3:¬0<=BP (E,k):=λq=>t (.inr (.inr (.inr q)));have Y:=(S8 E hs).1 O;have h32:=cx M Y.held;obtain⟨G,F,D,C,a5,a6,a7,a8⟩:=ZgR E k false hs O (by omega) (by omega) (by omega);have hi:=ou Gj (Cb E.2.2.2.2.1) a5 (GQ E k false++[Cb (Cq E k false)]) (λr s=>by
  rw[CI,List.mem_singleton]at s;rcases s with s|rfl
  ·exact a7 r s
  exact a6)
 have hj:(GQ E k false++[Cb (Cq E k false)]).length<=1001:=by rw[CM];simp only[A0,A7];omega
 have hn:∀a∈E.2.2.2.2.1,a.1≠k:=by
  rcases aU E k M with⟨_,h⟩|⟨i,_,h,_⟩
  ·exact h
  exact absurd (show 0<=BP (E,k) by rw[h];omega) g3
 have U:=ZjC Y hs k false (by omega) (by omega) hn;have x:(Cq E k false).length<=1048576:=by unfold Cq;simp;omega
 have J:Cg (Fm E k false):=⟨hs.1,hs.2.1,n6 x,trivial⟩;have Z:=(S8 _ J).2 U;rcases aU (Fm E k false) k x with⟨_,y⟩|⟨j,h1,y,_⟩
 ·exact absurd rfl (y (k,(Bq E k false).1) (by show _∈Cq E k false;unfold Cq;simp))
 obtain⟨r1,r2,r3,A⟩:=lg _ k J Z j h1 y;have g:((Fm E k false).2.2.2.2.1.eraseIdx j).length<=1048576:=CW (List.eraseIdx_sublist _ _).length_le x;have I:Cg ((Fm E k false).1,(Fm E k false).2.1,(Fm E k false).2.2.1,(Fm E k false).2.2.2.1,(Fm E k false).2.2.2.2.1.eraseIdx j,(Fm E k false).2.2.2.2.2):=⟨hs.1,hs.2.1,n6 g,trivial⟩;have eR:=(S8 _ I).2 (U.relX x j);have N:t8 (U' (CG (Fm E k false,k).1)) (b_ (BP (Fm E k false,k)) 0)=false:=by
  rw[Bd,Ax,An,y,Z,C7 (by omega)];rfl
 rw[Qg]at r2;rw[Qj,N,CD]at A;obtain⟨_,_,s3,L⟩:=LG ((Fm E k false).2.2.2.2.1.eraseIdx j) g;rw[s3]at L;refine⟨_,_,_,G,F,D,C,r1,.inr ⟨rfl,_,_,r3,r2.2.2 N,Prod.ext (Prod.mk.inj A).1 (Prod.mk.inj (Prod.mk.inj A).2).1,I,eR,hi.2.1,?_,CW hi.1 hj,?_⟩⟩
 ·unfold JN;split
  ·exact λa u=>by cases u
  exact λa u=>by
   rw[List.mem_singleton]at u;rw[u];exact L
 unfold JN;split
 ·exact Ec _
 exact BN _
theorem ZdR(x:CP)(g:BO)(hs:Cg x)(j:CG x=false):SH (x,g)/\Qd (x,g)/\BZ (x,g)=(HH,[],false)/\As (x,g)=(HH,[],false):=by
 obtain⟨F,D,C⟩:=Oi x hs;have i:U' false=true:=by rw[Ax];rfl
 have t:∀b,t8 true b=true:=λb=>by rw[Bd];rfl
 have u:U' true=false:=by rw[Ax];rfl
 have I:∀b,W_ b false=false:=λb=>by rw[AB,Bool.and_false]
 obtain⟨A,y,L⟩:=XT (c:=E0 (x,g)) (f:=Gq (x,g)) (p:=NZ (x,g)) (λs=>s=([],0,x)) (λ_=>0) (by
  rintro s rfl;obtain⟨J,_,G,_⟩:=mW x (So g (R_ 0) 0) false hs (.inl j);obtain⟨_,_,_,z,_⟩:=kU HH (So g (R_ 0) 0) (by simp[HH,Cg,DW,Hh,Ho,Ji]);simp only[NZ,E0,G,i,t,u,I];refine⟨⟨λh=>?_,λ_=>trivial⟩,λh=>by cases h⟩;rw[An,Al,Ay]at h;have q:((0:Int)<=0/\(0:Int)<(g.length:Int)):=⟨by omega,h⟩;have n:R_ 0<g.length:=(by rw[Aw];omega);exact⟨q,n,J,q,n,z,λ_=>trivial,λh=>by cases h⟩) rfl
 rw[jm,jk,jv,jz];simp only[y,j,<- C,i,CK];refine⟨⟨A,λ_=>trivial,λ_=>⟨F,λ_=>trivial,λh=>by cases h⟩⟩,⟨D,λ_=>trivial,λh=>by cases h⟩,?_,rfl⟩;rw[BM];split<;>rfl
theorem ZdA(x:CP)(j:BO)(hs:Cg x)(hn:j.length<=1048576):∃E L b,SH (x,j)/\Qd (x,j)/\BZ (x,j)=(E,L,b)/\As (x,j)=(E,L,b)/\Cg E/\Ti L:=by
 have U:Cg HH:=by simp[HH,Cg,DW,Hh,Ho,Ji]
 have Y:Ti []:=by simp[Ti]
 cases M:CG x with
 | false=>
   obtain⟨a1,a2,a3,a4⟩:=ZdR x j hs M;exact⟨_,_,_,a1,a2,a3,a4,U,Y⟩
 | true=>
   obtain⟨e1,e2,e3⟩:=Oi x hs;obtain⟨O,w2⟩:=ZbT x hs;have n1:U' false=true:=(by rw[Ax];rfl);have o1:∀b,t8 true b=true:=λb=>(by rw[Bd];rfl);have o2:∀b,t8 false b=b:=λb=>(by rw[Bd];rfl);have G:U' true=false:=(by rw[Ax];rfl);have a1:∀b,W_ b true=b:=λb=>(by rw[AB,Mb]);have a2:∀b,W_ b false=false:=λb=>(by rw[AB,Bool.and_false]);obtain⟨l1,l2,I,l4⟩:=XH (c:=E0 (x,j)) (f:=Gq (x,j)) (p:=NZ (x,j)) (d:=MA (x,j)) (g:=PR (x,j)) (q:=R8 (x,j))
    (x0:=([],0,x)) (y0:=([],0,x))
    (λs t=>s=t/\∃(i:Nat) (L:List Cy) (E:CP),s=(L,(i:Int),E)/\i<=j.length/\L.length<=1002*i/\(∀r∈L,Gj r)/\Cg E/\CG E=true) (λs=>j.length-s.2.1.toNat) (by
     rintro s t ⟨rfl,i,L,E,rfl,hi,hL,N,z,J⟩;have si:V_ .i64 (i:Int) 1=((i+1:Nat):Int):=(by rw[B9 (by unfold Bl;omega)];simp);by_cases h_:i<j.length;case neg=>
      have D:b_ (i:Int) (V' j)=false:=(by rw[An,Al];exact C7 (by omega));have F:∀b,W_ false b=false:=λb=>(by rw[AB,Kj]);simp only[NZ,E0,R8,MA,D,F];exact⟨⟨λh=>(by cases h),λ_=>trivial⟩,⟨λh=>(by cases h),λ_=>trivial⟩,trivial,λh=>by cases h⟩
     case pos=>
      have D:b_ (i:Int) (V' j)=true:=(by rw[An,Al];exact FC (by omega));have F:∀b,W_ true b=b:=λb=>(by rw[AB,Hv]);have u:((0:Int)<=(i:Int)/\(i:Int)<(j.length:Int)):=⟨by omega,by omega⟩;have y:R_ (i:Int)<j.length:=(by rw[Aw];omega);obtain⟨P,m,b,p1,p2,p3,p4,Z,p6⟩:=Zjd E (So j (R_ (i:Int)) 0) z J;rcases p6 with rfl|⟨rfl,R,m2,q1,q2,q3,q4,q5,q6,q7,q8,q9⟩
      ·simp only[NZ,E0,R8,MA,D,F,p3,p4,n1,G,o1];exact⟨⟨λ_=>⟨u,y,p1,u,y,Z,λ_=>trivial,λh=>by cases h⟩,λ_=>trivial⟩,⟨λ_=>⟨u,y,p2,λ_=>trivial,λh=>by cases h⟩,λ_=>trivial⟩,trivial,λh=>by cases h⟩
      have C:AE ((L.length+m.length)*2):=(by unfold AE;omega);have A:AE (((i9 L m).length+m2.length)*2):=(by rw[BL,CM];unfold AE;omega);simp only[NZ,E0,Gq,R8,MA,PR,D,F,p3,p4,q1,q3,n1,G,o2,si];refine⟨⟨λ_=>⟨u,y,p1,u,y,Z,λ_=>trivial,λ_=>⟨C,A⟩⟩,λ_=>trivial⟩,⟨λ_=>⟨u,y,p2,λ_=>trivial,λ_=>⟨C,q2,A⟩⟩,λ_=>trivial⟩,trivial,λ_=>⟨⟨trivial,i+1,_,_,rfl,h_,?_,?_,q4,q5⟩,?_⟩⟩
      ·rw[BL,BL,CM,CM];omega
      ·intro r n;rw[BL,BL,CI,CI]at n;rcases n with(n|n)|n
       ·exact N r n
       ·exact q6 r n
       exact q7 r n
      simp only[AG];omega) ⟨rfl,0,[],x,rfl,Ec _,Ec _,by simp,hs,M⟩
   obtain⟨I,i,L,E,l5,hi,hL,N,z,J⟩:=I;obtain⟨f1,f2,f3⟩:=Oi E z;obtain⟨c1,c2⟩:=bL E z;rw[jm,jk,jv,jz];simp only[w2,<- I,l5,M,G,CD,<- f3,J,c2];cases D:b_ (i:Int) (V' j)with
   | true=>
     simp only[CK];exact⟨_,_,_,⟨l1,λ_=>trivial,λh=>by cases h⟩,⟨e2,λ_=>trivial,λ_=>⟨O,l2⟩⟩,rfl,rfl,U,Y⟩
   | false=>
     simp only[CD];exact⟨_,_,_,⟨l1,(λh=>by cases h),λ_=>⟨f1,(λh=>by cases h),λ_=>c1⟩⟩,⟨e2,λ_=>trivial,λ_=>⟨O,l2⟩⟩,rfl,rfl,z,⟨by omega,λr n=>⟨N r n,trivial⟩⟩⟩
end
section
set_option maxRecDepth 8000
def sT:d5:=(A_ [2,1] 2 [O' 0 7 0,G_ 4 (Q_ Ar)] (.seq [2,1] (A_ [22,2,1] 20 [D_ 1,L' 20,B_ (.bin .gtr 21 (.c (.int .i64 1048576)))] (.cond 22 (A_ [4] 4 [Q_ AU] .ret) .skip)) (A_ [5,2,1] 5 [E' 1048576] (A_ [5,2,1] 23 [K_ 0 7 2,C_ 5,I' Le [23,24],G_ 5 (C_ 25)] (.seq [2,1] (A_ [27,2,1] 26 [C_ 5,M' 26 AQ] (.cond 27 (A_ [4] 4 [Q_ AU] .ret) .skip)) (A_ [8,7,6,2,1] 29 [K_ 0 7 2,I' FU [29],D_ 1,I' FZ [31],I' Lj [30,32],G_ 28 (C_ 33),B_ (.extract 28 0),B_ (.extract 28 1),B_ (.extract 28 2),H_ 6 (B_ (.d7 1 [Ab,.X_,.X_,Ab,.X_,Ab,CB])),E_ (.U_ 1 7 6 34),D_ 35,C_ 36] (A_ [9,8,7,6,2,1] 37 [K_ 0 7 2,I' FU [37],G_ 9 (B_ (.d7 2 [Ab,.X_,.X_,Ab,.X_,Ab,CB])),E_ (.U_ 2 7 9 38)] (A_ [10,9,8,7,6,2,1] 39 [D_ 1,I' FZ [39],G_ 10 (C_ 40)] (A_ [13,12,11,10,9,8,7,6,2,1] 42 [K_ 2 7 9,D_ 10,I' I9 [42,43],G_ 41 (C_ 44),B_ (.extract 41 0),B_ (.extract 41 1),B_ (.extract 41 2),H_ 11 (B_ (.d7 3 [Ab,.X_,.X_,Ab,.X_,Ab,CB])),E_ (.U_ 3 7 11 45),C_ 46,C_ 47] (.seq [13,12,11,10,9,8,7,6,2,1] (A_ [62,13,12,11,10,9,8,7,6,2,1] 48 [K_ 3 7 11,K_ 1 7 6,I' E4 [48,49],P' 50,C_ 51,F' 52 (I_ (.a true (.mv 12) none)),F' 52 (I_ (.a true (.mv 7) none)),F' 52 (I' Ep [53,54]),F' 52 (P' 55),L_ 52 AU 56,C_ 57,F' 58 (Q_ 13),F' 58 (Q_ 8),F' 58 (B_ (.eqB true 59 60)),L_ 58 AU 61] (.cond 62 (A_ [4] 4 [Q_ Ar] .ret) .skip)) (.seq [13,12,11,10,9,8,7,6,2,1] (A_ [67,13,12,11,10,9,8,7,6,2,1] 63 [K_ 2 7 9,K_ 0 7 2,G' [1] (I' FU [64]),G' (rg 3) (I' E4 [63,65]),G' (rg 4) (P' 66)] (.cond 67 (A_ [4] 4 [Q_ Ar] .ret) .skip)) (.seq [13,12,11,10,9,8,7,6,2,1] (A_ [72,13,12,11,10,9,8,7,6,2,1] 68 [D_ 10,D_ 1,I' FZ [69],I' Jd [68,70],P' 71] (.cond 72 (A_ [4] 4 [Q_ Ar] .ret) .skip)) (A_ [14,13,12,11,10,9,8,7,6,2,1] 14 [E' 1] (A_ [14,13,12,11,10,8,7,6,2,1] 73 [K_ 2 7 9,C_ 14,I_ (.mark JU VD 73 74),G_ 14 (C_ 75)] (A_ [14,13,12,11,8,7,6,2,1] 76 [D_ 10,C_ 14,I_ (.mark JX ak 76 77),G_ 14 (C_ 78)] (.seq [12,11,8,7,6,2,1] (A_ [97,12,11,8,7,6,2,1] 79 [C_ 14,M' 79 AQ,C_ 80,F' 81 (K_ 3 7 11),F' 81 (K_ 1 7 6),F' 81 (I' E4 [82,83]),F' 81 (P' 84),L_ 81 AU 85,C_ 86,F' 87 (I_ (.a true (.mv 12) none)),F' 87 (I_ (.a true (.mv 7) none)),F' 87 (I' Ep [88,89]),F' 87 (P' 90),L_ 87 AU 91,C_ 92,F' 93 (Q_ 13),F' 93 (Q_ 8),F' 93 (B_ (.eqB true 94 95)),L_ 93 AU 96] (.cond 97 (A_ [4] 4 [Q_ Ar] .ret) .skip)) (A_ [15,12,11,8,7,6,2,1] 15 [E' 1] (A_ [15,12,11,8,7,6,2,1] 98 [K_ 3 7 11,C_ 15,I_ (.mark JU VD 98 99),G_ 15 (C_ 100)] (A_ [15,12,11,8,7,6,2,1] 101 [D_ 12,C_ 15,I_ (.mark Mw ZG 101 102),G_ 15 (C_ 103)] (A_ [16,15,12,11,8,7,6,2,1] 16 [E' 1] (A_ [16,15,12,11,8,7,6,2,1] 104 [K_ 3 7 11,C_ 16,I' IL [104,105],G_ 16 (C_ 106)] (.seq [16,15,12,11,8,7,6,2,1] (A_ [108,16,15,12,11,8,7,6,2,1] 107 [C_ 16,M' 107 AQ] (.cond 108 (A_ [4] 4 [Q_ Ar] .ret) .skip)) (A_ [16,15,12,11,8,7,6,2,1] 109 [D_ 12,C_ 16,I' IE [109,110],G_ 16 (C_ 111)] (.seq [16,15,12,11,8,7,6,2,1] (A_ [113,16,15,12,11,8,7,6,2,1] 112 [C_ 16,M' 112 AQ] (.cond 113 (A_ [4] 4 [Q_ Ar] .ret) .skip)) (.seq [15,12,11,8,7,6,2,1] (A_ [116,15,12,11,8,7,6,2,1] 114 [C_ 16,C_ 15,N' 114 115] (.cond 116 (A_ [4] 4 [Q_ Ar] .ret) .skip)) (A_ [19,18,17,15,12,11,8,7,6] 118 [K_ 0 7 2,I' FU [118],D_ 1,I' FZ [120],I' I9 [119,121],G_ 117 (C_ 122),B_ (.extract 117 0),B_ (.extract 117 1),B_ (.extract 117 2),H_ 17 (B_ (.d7 4 [Ab,.X_,.X_,Ab,.X_,Ab,CB])),E_ (.U_ 4 7 17 123),D_ 124,C_ 125] (.seq [15,12,11] (A_ [140,15,12,11] 126 [K_ 4 7 17,K_ 1 7 6,I' E4 [126,127],P' 128,C_ 129,F' 130 (I_ (.a true (.mv 18) none)),F' 130 (I_ (.a true (.mv 7) none)),F' 130 (I' Ep [131,132]),F' 130 (P' 133),L_ 130 AU 134,C_ 135,F' 136 (Q_ 19),F' 136 (Q_ 8),F' 136 (B_ (.eqB true 137 138)),L_ 136 AU 139] (.cond 140 (A_ [4] 4 [Q_ Ar] .ret) .skip)) (A_ [16,15,12,11] 16 [E' 1] (A_ [16,15,12] 141 [K_ 3 7 11,C_ 16,I' IL [141,142],G_ 16 (C_ 143)] (.seq [16,15,12] (A_ [145,16,15,12] 144 [C_ 16,M' 144 AQ] (.cond 145 (A_ [4] 4 [Q_ Ar] .ret) .skip)) (A_ [16,15] 146 [D_ 12,C_ 16,I' IE [146,147],G_ 16 (C_ 148)] (.seq [16,15] (A_ [150,16,15] 149 [C_ 16,M' 149 AQ] (.cond 150 (A_ [4] 4 [Q_ Ar] .ret) .skip)) (.seq [] (A_ [153] 151 [C_ 16,C_ 15,N' 151 152] (.cond 153 (A_ [4] 4 [Q_ Ar] .ret) .skip)) (A_ [4] 4 [Q_ AU] .ret))))))))))))))))))))))))))))))))))
def HQ:Fn:=⟨⟨2,154,5,true,[.tmp 4],sT⟩,[.agg [Av,(.Z_,.sl (.one (.sl Az))),(.Z_,.sl (.one (.sl AO))),Av,(.Z_,.sl AS),Av,(.Z_,.bool)],.one .Z_ (.sl (.one (.int .i64)))],.one (.one .own (.bool))⟩
theorem sU:HQ.A:=AK ⟨xf,V8,Wq,zW,V8,Wq,jI,VN,ZX,V8,VN,Wq,jZ,gJ,wz,VN,ZX,gJ,ti,ia,gS,V8,Wq,jI,VN,ZX,ia,gS,trivial⟩
def U9:Ip->Bool:=HQ.V
def U5:Ip->Prop:=HQ.O
end
section
set_option maxRecDepth 100000
theorem ZoQ(x:Ip)(f)(_:f=Ah x.1)(g)(_:g=Ai x.2)(a)(_:a=As (f,g))(l)(_:l=AR a.1 1)(b)(_:b=Eo ((a.1.1,l.1.2.1,l.1.2.2.1,a.1.2.2.2.1,l.1.2.2.2.2.1,a.1.2.2.2.2.2),1))(q)(_:q=BZ (f,g))(k)(_:k=U' (Ea (a.1,q.1)))(c)(_:c=t8 k (t8 (U' (HS (a.2.1,q.2.1))) (U' (bIff a.2.2 q.2.2))))(d)(_:d=(N7 (a.1,q.1)/\(k=true->True)/\(k=false->PO (a.2.1,q.2.1))))(e)(_:e=Dm a.2.1 l.2)(h)(_:h=b_ (D9 g (AR f 1).2).2 0)(i)(_:i=RR ((a.1.1,l.1.2.1,l.1.2.2.1,a.1.2.2.2.1,l.1.2.2.2.2.1,a.1.2.2.2.2.2),1))(j)(_:j=IF (e.1,b))(m)(_:m=b_ (JW (x.1,1048576)) 0)(n)(_:n=iGt (V' x.2) 1048576)(p)(_:p=b_ b 0)(r)(_:r=U' (Ea (f,f)))(s)(_:s=U' (Og (g,g)))(t)(_:t=j_ j e.2)(u)(_:u=List.length a.1.2.2.2.2.1)(w)(_:w=List.length f.2.2.2.2.1)(y)(_:y=b_ j 0)(z)(_:z=List.length a.1.2.2.1)(aa)(_:aa=N6 x.1)(ab)(_:ab=Od x.2)(ac)(_:ac=List.length f.2.2.1)(ad)(_:ad=List.length a.1.2.1)(ae)(_:ae=List.length f.2.1)(af)(_:af=List.length a.2.1)(ag)(_:ag=t8 h c):U9 x=t8 n (t8 m (W_ (U' c) (W_ (U' r) (W_ (U' s) (W_ (U' ag) (W_ (U' p) (W_ (U' y) (W_ (U' t) (W_ (U' c) (W_ (U' p) (W_ (U' y) (U' t))))))))))))/\U5 x=((n=true->True)/\(n=false->V4 (x.1,1048576)/\(m=true->True)/\(m=false->aa/\ab/\SH (f,g)/\aa/\ab/\Qd (f,g)/\d/\(c=true->True)/\(c=false->aa/\N7 (f,f)/\(r=true->True)/\(r=false->ab/\SN (g,g)/\(s=true->True)/\(s=false->((ae=ae/\ac=ac/\w=w)/\DMk.ok (DMk.mk (RT.cons (CT.int IntKind.i64) (RT.cons (CT.sl (RT.one (CT.sl (RT.cons (CT.int IntKind.i64) (RT.cons (CT.int IntKind.i64) (RT.cons (CT.int IntKind.i64) (RT.one (CT.int IntKind.i64)))))))) (RT.cons (CT.sl (RT.one (CT.sl (RT.cons (CT.int IntKind.i64) (RT.cons (CT.int IntKind.i64) (RT.one (CT.int IntKind.i64))))))) (RT.cons (CT.int IntKind.i64) (RT.cons (CT.sl (RT.cons (CT.int IntKind.i64) (RT.cons (CT.int IntKind.i64) (RT.cons (CT.int IntKind.i64) (RT.cons (CT.int IntKind.i64) (RT.one (CT.int IntKind.i64))))))) (RT.cons (CT.int IntKind.i64) (RT.one CT.bool))))))) true NQ AR false) f)/\(List.length g=List.length g/\DMk.ok (DMk.mk (RT.one (CT.sl (RT.one (CT.int IntKind.i64)))) false PN D9 false) g)/\((h=true->True)/\(h=false->d))/\(ag=true->True)/\(ag=false->((ad=ad/\z=z/\u=u)/\DMk.ok (DMk.mk (RT.cons (CT.int IntKind.i64) (RT.cons (CT.sl (RT.one (CT.sl (RT.cons (CT.int IntKind.i64) (RT.cons (CT.int IntKind.i64) (RT.cons (CT.int IntKind.i64) (RT.one (CT.int IntKind.i64)))))))) (RT.cons (CT.sl (RT.one (CT.sl (RT.cons (CT.int IntKind.i64) (RT.cons (CT.int IntKind.i64) (RT.one (CT.int IntKind.i64))))))) (RT.cons (CT.int IntKind.i64) (RT.cons (CT.sl (RT.cons (CT.int IntKind.i64) (RT.cons (CT.int IntKind.i64) (RT.cons (CT.int IntKind.i64) (RT.cons (CT.int IntKind.i64) (RT.one (CT.int IntKind.i64))))))) (RT.cons (CT.int IntKind.i64) (RT.one CT.bool))))))) true NQ AR false) a.1)/\(af=af/\DMk.ok (DMk.mk (RT.one (CT.sl (RT.cons (CT.int IntKind.i64) (RT.one (CT.sl (RT.one (CT.int IntKind.i64))))))) false PE Dm false) a.2.1)/\i/\(p=true->True)/\(p=false->RL (e.1,b)/\(y=true->True)/\(y=false->(t=true->True)/\(t=false->aa/\ab/\Qd (f,g)/\d/\(c=true->True)/\(c=false->i/\(p=true->True)/\(p=false->RL (e.1,b))))))))))))):=by subst_vars;exact⟨(HQ.v x).trans (by kernel_rfl),(HQ.o x).trans (by kernel_rfl)⟩
abbrev sS:=λx=>(ZoQ x _ rfl _ rfl _ rfl _ rfl _ rfl _ rfl _ rfl _ rfl _ rfl _ rfl _ rfl _ rfl _ rfl _ rfl _ rfl _ rfl _ rfl _ rfl _ rfl _ rfl _ rfl _ rfl _ rfl _ rfl _ rfl _ rfl _ rfl _ rfl _ rfl _ rfl).1
abbrev sQ:=λx=>(ZoQ x _ rfl _ rfl _ rfl _ rfl _ rfl _ rfl _ rfl _ rfl _ rfl _ rfl _ rfl _ rfl _ rfl _ rfl _ rfl _ rfl _ rfl _ rfl _ rfl _ rfl _ rfl _ rfl _ rfl _ rfl _ rfl _ rfl _ rfl _ rfl _ rfl _ rfl).2
attribute [irreducible] U9 U5
end
section
set_option maxRecDepth 20000
theorem sX(x:CP×List Int)(hw:TuX.wf HQ.h x):U5 x/\U9 x=true:=by
 obtain⟨⟨k,s,q,N,j,i,n⟩,g⟩:=x;rw[sQ,sS];obtain⟨w1,Y,U,w4,R,w6,w7⟩:=hw.1;have u:cg (k,s,q,N,j,i,n):=⟨ZcV Y,Zc6 U,⟨R.1,λa _=>by simp[pI,Xp]⟩,trivial⟩;generalize (k,s,q,N,j,i,n)=x at u;simp only;by_cases M:g.length<=1048576;case neg=>
  have e:iGt (V' g) 1048576=true:=(by rw[DH,Al];exact FC (by omega));simp only[e];simp[Bd]
 case pos=>
 have O:iGt (V' g) 1048576=false:=by rw[DH,Al];exact C7 (by omega)
 obtain⟨J,t⟩:=Zfc x u 1048576 (by omega) (by omega);rcases t with t|⟨t,_,y⟩
 ·have e:b_ (JW (x,1048576)) 0=true:=(by rw[An];simpa using t);simp only[O,e];simp[Bd,J]
 have e:b_ (JW (x,1048576)) 0=false:=by rw[An];simpa using t
 have F:TL g:=M;obtain⟨t1,t2⟩:=Zgp x y;obtain⟨u1,u2⟩:=ZiP g F;obtain⟨E,L,b,r1,r2,r3,r4,I,G⟩:=ZdA x g y M;obtain⟨q1,A⟩:=mO x x y;have A:=A.2 rfl;obtain⟨Z,z⟩:=pe g g F;have z:=z.2 rfl;obtain⟨p1,C⟩:=mO E E I;have C:=C.2 rfl;obtain⟨l1,D⟩:=ZeR L L G;have D:=D.2 rfl;obtain⟨m1,⟨m2,m3⟩,_,_⟩:=mQ x y 1 (by omega) (by omega);obtain⟨i1,⟨i2,i3⟩,_,_⟩:=ew g F (AR x 1).2 (by omega) (by omega);obtain⟨n1,⟨n2,n3⟩,n4,n5⟩:=mQ E I 1 (by omega) (by omega);obtain⟨o1,⟨o2,o3⟩,o4,o5⟩:=Zd9 L G (AR E 1).2 (by omega) (by omega);have c0:b_ (AR x 1).2 0=false:=by rw[An];simp;omega
 have c3:b_ (D9 g (AR x 1).2).2 0=false:=by rw[An];simp;omega
 have c1:b_ (AR E 1).2 0=false:=by rw[An];simp;omega
 have c2:b_ (Dm L (AR E 1).2).2 0=false:=by rw[An];simp;omega
 simp only[O,e,t2,u2,r3,r4,J,t1,u1,r1,r2,q1,A,Z,z,p1,C,l1,D,m1,i1,n1,n4,n5,o1,o4,o5,c0,c1,c2,c3];simp[Bd,AB,Ax,EP,Bo]
end
end
end Go.Ag
